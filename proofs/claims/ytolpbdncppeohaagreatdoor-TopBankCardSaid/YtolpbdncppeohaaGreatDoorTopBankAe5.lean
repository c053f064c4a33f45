/- The abstract executor of the program's form in Lean, shown sound: regions that draw their order: what an operation looks at; the walk in the text's order. -/
import Derived.Test.YtolpbdncppeohaaGreatDoorTopBankAe4
namespace Go.Ae
open Go
variable {P:Program} {c:CV} {r r':Operand→Option AV} {h h':AH} {v:AV}
theorem QJ {l:List Operand} (hr:∀x∈l,r x=r' x):kV r l=kV r' l:=by
 induction l with
 |nil=>rfl
 |cons a l ih=>simp_all[kV]
theorem GR {pl:Nat→Option (Nat×Nat)} {l:List (Nat×Operand)} (hr:∀x∈l.map (·.2),r x=r' x):yS pl r l=yS pl r' l:=by
 induction l with
 |nil=>rfl
 |cons a l ih=>simp_all[yS,aS]
theorem Ms {x:Option Operand} (hr:∀y∈x,r y=r' y):G3 r x=G3 r' x:=by
 cases x with
 |none=>rfl
 |some x=>simp only[G3,hr x rfl]
theorem qYi {o:Op} {k:AV→AH→R} (hr:∀x∈o.operands,r x=r' x):bc P c o r h k=bc P c o r' h k:=by
 cases o with
 |call cl=>
  have ha:∀x∈cl.args.toList,r x=r' x:=λx hx=>hr x (by grind[Op.operands,Call.operands]);cases hc:cl.callee with
  |value f=>have hf:r f=r' f:=hr f (by grind[Op.operands,Call.operands]);simp only[bc,hc,hf,QJ ha]
  |invoke x name=>have hx:r x=r' x:=hr x (by grind[Op.operands,Call.operands]);simp only[bc,hc,hx,QJ ha]
  |builtin b=>
   cases b<;>simp only[bc,hc]
   case len=>
    grind
   case min=>rw[QJ ha]
   case max=>rw[QJ ha]
   all_goals split<;>simp_all
 |build t ps=> 
  have hp:∀pl,yS pl r ps.toList=yS pl r' ps.toList:=λpl=>GR λx hx=>hr x (by grind[Op.operands]);simp_all[bc]
 |buildSlice t n ps=> 
  have hp:∀pl,yS pl r ps.toList=yS pl r' ps.toList:=λpl=>GR λx hx=>hr x (by grind[Op.operands]);simp_all[bc]
 |makeFunc fn a cp=>have h1:kV r a.toList=kV r' a.toList:=QJ λx hx=>hr x (by grind[Op.operands]);have h2:kV r cp.toList=kV r' cp.toList:=QJ λx hx=>hr x (by grind[Op.operands]);grind
 |slice t x lo hi mx=>have h1:=hr x (by simp[Op.operands]);have h2:G3 r lo=G3 r' lo:=Ms λy hy=>hr y (by simp_all[Op.operands]);have h3:G3 r hi=G3 r' hi:=Ms λy hy=>hr y (by simp_all[Op.operands]);grind
 |_=>
  simp only[bc]
  try simp only[Op.operands,List.mem_toArray,List.mem_cons,List.not_mem_nil,or_false,forall_eq_or_imp,forall_eq]at hr
  try simp only[hr]
end Go.Ae
namespace Go.Ae
open Go
variable {P:Program} {c:CV} {r:Operand→Option AV} {h h':AH} {v:AV} {o:Op}
theorem jQE (hp:la P o=.pure) (hc:JE P o=false) (hv:QQ P o=false) (g:AH) (k:AV→AH→R):bc P c o r g k=bc P c o r h (λv _=>k v g):=by
 cases o with
 |convert s d x=>
  simp only[la]at hp;simp only[QQ]at hv;simp only[bc,Gb];refine qc λv=>?_;grind
 |slice t x lo hi mx=>
  simp only[JE]at hc;cases mx with
  |some _=>rfl
  |none=>
   simp only[bc];refine qc λ_=>qc λ_=>qc λ_=>?_;grind
 |call cl=>
  simp only[la]at hp;cases fz:cl.callee with
  |value f=>grind
  |invoke a b=>grind
  |builtin b=> 
   rw[fz]at hp;cases b
   case len=>
    simp only[bc,fz];simp only[]at hp;cases cl.args.toList with
    |nil=>rfl
    |cons x xs=>
     cases EA:cl.argTypes.toList with
     |nil=>rfl
     |cons t ts=>
      rw[EA]at hp;simp only[]at hp ⊢;refine qc λv=>?_;grind
   all_goals first |(simp only[bc,fz];done) |grind
 |_=>first |rfl |(simp only[la,reduceCtorEq]at hp;done) |skip
theorem Wk (hp:la P o=.pure) (hc:JE P o=false) (hv:QQ P o=false) (e:cM P c o r h=some (v,h')):h'=h∧∀g,cM P c o r g=some (v,g):=by
 have key:∀g,cM P c o r g=some (v,g):=by intro g;unfold cM;rw[jQE hp hc hv (h:=h),T9,show cM P c o r h=some (v,h')from e];rfl
 simp_all
def CZ (mk:Nat→AV):Prop:=mk=(λb=>.ptr b 0)∨∃l k o,mk=λb=>.slice b 0 l k o
theorem OB (hp:la P o=.fresh) (e:cM P c o r h=some (v,h')):∃mk x,CZ mk∧v=mk h.nx∧h'=h.new x∧∀g,cM P c o r g=some (mk g.nx,g.new x):=by
 have box:∀(t:TypeId) (u:AV),kF h t u (λv h'=>some (v,h'))=some (v,h')→∃mk x,CZ mk∧v=mk h.nx∧h'=h.new x∧∀g,kF g t u (λv h'=>some (v,h'))=some (mk g.nx,g.new x):=by intro t u e;unfold kF at e;simp only[jg]at e;obtain⟨h1,e⟩:=e;cases e;exact⟨λb=>.ptr b 0,_,.inl rfl,rfl,rfl,λg=>by simp_all[kF]⟩
 cases o with
 |alloc t=>grind
 |box t y=>grind
 |buildSlice t n ps=>
  unfold cM at e ⊢;simp only[bc,qg]at e ⊢;obtain⟨d,hd,e⟩:=e;cases d<;>simp only[reduceCtorEq]at e
  rename_i el;simp only[qg,zW]at e;obtain⟨z,hz,hle,vs,pw,e⟩:=e;unfold vG at e;simp only[qg,jg]at e;obtain⟨cs,lZ,h1,e⟩:=e;cases e;refine⟨λb=>.slice b 0 n n false,_,.inr ⟨n,n,false,rfl⟩,rfl,rfl,λg=>⟨_,hd,?_⟩⟩;simp only[qg,zW];refine⟨z,hz,hle,vs,pw,?_⟩;unfold vG;grind
 |makeSlice t a b=>
  unfold cM at e ⊢;simp only[bc,qg]at e ⊢;obtain⟨d,hd,e⟩:=e;cases d<;>simp only[reduceCtorEq]at e
  rename_i el;simp only[qg]at e;obtain⟨z,hz,va,rR,vb,Pd,e⟩:=e;unfold Ja at e
  split at e
  rotate_left
  ·grind
  rename_i k1 ln k2 cp;simp only[jg]at e;obtain⟨h1,e⟩:=e;cases e;refine⟨λb=>.slice b 0 ln cp false,_,.inr ⟨ln,cp,false,rfl⟩,rfl,rfl,λg=>⟨_,hd,?_⟩⟩;simp_all[Ja,jg]
 |convert s d x=>
  simp only[la]at hp
  split at hp
  ·grind
  ·grind
  ·rename_i el hd
   split at hp
   rotate_left
   ·grind
   rename_i hs;unfold cM at e ⊢;simp only[bc,Gb,hs,hd,qg,Option.some.injEq,exists_eq_left']at e ⊢;obtain⟨u,hu,de,Am,e⟩:=e;cases de<;>first |(cases e;done) |skip
   rename_i k;cases k<;>first |(cases e;done) |skip
   simp only[qg,zW]at e;obtain⟨sz,bF,h1,e⟩:=e;unfold Nh at e
   split at e
   rotate_left
   ·grind
   rename_i s;simp only[jg]at e;obtain⟨h2,e⟩:=e;cases e;refine⟨λb=>.slice b 0 s.length 0 true,_,.inr ⟨s.length,0,true,rfl⟩,rfl,rfl,λg=>⟨_,hu,_,Am,?_⟩⟩;simp_all[Nh,jg]
  grind
 |call cl=>
  simp only[la]at hp;cases fz:cl.callee with
  |value f=>simp_all
  |invoke a b=>simp_all
  |builtin b=>
   rw[fz]at hp;cases b<;>first |(cases hp;done) |skip
   simp only[]at hp
   split at hp
   ·split at hp<;>cases hp
   grind
 |_=>simp only[la,reduceCtorEq]at hp
theorem EB {a b:Int} (h:mG a b=true):a=b:=by grind[M2]
theorem EC {a b:List UInt8} (h:iu a b=true):a=b:=by grind[fF]
mutual
theorem UM:∀{a b:AV},gE a b=true→a=b
 | .bool a,.bool b,h=>by simp only[gE,beq_iff_eq]at h;rw[h]
 | .int k a,.int k' b,h=>by simp only[gE,Bool.and_eq_true,beq_iff_eq]at h;rw[h.1,EB h.2]
 | .str a,.str b,h=>by simp only[gE]at h;rw[EC h]
 | .ptr b o,.ptr b' o',h=>by simp only[gE,Bool.and_eq_true]at h;rw[zE h.1,zE h.2]
 | .aU,.aU,_=>rfl
 | .slice b o l c p,.slice b' o' l' c' p',h=>by simp only[gE,Bool.and_eq_true,beq_iff_eq]at h;rw[zE h.1,zE h.2.1,zE h.2.2.1,zE h.2.2.2.1,h.2.2.2.2]
 | .ak,.ak,_=>rfl
 | .fn f a c,.fn f' a' c',h=>by simp only[gE,Bool.and_eq_true]at h;rw[zE h.1,Kw h.2.1,Kw h.2.2]
 | .yield l,.yield l',h=>by simp only[gE]at h;rw[zE h]
 | .dY,.dY,_=>rfl
 | .iface t v,.iface t' v',h=>by simp only[gE,Bool.and_eq_true]at h;rw[zE h.1,UM h.2]
 | .dl,.dl,_=>rfl
 | .agg l,.agg l',h=>by simp only[gE]at h;rw[Kw h]
 | .bV l,.bV l',h=>by simp only[gE]at h;rw[Kw h]
 | .ch a,.ch a',h=>by simp only[gE,decide_eq_true_eq]at h;rw[h]
 | .tail b o o' i,.tail b' p p' j,h=>by simp only[gE,Bool.and_eq_true]at h;rw[zE h.1,zE h.2.1,zE h.2.2.1,zE h.2.2.2]
 | .dp b,.dp b',h=>by simp only[gE]at h;rw[zE h]
theorem Kw:∀{a b:List AV},Kb a b=true→a=b
 |[],[],_=>rfl
 |a::r,b::s,h=>by simp only[Kb,Bool.and_eq_true]at h;rw[UM h.1,Kw h.2]
end
end Go.Ae
namespace Go.Ae
open Go
variable {P:Program} {c:CV} {r:Operand→Option AV} {h h':AH} {v:AV} {o:Op}
theorem Ng {t:TypeId} {x:Operand} (e:cM P c (.load t x) r h=some (v,h')):h'=h∧∃b off,r x=some (.ptr b off)∧
  (∀g,g.get b=h.get b→cM P c (.load t x) r g=some (v,g))∧(∀g,xU (.ptr b off) (kZ P (.load t x)) v g=true→cM P c (.load t x) r g=some (v,g)):=by
 unfold cM at e;simp only[bc,qg]at e;obtain⟨a,ha,i,hi,e⟩:=e;have hn:kZ P (.load t x)=i:=by grind[kZ]
 rw[hn];cases i with
 |none=>
  simp only[gM]at e
  split at e
  rotate_left
  ·grind
  rename_i b off;have hz:∃z,(∀g,g.get b=h.get b→ja g (.ptr b off) (λz=>some (z,g))=some (z,g))∧(v,h')=(z,h):=by
   split at e
   ·rename_i cs t' op hg;simp only[qg]at e;obtain⟨z,hz,e⟩:=e;cases e;exact⟨_,λg Bw=>by grind[gM],rfl⟩
   ·rename_i ti hg;simp only[qg]at e;obtain⟨z,hz,e⟩:=e;cases e;exact⟨_,λg Bw=>by grind[gM],rfl⟩
   grind
  obtain⟨z,hz,e⟩:=hz;cases e;refine⟨rfl,b,off,ha,?_,?_⟩
  ·grind
  ·intro g hl;unfold cM;simp only[bc,qg];refine⟨_,ha,_,hi,?_⟩;simp only[xU]at hl
   split at hl
   ·rename_i Lh t2 op2 pZ
    split at hl
    ·rename_i y hy;have:=UM hl;subst this;simp only[gM,pZ,qg];grind
    grind
   ·rename_i ti pZ
    split at hl
    ·rename_i y hy;have:=UM hl;subst this;simp only[gM,pZ,qg];grind
    grind
   grind
 |some n=>
  simp only[QK]at e
  split at e
  rotate_left
  ·grind
  rename_i b off;simp only[qg]at e;obtain⟨z,hz,e⟩:=e;cases e;refine⟨rfl,b,off,ha,?_,?_⟩
  ·intro g Bw;unfold cM;simp only[bc,qg];refine⟨_,ha,_,hi,?_⟩;simp only[QK,qg];refine⟨z,?_,rfl⟩;grind[vq]
  ·intro g hl;unfold cM;simp only[bc,qg];refine⟨_,ha,_,hi,?_⟩;simp only[QK,qg];simp only[xU]at hl
   split at hl
   ·rename_i Lh t2 op2 pZ
    split at hl
    ·rename_i y hy;have:=UM hl;cases this;refine⟨_,?_,rfl⟩;grind[vq]
    grind
   ·rename_i ti pZ
    split at hl
    ·rename_i y hy;have:=UM hl;cases this;refine⟨_,?_,rfl⟩;grind[vq]
    grind
   grind
theorem Y0 (hl:V6 o=true):∃t x,o=.load t x:=by
 cases o<;>first |exact⟨_,_,rfl⟩ |cases hl
theorem Zo (a b:Nat) (h:b+1≤65536):(a*65536+b)/65536=a∧(a*65536+b)%65536=b:=by omega
theorem Za (hc:JE P o=true) (e:cM P c o r h=some (v,h')):h'=h∧∃x∈o.operands,∃u,r x=some u∧Xt r o=some u∧
  (∀g,(∀b off l i,u=.slice b off l i true→g.get b=h.get b)→cM P c o r g=some (v,g))∧(∀g,xU u (kZ P o) v g=true→cM P c o r g=some (v,g)):=by
 cases o<;>try (cases hc;done)
 rename_i t x lo hi mx;unfold cM at e;cases mx with
 |some _=>grind
 |none=>
  simp only[bc,qg]at e;obtain⟨u,hu,l,hl,q,hq,d,hd,e⟩:=e;cases d<;>first |(simp only[reduceCtorEq]at e;done) |skip
  case string=>grind[JE]
  case array n el=>grind[JE]
  case slice el=>
   simp only[qg]at e;obtain⟨sz,bF,e⟩:=e;have key:∀g:AH,(∀b off l i,u=.slice b off l i true→g.get b=h.get b)→vW g el sz u l q (λz=>some (z,g))=cD (vW h el sz u l q (λz=>some (z,h))) (λv _=>some (v,g)):=by
    intro g hg;rw[LV];unfold vW
    split
    ·rfl
    ·rename_i b off len i0;have:ve g el b off sz i0 len=ve h el b off sz i0 len:=by unfold ve;grind
     grind
    all_goals rfl
   have ED:∀g:AH,(∀b off l i,u=.slice b off l i true→g.get b=h.get b)→cM P c (.slice t x lo hi none) r g=some (v,g):=by intro g hg;unfold cM;simp only[bc,qg];refine⟨u,hu,l,hl,q,hq,_,hd,?_⟩;simp only[qg];refine⟨sz,bF,?_⟩;grind
   have Pe:∀g:AH,xU u (kZ P (.slice t x lo hi none)) v g=true→cM P c (.slice t x lo hi none) r g=some (v,g):=by
    intro g hg;unfold cM;simp only[bc,qg];refine⟨u,hu,l,hl,q,hq,_,hd,?_⟩;simp only[qg];refine⟨sz,bF,?_⟩;have e0:vW g el sz u l q (λz=>some (z,g))=cD (vW h el sz u l q (λz=>some (z,h))) (λv _=>some (v,g)):=by
     rw[LV];unfold vW at e ⊢
     split at e
     ·rfl
     ·rename_i b off len i0;simp only[kZ,hd,bF]at hg;cases hb:Nat.ble (sz+1) 65536
      ·rw[hb]at hg;cases hg
      ·rw[hb]at hg;simp only[cond_true,xU]at hg;have h1:=wX hb;grind[Zo,ve]
     all_goals rfl
    grind
   refine⟨?_,x,by simp[Op.operands],u,hu,hu,ED,Pe⟩;grind
theorem qYd {s:List UInt8} (hc:JE P o=true) (e:cM P c o r h=some (.str s,h')):False:=by
 cases o<;>try (cases hc;done)
 rename_i t x lo hi mx;unfold cM at e;cases mx with
 |some _=>grind
 |none=>
  simp only[bc,qg]at e;obtain⟨u,hu,l,hl,q,hq,d,hd,e⟩:=e;cases d<;>first |(simp only[reduceCtorEq]at e;done) |skip
  case string=>grind[JE]
  case array n el=>grind[JE]
  case slice el=>
   simp only[qg]at e;obtain⟨sz,bF,e⟩:=e;unfold vW at e
   grind
theorem M6 (hc:QQ P o=true) (e:cM P c o r h=some (v,h')):h'=h∧kZ P o=none∧(∃s,v=.str s)∧∃x∈o.operands,∃u,r x=some u∧Xt r o=some u∧
  ∀g,(∀b off l i p,u=.slice b off l i p→g.get b=h.get b)→cM P c o r g=some (v,g):=by
 cases o<;>try (cases hc;done)
 rename_i s d x;simp only[QQ]at hc
 split at hc
 rotate_left
 ·grind
 rename_i hd
 split at hc
 rotate_left
 ·grind
 rename_i el hs;unfold cM at e;simp only[bc,Gb,hs,hd,qg,Option.some.injEq,exists_eq_left']at e;obtain⟨u,hu,de,Am,e⟩:=e;cases de<;>first |(cases e;done) |skip
 rename_i k;cases k<;>first |(cases e;done) |skip
 replace e:GC h u (λz=>some (z,h))=some (v,h'):=e
 have key:∀g,(∀b off l i p,u=.slice b off l i p→g.get b=h.get b)→(∃s,v=.str s)∧h'=h∧cM P c (.convert s d x) r g=some (v,g):=by
  intro g hg;have go:∀z,GC g u (λy=>some (y,g))=some (z,g)→cM P c (.convert s d x) r g=some (z,g):=λz hz=>by
   grind
  unfold GC at e
  split at e
  ·cases e;exact⟨⟨_,rfl⟩,rfl,go _ rfl⟩
  ·rename_i b off len i p;simp only[qg]at e;obtain⟨cs,lZ,t,ht,e⟩:=e;cases e;refine⟨⟨_,rfl⟩,rfl,go _ ?_⟩;unfold GC;simp only[qg];refine⟨cs,?_,t,ht,rfl⟩;unfold vq at lZ ⊢;grind
  grind
 obtain⟨k1,k2,_⟩:=key h (λ_ _ _ _ _ _=>rfl);exact⟨k2,rfl,k1,x,by simp[Op.operands],u,hu,hu,λg hg=>(key g hg).2.2⟩
theorem jJi (hl:QQ P o=true):∃s d x,o=.convert s d x:=by
 cases o<;>first |exact⟨_,_,_,rfl⟩ |cases hl
theorem Wl (hl:QQ P o=true):z6 P o=false:=by
 obtain⟨s,d,x,rfl⟩:=jJi hl;grind[QQ,z6,la]
theorem qyL (l:List Nat) (t:Nat):(DL l).testBit t=l.any λa=>a.testBit t:=by
 induction l with
 |nil=>simp[DL]
 |cons a l ih=>grind[DL]
theorem Zd (t s:Nat):(bit t).testBit s=decide (t=s):=by simp[bit,Nat.testBit_two_pow]
theorem GO {all:List Oper} {o:Oper} {t:Nat} (h:.tmp t∈o.op.operands):(looks all o).testBit t=true:=by unfold looks;rw[Nat.testBit_or,qyL];simp only[Bool.or_eq_true,List.any_eq_true,List.mem_map];exact .inl ⟨_,⟨.tmp t,by grind,rfl⟩,by simp[Tt,Zd]⟩
theorem qJU {all:List Oper} {o:Oper} {g:Nat×Bool} {d:Nat} (hg:o.guard=some g) (hd:QM all o=some d):(looks all o).testBit d=true:=by simp_all[looks,Nat.testBit_or,Zd]
theorem Xb (o:Oper) (t:Nat):(Xe o).testBit t=decide (o.dst=some t):=by
 grind[Xe,Zd]
theorem Vp {a b:Nat} (h:Nat.beq (a&&&b) 0=true) (t:Nat) (ha:a.testBit t=true):b.testBit t=false:=by have h:=zE h;have:=congrArg (λx=>x.testBit t) h;grind
end Go.Ae
namespace Go.Ae
open Go
variable {P:Program}
def Vj (e:Edge):Bool:=Region.binds .any e
theorem X7 {j:Nat} {l:List Edge} (h:Qp j l=true):∀e∈l,Vj e=true→e.on<j:=by
 induction l with
 |nil=>simp
 |cons a l ih=>
  simp only[Qp,Bool.and_eq_true]at h;intro e he hb;rcases List.mem_cons.1 he with rfl |he
  all_goals grind[Vj,zL]
def Vy (mk wj lj:Nat) (e:DM):Prop:=mk.testBit e.i=true∨(Nat.beq (e.w&&&(lj|||wj)) 0=true∧Nat.beq (wj&&&e.l) 0=true)
theorem qXe {mk wj lj:Nat} {l:List DM} (h:Hz mk wj lj l=true):∀e∈l,Vy mk wj lj e:=by
 induction l with
 |nil=>simp
 |cons a l ih=>
  simp only[Hz,Bool.and_eq_true,Bool.or_eq_true]at h;intro e he;rcases List.mem_cons.1 he with rfl |he
  ·exact h.1
  grind
theorem qjF {t:PT Nat} {all:List Oper}:∀(l:List Oper) (j:Nat) (es:List DM),tS t all l j es=true→∀k o,l[k]? =some o→Qp (j+k) o.after.toList=true∧
  (∀e∈es,Vy (xq t (j+k)) (Xe o) (looks all o) e)∧∀i oi,i<k→l[i]? =some oi→Vy (xq t (j+k)) (Xe o) (looks all o) ⟨j+i,Xe oi,looks all oi⟩:=by
 intro l
 induction l with
 |nil=>simp
 |cons a l ih=>
  intro j es h k o hk;simp only[tS,Bool.and_eq_true]at h;obtain⟨h1,h2,h3⟩:=h;cases k with
  |zero=>grind[qXe]
  |succ k=>
   simp at hk;obtain⟨g1,g2,g3⟩:=ih (j+1) _ h3 k o hk;rw[show j+1+k=j+(k+1) by omega]at g1 g2 g3;refine⟨g1,λe he=>g2 e (iX _ he),?_⟩;intro i oi hi l6;cases i with
   |zero=>grind
   |succ i=>
    grind
theorem Wm:∀(l:List Oper) (j:Nat) (t:PT Nat) (i:Nat),i<j→(ky l j t).get i=t.get i:=by
 intro l
 induction l with
 |nil=>intro j t i _;rfl
 |cons a l ih=>intro j t i hi;simp only[ky];rw[ih _ _ _ omQ,PT.bP,iQ omQ]
theorem qK0:∀(l:List Oper) (j:Nat) (t:PT Nat) (k:Nat) (o:Oper),l[k]? =some o→∃T:PT Nat,(∀i,i<j+k→(ky l j t).get i=T.get i)∧
  (ky l j t).get (j+k)=some (o.after.toList.foldl (λs e=>bif Region.binds .any e then s|||(2 ^ e.on|||xq T e.on)else s) 0):=by
 intro l
 induction l with
 |nil=>simp
 |cons a l ih=>
  intro j t k o hk;cases k with
  |zero=>
   simp at hk;subst hk;refine⟨t,?_,?_⟩
   ·intro i hi;simp only[ky];rw[Wm _ _ _ _ omQ,PT.bP,iQ omQ]
   ·simp only[ky,Nat.add_zero];rw[Wm _ _ _ _ omQ,PT.bP,iJ rfl];rfl
  |succ k=>simp at hk;obtain⟨T,h1,h2⟩:=ih (j+1) _ k o hk;rw[show j+1+k=j+(k+1) by omega]at h1 h2;exact⟨T,h1,h2⟩
theorem qq8 {T:PT Nat} {k:Nat}:∀(l:List Edge) (s:Nat),(l.foldl (λs e=>bif Region.binds .any e then s|||(2 ^ e.on|||xq T e.on)else s) s).testBit k=true→
  s.testBit k=true∨∃e∈l,Vj e=true∧(k=e.on∨(xq T e.on).testBit k=true):=by
 intro l
 induction l with
 |nil=>simp
 |cons a l ih=>
  intro s h;simp only[List.foldl_cons]at h;rcases ih _ h with h |⟨e,he,hb,hk⟩
  ·cases hb:Region.binds .any a
   ·grind
   ·rw[hb]at h;simp only[cond_true,Nat.testBit_or,Bool.or_eq_true,Nat.testBit_two_pow,decide_eq_true_eq]at h;rcases h with h |h |h
    ·grind
    ·exact .inr ⟨a,iK ..,hb,.inl h.symm⟩
    ·exact .inr ⟨a,iK ..,hb,.inr h⟩
  grind
theorem qvo {ops:Array Oper} {i k:Nat} {o:Oper} (ho:ops[i]? =some o) (hb:Qp i o.after.toList=true) (h:(xq (ky ops.toList 0 .e) i).testBit k=true) :
  ∃e∈o.after,Vj e=true∧e.on<i∧(k=e.on∨(xq (ky ops.toList 0 .e) e.on).testBit k=true):=by
 obtain⟨T,h1,h2⟩:=qK0 ops.toList 0 .e i o (by grind);simp only[Nat.zero_add]at h1 h2;unfold xq at h;rw[h2]at h;simp only[]at h;rcases qq8 _ _ h with h |⟨e,he,C0,hk⟩
 all_goals grind[X7,xq,ky]
theorem qK7 {t:PT Nat} {s:Nat→Prop} (hs:∀a b,s a→(xq t a).testBit b=true→s b):∀(l:List Oper) (j:Nat) (last:Option Nat),chain P t l j last=true→
  ∀k o,l[k]? =some o→z6 P o.op=true→s (j+k)→(∀i,last=some i→s i)∧∀i oi,i<k→l[i]? =some oi→z6 P oi.op=true→s (j+i):=by
 intro l
 induction l with
 |nil=>simp
 |cons a l ih=>
  intro j last h k o hk hh oh;simp only[chain]at h;cases ha:z6 P a.op
  ·rw[ha]at h;cases k with
   |zero=>grind
   |succ k=>
    simp at hk;rw[show j+(k+1)=j+1+k by omega]at oh;obtain⟨g1,g2⟩:=ih (j+1) last h k o hk hh oh;refine⟨g1,?_⟩;intro i oi hi l6 mi;cases i with
    |zero=>grind
    |succ i=>
     grind
  ·rw[ha]at h;simp only[cond_true,Bool.and_eq_true]at h;obtain⟨h1,h2⟩:=h;have cd:s j→∀i,last=some i→s i:=by
    grind
   cases k with
   |zero=>grind
   |succ k=>
    simp at hk;rw[show j+(k+1)=j+1+k by omega]at oh;obtain⟨g1,g2⟩:=ih (j+1) (some j) h2 k o hk hh oh;have hj:=g1 j rfl;refine⟨cd hj,?_⟩;intro i oi hi l6 mi;cases i with
    |zero=>grind
    |succ i=>
     grind
theorem Nj {t:PT Nat} {i:Nat}:∀(l:List Oper) (j:Nat),Ys P t i l j=false→∀k o,l[k]? =some o→z6 P o.op=true→kL t i (j+k)=false:=by
 intro l
 induction l with
 |nil=>simp
 |cons a l ih=>
  intro j h k o hk hh;simp only[Ys,Bool.or_eq_false_iff]at h;cases k with
  |zero=>grind
  |succ k=>
   grind
theorem Nn {t:PT Nat} {p:Op→Bool} {all:List Oper}:∀(l:List Oper) (i:Nat),Yf P p t all l i=false→∀k o,l[k]? =some o→p o.op=true→
  ∀j oj,all[j]? =some oj→z6 P oj.op=true→kL t (i+k) j=false:=by
 intro l
 induction l with
 |nil=>simp
 |cons a l ih=>
  intro i h k o hk hp j oj hj hh;simp only[Yf,Bool.or_eq_false_iff]at h;cases k with
  |zero=>simp at hk;subst hk;have h1:=h.1;rw[hp,Bool.true_and]at h1;have:=Nj all 0 h1 j oj hj hh;grind
  |succ k=>
   grind
structure Stat (P:Program) (ops:Array Oper) (M:PT Nat):Prop where
  back:∀j o,ops[j]? =some o→∀e∈o.after,Vj e=true→e.on<j
  pC:∀i o k,ops[i]? =some o→(xq M i).testBit k=true→∃e∈o.after,Vj e=true∧e.on<i∧(k=e.on∨(xq M e.on).testBit k=true)
  apart:∀i j oi oj,i<j→ops[i]? =some oi→ops[j]? =some oj→Vy (xq M j) (Xe oj) (looks ops.toList oj) ⟨i,Xe oi,looks ops.toList oi⟩
  chain:∀s:Nat→Prop,(∀a b,s a→(xq M a).testBit b=true→s b)→∀i j oi oj,i<j→ops[i]? =some oi→ops[j]? =some oj→z6 P oi.op=true→z6 P oj.op=true→s j→s i
theorem qyR {ops:Array Oper} (h:HK P ops=true):Stat P ops (ky ops.toList 0 .e):=by
 simp only[HK,Bool.and_eq_true]at h;obtain⟨h1,h2⟩:=h;have hl:=qjF _ _ _ h1;refine⟨?_,?_,?_,?_⟩
 ·intro j o ho e he hb;have:=(hl j o (by grind)).1;rw[Nat.zero_add]at this;exact X7 this e (by grind) hb
 ·simp_all[Nat.zero_add,qvo]
 ·grind
 ·intro s hs i j oi oj p8 hi hj mi Pf EE;have:=(qK7 hs _ _ _ h2 j oj (by grind) Pf (by grind)).2 i oi p8 (by grind) mi;grind
end Go.Ae
namespace Go.Ae
open Go
variable {P:Program} {c:CV} {r r':Operand→Option AV} {h h':AH} {v:AV}
theorem jX {α:Type} {x y:Option α} {f g:α→R} {q:AV×AH} (hx:∀v,x=some v→y=some v) (hf:∀v,x=some v→f v=some q→g v=some q) (e:ob x f=some q):ob y g=some q:=by grind
theorem qYn (hr:∀x v,r x=some v→r' x=some v):∀(l:List Operand) (s:List AV),kV r l=some s→kV r' l=some s:=by
 intro l
 induction l with
 |nil=>intro s e;exact e
 |cons a l ih=>grind[kV,Option.bind_eq_some_iff]
theorem qJF (hr:∀x v,r x=some v→r' x=some v) {pl:Nat→Option (Nat×Nat)}:∀(l:List (Nat×Operand)) (s:List (Nat×Nat×AV)),yS pl r l=some s→yS pl r' l=some s:=by
 intro l
 induction l with
 |nil=>intro s e;exact e
 |cons a l ih=>intro s e;obtain⟨i,x⟩:=a;simp only[yS,Option.bind_eq_some_iff,Option.map_eq_some_iff]at e ⊢;grind
theorem qjR (hr:∀x v,r x=some v→r' x=some v) (x:Option Operand) (s:Option AV) (e:G3 r x=some s):G3 r' x=some s:=by
 cases x with
 |none=>exact e
 |some x=>grind[G3,Option.map_eq_some_iff]
theorem ML {o:Op} {k:AV→AH→R} {q:AV×AH} (hr:∀x v,r x=some v→r' x=some v) (e:bc P c o r h k=some q):bc P c o r' h k=some q:=by
 have m1:=qYn hr;have m2:=λpl=>qJF hr (pl:=pl);have m3:=qjR hr;cases o with
 |call cl=>
  cases hc:cl.callee with
  |value f=>simp only[bc,hc]at e ⊢;grind
  |invoke x name=>simp only[bc,hc]at e ⊢;grind
  |builtin b=>
   cases b<;>simp only[bc,hc,reduceCtorEq]at e ⊢
   case len=>
    grind
   case min=>grind
   case max=>grind
   case append=>
    generalize cl.argTypes.toList=ts at*;generalize cl.args.toList=xs at*;rcases xs with _ |⟨s,_ |⟨x,_ |⟨y,xs⟩⟩⟩<;>rcases ts with _ |⟨t,_ |⟨u,ts⟩⟩<;>simp only[reduceCtorEq]at e ⊢
    refine jX (λ_ e=>e) (λdu _ e=>?_) e;revert e
    split
    ·simp
    ·refine jX (λ_ e=>e) (λd _ e=>?_);revert e
     split
     all_goals grind
   case copy=>
    generalize cl.argTypes.toList=ts at*;generalize cl.args.toList=xs at*;rcases xs with _ |⟨s,_ |⟨x,_ |⟨y,xs⟩⟩⟩<;>rcases ts with _ |⟨t,ts⟩<;>simp only[reduceCtorEq]at e ⊢
    grind
   grind
 |build t ps=>
  simp only[bc]at e ⊢;refine jX (λ_ e=>e) (λ_ _=>jX (λ_ e=>e) λd _ e=>?_) e;revert e
  split
  all_goals grind
 |buildSlice t n ps=>
  simp only[bc]at e ⊢;refine jX (λ_ e=>e) (λd _ e=>?_) e;revert e
  split
  ·refine jX (λ_ e=>e) (λ_ _ e=>?_);grind
  simp
 |makeFunc fn a cp=>
  grind
 |makeInterface t x=>
  grind
 |makeSlice t a b=>
  simp only[bc]at e ⊢;refine jX (λ_ e=>e) (λd _ e=>?_) e;revert e
  split
  all_goals grind
 |slice t x lo hi mx=>
  grind
 |range t x=>
  grind
 |makeMap t hint=>grind
 |lookup t x i ok=>grind
 |mapEntry t x i=>grind
 |mapUpdate t x s y=>grind
 |entryStore t x s y=>grind
 |next x b=>grind
 |pick a b d=>grind
 |store t a x=>grind
 |binOp op t x y u=>grind
 |indexAddr t x i=>grind
 |index t x i=>grind
 |alloc t=>grind
 |_=>first |exact jX (hr _) (λ_ _ e=>e) e |(simp only[bc,reduceCtorEq]at e;done)
def cR (F:Nat→Option AV) (dst:Option Tmp) (v:AV):Nat→Option AV:=λt=>if dst=some t then some v else F t
def fJ (F:Nat→Option AV):Operand→Option AV
 | .tmp t=>F t
 | .const v=>DD v
 | .global _=>none
 | .func f=>some (.fn f [] [])
def Qh (tm:PT AV) (F:Nat→Option AV):Prop:=∀t v,tm.get t=some v→F t=some v
theorem Im {tm:PT AV} {F:Nat→Option AV} (h:Qh tm F):∀x v,ev tm x=some v→fJ F x=some v:=by
 intro x v e;cases x with
 |tmp t=>exact h t v e
 |_=>exact e
def QU:AV→Bool→Bool
 | .bool t,w=>t==w
 |_,_=>false
structure Pg (P:Program) (c:CV) (n:Nat) (ops:Array Oper) (LP:X0→Prop) (HP:Xq→Prop) (i:Nat) (o:Oper) (F:Nat→Option AV) (h:AH) (v:AV) (b:Bool) (h':AH):Prop where
  yes:b=true→cM P c o.op (fJ F) h=some (v,h')
  no:b=false→v=.undef∧h'=h
  g0:o.guard=none→b=true
  g1:∀g,o.guard=some g→∃d vg,QM ops.toList o=some d∧F d=some vg∧b=QU vg g.2
  dst:∀d,o.dst=some d→d<n
  ld:b=true→gg P o.op=true→∃a,Xt (fJ F) o.op=some a∧LP ⟨i,a,kZ P o.op,v⟩
  hv:b=true→z6 P o.op=true→HP ⟨i,h,h'⟩
inductive mY (P:Program) (c:CV) (n:Nat) (ops:Array Oper) (LP:X0→Prop) (HP:Xq→Prop):Nat→(Nat→Option AV)→AH→Nat→(Nat→Option AV)→AH→Prop where
  |nil (i:Nat) (F:Nat→Option AV) (h:AH):mY P c n ops LP HP i F h i F h
  | cons (i : Nat) (o : Oper) (F : Nat → Option AV) (h : AH) (v : AV) (b : Bool) (h' : AH) (j : Nat) (F' : Nat → Option AV) (h2 : AH) : ops[i]? = some o → Pg P c n ops LP HP i o F h v b h' →
      mY P c n ops LP HP (i+1) (cR F o.dst v) h' j F' h2→mY P c n ops LP HP i F h j F' h2
theorem mY.trans {n:Nat} {ops:Array Oper} {LP:X0→Prop} {HP:Xq→Prop} {i j k:Nat} {F F' Wn:Nat→Option AV} {h h' po:AH}
  (a:mY P c n ops LP HP i F h j F' h') (b:mY P c n ops LP HP j F' h' k Wn po):mY P c n ops LP HP i F h k Wn po:=by
 induction a with
 |nil=>grind
 |cons i o F h v b' h' j F' h2 ho hs _ ih=>exact .cons i o F h v b' h' k _ _ ho hs (ih b)
structure Tr (P:Program) (c:CV) (n:Nat) (ops:Array Oper) (LP:X0→Prop) (HP:Xq→Prop) (F:Nat→Nat→Option AV) (H:Nat→AH) (V:Nat→AV) (W:Nat→Bool):Prop where
  step:∀i o,ops[i]? =some o→Pg P c n ops LP HP i o (F i) (H i) (V i) (W i) (H (i+1))∧F (i+1)=cR (F i) o.dst (V i)
theorem mY.fns {n:Nat} {ops:Array Oper} {LP:X0→Prop} {HP:Xq→Prop} {i j:Nat} {F0 F1:Nat→Option AV} {h0 h1:AH} (a:mY P c n ops LP HP i F0 h0 j F1 h1) :
  i≤j∧∃(F:Nat→Nat→Option AV) (H:Nat→AH) (V:Nat→AV) (W:Nat→Bool),F i=F0∧H i=h0∧F j=F1∧H j=h1∧
   ∀k o,i≤k→k<j→ops[k]? =some o→Pg P c n ops LP HP k o (F k) (H k) (V k) (W k) (H (k+1))∧F (k+1)=cR (F k) o.dst (V k):=by
 induction a with
 |nil i F h=>exact⟨Nat.le_refl _,λ_=>F,λ_=>h,λ_=>.undef,λ_=>true,rfl,rfl,rfl,rfl,λk o h1 h2=>by omega⟩
 |cons i o F h v b h' j F' h2 ho hs _ ih=>
  obtain⟨p8,G,H,V,W,e1,e2,e3,e4,e5⟩:=ih;refine⟨by omega,λk=>if k=i then F else G k,λk=>if k=i then h else H k,λk=>if k=i then v else V k,λk=>if k=i then b else W k,by simp,by simp,?_,?_,?_⟩
  all_goals grind
end Go.Ae
namespace Go.Ae
open Go
variable {P:Program} {c:CV} {n:Nat} {ops:Array Oper}
theorem Ko {tm:PT AV} {F:Nat→Option AV} (h:Qh tm F) {dst:Option Tmp} {v:AV} {k:PT AV→R} {r:AV×AH} (e:NZ n tm dst v k=some r) :
  ∃tm',k tm'=some r∧Qh tm' (cR F dst v)∧∀d,dst=some d→d<n:=by
 cases dst with
 |none=>exact⟨tm,e,λt u hu=>by simp only[cR];rw[iQ aS];exact h t u hu,λd hd=>by grind⟩
 |some d=>
  simp only[NZ,zW]at e;refine⟨_,e.2,?_,λd' hd=>by cases hd;exact zL e.1⟩;intro t u hu;rw[PT.bP]at hu;simp only[cR];by_cases hd:d=t
  ·grind
  ·rw[iQ hd]at hu;rw[iQ (by grind)];exact h t u hu
theorem Ou {o:Op} (hl:gg P o=true):V6 o=true∨JE P o=true∨QQ P o=true:=by simp_all[gg,Bool.or_eq_true]
theorem qzn {o:Op} (hl:JE P o=true):∃t x lo hi mx,o=.slice t x lo hi mx:=by
 cases o<;>first |exact⟨_,_,_,_,_,rfl⟩ |cases hl
theorem jJN {o:Op} (hl:gg P o=true):z6 P o=false:=by
 rcases Ou hl with h |h |h
 ·obtain⟨t,x,rfl⟩:=Y0 h;rfl
 ·obtain⟨t,x,lo,hi,mx,rfl⟩:=qzn h;rfl
 grind[Wl]
theorem qwi {tm:PT AV} {F:Nat→Option AV} (T:Qh tm F) {o:Op} {a:AV} (h:Xt (ev tm) o=some a):Xt (fJ F) o=some a:=by
 cases o<;>first |exact Im T _ _ h |cases h
theorem Wo {F:Nat→Option AV} {h h':AH} {o:Op} {v:AV} (e:cM P c o (fJ F) h=some (v,h')) (hl:gg P o=true):∃a,Xt (fJ F) o=some a:=by
 rcases Ou hl with hl |hl |hl
 ·obtain⟨t,x,rfl⟩:=Y0 hl;obtain⟨_,b,off,hx,_⟩:=Ng e;exact⟨_,hx⟩
 ·obtain⟨_,x,_,u,_,hu,_⟩:=Za hl e;simp_all
 ·obtain⟨_,_,_,x,_,u,_,hu,_⟩:=M6 hl e;simp_all
theorem OQ {F:Nat→Option AV} {dst:Option Tmp} {v:AV} {d:Nat} (h:dst≠some d):cR F dst v d=F d:=by simp_all[cR]
abbrev LT:X0→Prop:=λ_=>True
abbrev HT:Xq→Prop:=λ_=>True
theorem qvM {g:Option (Nat×Bool)} {r:AV×AH}:∀(l:List Oper) (j:Nat) (tm:PT AV) (F:Nat→Option AV) (h:AH) (k:PT AV→AH→R),
  (∀i o,l[i]? =some o→ops[j+i]? =some o∧o.guard=g)→
  (∀q,g=some q→∃d vg,(∀o:Oper,o.guard=some q→QM ops.toList o=some d)∧writes d l=false∧F d=some vg∧QU vg q.2=true)→
  Qh tm F→CJ P c n l tm h k=some r→∃tm' h' F',k tm' h'=some r∧Qh tm' F'∧mY P c n ops LT HT j F h (j+l.length) F' h':=by
 intro l
 induction l with
 |nil=>intro j tm F h k _ _ T e;exact⟨tm,h,F,e,T,.nil _ _ _⟩
 |cons o l ih=>
  intro j tm F h k hl hg T e;simp only[CJ]at e;obtain⟨v,h1,e1,e⟩:=Yx e;have e1:=ML (Im T) e1;obtain⟨cN,e,T1,hd⟩:=Ko T e;obtain⟨ho,fI⟩:=hl 0 o rfl
  obtain⟨tm',h',F',e',T',S⟩:=ih (j+1) cN _ h1 k (λi o' hi=>by have:=hl (i+1) o' hi;rwa [show j+(i+1)=j+1+i by omega]at this) (by
   intro q hq;obtain⟨d,vg,g1,g2,g3,g4⟩:=hg q hq;refine⟨d,vg,g1,?_,?_,g4⟩
   ·simp only[writes,Bool.or_eq_false_iff]at g2;exact g2.2
   ·rw[OQ (Y9 g2 o (iK ..))];omega) T1 e
  refine⟨tm',h',F',e',T',?_⟩;rw[show j+(o::l).length=j+1+l.length by simp;omega];refine .cons j o F h v true h1 _ _ _ ho ⟨λ_=>e1,(λhh=>by cases hh),λ_=>rfl,?_,hd,?_,λ_ _=>trivial⟩ S
  ·intro q hq;rw[fI]at hq;obtain⟨d,vg,g1,g2,g3,g4⟩:=hg q hq;exact⟨d,vg,g1 o (by rw[fI,hq]),g3,g4.symm⟩
  ·intro _ ue;obtain⟨a,ha⟩:=Wo e1 ue;exact⟨a,ha,trivial⟩
theorem qYl {q:Nat×Bool} {d:Nat} {vg:AV} {h:AH} {r:AV×AH}:∀(l:List Oper) (j:Nat) (tm:PT AV) (F:Nat→Option AV) (k:PT AV→R),
  (∀i o,l[i]? =some o→ops[j+i]? =some o∧o.guard=some q)→
  (∀o:Oper,o.guard=some q→QM ops.toList o=some d)→writes d l=false→F d=some vg→QU vg q.2=false→
  Qh tm F→Mx n l tm k=some r→∃tm' F',k tm'=some r∧Qh tm' F'∧mY P c n ops LT HT j F h (j+l.length) F' h:=by
 intro l
 induction l with
 |nil=>intro j tm F k _ _ _ _ _ T e;exact⟨tm,F,e,T,.nil _ _ _⟩
 |cons o l ih=>
  intro j tm F k hl oN hw hF Aw T e;simp only[Mx]at e;obtain⟨cN,e,T1,hd⟩:=Ko T e;obtain⟨ho,fI⟩:=hl 0 o rfl;have bW:=Y9 hw;obtain⟨tm',F',e',T',S⟩:=ih (j+1) cN _ k (λi o' hi=>by have:=hl (i+1) o' hi;grind) oN
   (by grind[writes,Bool.or_eq_false_iff]) (by simp_all[OQ]) Aw T1 e
  refine⟨tm',F',e',T',?_⟩;rw[show j+(o::l).length=j+1+l.length by grind];refine .cons j o F h .undef false h _ _ _ ho ⟨(λhh=>by grind),λ_=>⟨rfl,rfl⟩,(λhh=>by grind),?_,hd,(λhh=>by grind),(λhh=>by simp)⟩ S;grind
theorem jKI {tm:PT AV} {F:Nat→Option AV} (T:Qh tm F):∀(L:List Nat) (acc:PT AV),Qh acc F→yv tm L=true→Qh (kM L (wb L tm) acc) F:=by
 intro L
 induction L with
 |nil=>intro acc A _;exact A
 |cons t L ih=>
  intro acc A hh;simp only[yv,Bool.and_eq_true]at hh;simp only[wb,kM];refine ih _ ?_ hh.2;have h1:=hh.1;unfold has at h1
  split at h1
  ·rename_i v hv;intro s u hs;rw[PT.bP]at hs;by_cases e:t=s
   ·subst e;rw[iJ rfl]at hs;cases hs;exact T t v hv
   ·rw[iQ e]at hs;exact A s u hs
  grind
theorem Wp {tm:PT AV} {F:Nat→Option AV} (T:Qh tm F) (L:List Nat) (hh:yv tm L=true):Qh (kM L (wb L tm) .e) F:=jKI T L .e (λt v hv=>by trivial) hh
theorem Mg {v:AV} {w:Bool} {a b:R} {r:AV×AH} (e:wa v w a b=some r):(QU v w=true∧a=some r)∨(QU v w=false∧b=some r):=by
 rw[MX]at e
 split at e
 ·rename_i t;simp only[QU];grind
 ·rename_i hn;refine .inr ⟨?_,e⟩;cases v<;>first |rfl |grind
theorem qkR {r:AV×AH}:∀(f:Nat) (l:List Oper) (j:Nat) (Ls:List (List Nat)) (tm:PT AV) (F:Nat→Option AV) (h:AH) (k:PT AV→AH→R),
  (∀i o,l[i]? =some o→ops[j+i]? =some o)→Qh tm F→Gu P c n ops.toList f l Ls tm h k=some r→
  ∃tm' h' F',k tm' h'=some r∧Qh tm' F'∧mY P c n ops LT HT j F h (j+l.length) F' h':=by
 intro f
 induction f with
 |zero=>
  intro l j Ls tm F h k hl T e;cases l with
  |nil=>exact⟨tm,h,F,e,T,.nil _ _ _⟩
  |cons o l=>grind
 |succ f ih=>
  intro l j Ls tm F h k hl T e;cases l with
  |nil=>exact⟨tm,h,F,e,T,.nil _ _ _⟩
  |cons o l=>
   cases hg:o.guard with
   |none=>simp only[Gu,hg]at e;obtain⟨v,h1,e1,e⟩:=Yx e;have e1:=ML (Im T) e1;obtain⟨cN,e,T1,hd⟩:=Ko T e;obtain⟨tm',h',F',e',T',S⟩:=ih l (j+1) Ls cN _ h1 k (λi o' hi=>by have:=hl (i+1) o' hi;rwa [show j+(i+1)=j+1+i by omega]at this) T1 e;refine⟨tm',h',F',e',T',?_⟩;rw[show j+(o::l).length=j+1+l.length by simp;omega];refine .cons j o F h v true h1 _ _ _ (hl 0 o rfl) ⟨λ_=>e1,(λhh=>by cases hh),λ_=>rfl,(λq hq=>by simp_all),hd,?_,λ_ _=>trivial⟩ S;intro _ ue;obtain⟨a,ha⟩:=Wo e1 ue;simp_all
   |some g=>
    simp only[Gu,hg,qg]at e;obtain⟨d,hd,vg,uc,e⟩:=e;cases Ls with
    |nil=>grind
    |cons L Ab=>
     simp only[Ox]at e;obtain⟨lK,e⟩:=e;have oN:∀o':Oper,o'.guard=some g→QM ops.toList o'=some d:=by simp_all[QM]
     have hF:=T d vg uc;have iB:o::l=(o::(xQ g l).1)++(xQ g l).2:=by rw[List.cons_append,Zk]
     have tu:∀i o',(o::(xQ g l).1)[i]? =some o'→ops[j+i]? =some o'∧o'.guard=some g:=by
      intro i o' hi;refine⟨hl i o' ?_,?_⟩
      ·rw[iB,List.getElem?_append_left (List.getElem?_eq_some_iff.1 hi).1];omega
      ·rcases List.mem_cons.1 (List.mem_of_getElem? hi)with rfl |hm
       ·omega
       ·exact Wa g l o' hm
     have nK:∀i o',(xQ g l).2[i]? =some o'→ops[j+(o::(xQ g l).1).length+i]? =some o':=by intro i o' hi;rw[Nat.add_assoc];refine hl _ o' ?_;rw[iB,List.getElem?_append_right omQ];simp;omega
     have hlen:j+(o::l).length=j+(o::(xQ g l).1).length+(xQ g l).2.length:=by have:=congrArg List.length iB;simp at*;omega
     have fin:∀cN h1 F1,Qh cN F1→mY P c n ops LT HT j F h (j+(o::(xQ g l).1).length) F1 h1→
       cE (yv cN L) (Gu P c n ops.toList f (xQ g l).2 Ab (kM L (wb L cN) .e) h1 k) none=some r→
       ∃tm' h' F',k tm' h'=some r∧Qh tm' F'∧mY P c n ops LT HT j F h (j+(o::l).length) F' h':=by
      intro cN h1 F1 T1 S1 e1;rw[zW]at e1;obtain⟨tm',h',F',e',T',S⟩:=ih (xQ g l).2 _ Ab _ F1 h1 k nK (Wp T1 L e1.1) e1.2;refine⟨tm',h',F',e',T',?_⟩;rw[hlen];exact S1.trans S
     simp only[yc]at e;rcases Mg e with⟨hw,e⟩ |⟨hw,e⟩
     ·obtain⟨cN,h1,F1,e1,T1,S1⟩:=qvM (o::(xQ g l).1) j tm F h _ tu (by
       intro q hq;cases hq;exact⟨d,vg,oN,lK,hF,hw⟩) T e
      exact fin cN h1 F1 T1 S1 e1
     ·obtain⟨cN,F1,e1,T1,S1⟩:=qYl (P:=P) (c:=c) (h:=h) (o::(xQ g l).1) j tm F _ tu oN lK hF hw T e;exact fin cN h F1 T1 S1 e1
def tB (kn:List (Nat×Bool×Bool)) (F:Nat→Option AV):Prop:=∀x∈kn,∃v,F x.1=some v∧QU v x.2.1=x.2.2
theorem qk7 {kn:List (Nat×Bool×Bool)} {F:Nat→Option AV} {d:Nat} {w t:Bool} {v:AV} (K:tB kn F) (hv:F d=some v) (e:OO kn d w=some t):QU v w=t:=by
 induction kn with
 |nil=>cases e
 |cons x r ih=>
  obtain⟨u,h1,h2⟩:=K x (iK ..);unfold OO at e;cases h3:(Nat.beq x.1 d&&(x.2.1==w))
  ·rw[h3,cond_false]at e;cases h4:(Nat.beq x.1 d&&x.2.2)
   ·rw[h4,cond_false]at e;exact ih (λy hy=>K y (iX _ hy)) e
   ·rw[h4,cond_true]at e;cases e;rw[Bool.and_eq_true]at h4;have hd:=Nat.eq_of_beq_eq_true h4.1;rw[hd,hv]at h1;cases h1;rw[h4.2]at h2;rw[h4.1,Bool.true_and]at h3;cases v with
    |bool b=>simp_all[QU,beq_iff_eq]
    |_=>rfl
  simp_all
theorem tB.drop {kn:List (Nat×Bool×Bool)} {F:Nat→Option AV} {dst:Option Tmp} {v:AV} (K:tB kn F):tB (cZ dst kn) (cR F dst v):=by
 induction kn with
 |nil=>nofun
 |cons x r ih=>
  have ihr:=ih λy hy=>K y (iX _ hy);unfold cZ;cases hb:Bh dst x.1
  ·rw[cond_false];intro y hy;rcases List.mem_cons.1 hy with rfl |hy
   ·obtain⟨u,h1,h2⟩:=K y (iK ..);refine⟨u,?_,h2⟩;simp only[cR];rw[iQ ?_]
    all_goals grind[Bh,Nat.beq_refl]
   ·exact ihr y hy
  grind
theorem qVB {kn:List (Nat×Bool×Bool)} {F:Nat→Option AV} {d:Nat} {w:Bool} {v:AV} {a b:R} {r:AV×AH} (K:tB kn F) (hv:F d=some v) (e:Tu (OO kn d w) v w a b=some r):(QU v w=true∧a=some r)∨(QU v w=false∧b=some r):=by
 grind[OO,Mg,qk7]
theorem tB.more {kn:List (Nat×Bool×Bool)} {F:Nat→Option AV} {d:Nat} {w t:Bool} {v:AV} (K:tB kn F) (hv:F d=some v) (hw:QU v w=t):tB ((d,w,t)::kn) F:=by
 intro x hx;rcases List.mem_cons.1 hx with rfl |hx
 ·grind
 ·exact K x hx
theorem qxF {r:AV×AH}:∀(l:List Oper) (j:Nat) (kn:List (Nat×Bool×Bool)) (tm:PT AV) (F:Nat→Option AV) (h:AH) (ls:List X0) (hs:List Xq) (k:PT AV→AH→List X0→List Xq→R),
  (∀i o,l[i]? =some o→ops[j+i]? =some o)→Qh tm F→tB kn F→Kd P c n ops.toList l j kn tm h ls hs k=some r→
  ∃tm' h' F' mZ eh,k tm' h' mZ eh=some r∧Qh tm' F'∧(∀x∈ls,x∈mZ)∧(∀x∈hs,x∈eh)∧∀(LP:X0→Prop) (HP:Xq→Prop),(∀x∈mZ,LP x)→(∀x∈eh,HP x)→mY P c n ops LP HP j F h (j+l.length) F' h':=by
 intro l
 induction l with
 |nil=>intro j kn tm F h ls hs k _ T _ e;exact⟨tm,h,F,ls,hs,e,T,λ_ h=>h,λ_ h=>h,λ_ _ _ _=>.nil _ _ _⟩
 |cons o l ih=>
  intro j kn tm F h ls hs k hl T KN e;have eH:∀i o',l[i]? =some o'→ops[j+1+i]? =some o':=λi o' hi=>by have:=hl (i+1) o' hi;rwa [show j+(i+1)=j+1+i by omega]at this
  have ho:=hl 0 o rfl;have yes:∀(EF:List (Nat×Bool×Bool)) (Io:tB EF F) (Ip:∀g,o.guard=some g→∃d vg,QM ops.toList o=some d∧F d=some vg∧true=QU vg g.2),
    bc P c o.op (ev tm) h (λv h'=>NZ n tm o.dst v λtm'=>
     cE (gg P o.op) (ob (Xt (ev tm) o.op) λa=>Kd P c n ops.toList l (j+1) (cZ o.dst EF) tm' h' (⟨j,a,kZ P o.op,v⟩::ls) hs k) (cE (z6 P o.op) (Kd P c n ops.toList l (j+1) (cZ o.dst EF) tm' h' ls (⟨j,h,h'⟩::hs) k) (Kd P c n ops.toList l (j+1) (cZ o.dst EF) tm' h' ls hs k)))=some r→
    ∃tm' h' F' mZ eh,k tm' h' mZ eh=some r∧Qh tm' F'∧(∀x∈ls,x∈mZ)∧(∀x∈hs,x∈eh)∧∀(LP:X0→Prop) (HP:Xq→Prop),(∀x∈mZ,LP x)→(∀x∈eh,HP x)→mY P c n ops LP HP j F h (j+(o::l).length) F' h':=by
   intro EF Io Ip e;obtain⟨v,h1,e1,e⟩:=Yx e;have e1:=ML (Im T) e1;obtain⟨cN,e,T1,hd⟩:=Ko T e;rw[show j+(o::l).length=j+1+l.length by simp;omega];cases ue:gg P o.op
   ·rw[ue]at e;simp only[cE]at e;cases EG:z6 P o.op
    ·rw[EG]at e;simp only[]at e;obtain⟨tm',h',F',mZ,eh,e',T',s1,s2,S⟩:=ih (j+1) _ cN _ h1 ls hs k eH T1 Io.drop e;refine⟨tm',h',F',mZ,eh,e',T',s1,s2,λLP HP hL hH=>?_⟩;exact .cons j o F h v true h1 _ _ _ ho ⟨λ_=>e1,(λhh=>by cases hh),λ_=>rfl,Ip,hd,(λ_ hh=>by simp_all),(λ_ hh=>by simp_all)⟩ (S LP HP hL hH)
    ·rw[EG]at e;simp only[]at e;obtain⟨tm',h',F',mZ,eh,e',T',s1,s2,S⟩:=ih (j+1) _ cN _ h1 ls _ k eH T1 Io.drop e;refine⟨tm',h',F',mZ,eh,e',T',s1,λx hx=>s2 x (iX _ hx),λLP HP hL hH=>?_⟩;exact .cons j o F h v true h1 _ _ _ ho ⟨λ_=>e1,(λhh=>by cases hh),λ_=>rfl,Ip,hd,(λ_ hh=>by simp_all),λ_ _=>hH _ (s2 _ (iK ..))⟩ (S LP HP hL hH)
   ·rw[ue]at e;simp only[cE,qg]at e;obtain⟨a,ha,e⟩:=e;obtain⟨tm',h',F',mZ,eh,e',T',s1,s2,S⟩:=ih (j+1) _ cN _ h1 _ hs k eH T1 Io.drop e;have uf:Xt (fJ F) o.op=some a:=qwi T ha;refine⟨tm',h',F',mZ,eh,e',T',λx hx=>s1 x (iX _ hx),s2,λLP HP hL hH=>?_⟩;refine .cons j o F h v true h1 _ _ _ ho ⟨λ_=>e1,(λhh=>by cases hh),λ_=>rfl,Ip,hd,λ_ _=>⟨a,uf,hL _ (s1 _ (iK ..))⟩,?_⟩ (S LP HP hL hH);simp_all[jJN]
  cases hg:o.guard with
  |none=>simp only[Kd,hg]at e;exact yes kn KN (λg hh=>by simp_all) e
  |some g=>
   simp only[Kd,hg,qg]at e;obtain⟨d,hd,vg,uc,e⟩:=e;rcases qVB KN (T d vg uc) e with⟨hw,e⟩ |⟨hw,e⟩
   ·exact yes _ (KN.more (T d vg uc) hw) (λg' hh=>by rw[hg]at hh;cases hh;exact⟨d,vg,hd,T d vg uc,hw.symm⟩) e
   ·obtain⟨cN,e,T1,rV⟩:=Ko T e;obtain⟨tm',h',F',mZ,eh,e',T',s1,s2,S⟩:=ih (j+1) _ cN _ h ls hs k eH T1 (KN.more (T d vg uc) hw).drop e;refine⟨tm',h',F',mZ,eh,e',T',s1,s2,λLP HP hL hH=>?_⟩;rw[show j+(o::l).length=j+1+l.length by simp;omega];refine .cons j o F h .undef false h _ _ _ ho ⟨(λhh=>by cases hh),λ_=>⟨rfl,rfl⟩,(λhh=>by rw[hg]at hh;cases hh),?_,rV,(λhh=>by cases hh),(λhh=>by cases hh)⟩ (S LP HP hL hH);intro g' hh;rw[hg]at hh;cases hh;exact⟨d,vg,hd,T d vg uc,hw.symm⟩
end Go.Ae
namespace Go.Ae
open Go
variable {P:Program} {c:CV}
theorem qGN (hc:y9 P c) {o:Oper} {r:Operand→Option AV} {h h':AH} {v:AV} {m:Mp} {D:Nat→Prop} {w:World} (hr:∀x v,r x=some v→bu D v) (RR:Rel P m D h w)
  (e:cM P c o.op r h=some (v,h')):∃m' D' w',Ext m D h w m' D' h' w'∧Rel P m' D' h' w'∧bu D' v:=by
 let ρ:Operand→Value:=λx=>match r x with |some v=>cv m v |none=>undef
 have hρ:dQ m D ρ r:=λx u hu=>⟨by simp only[ρ,hu],hr x u hu⟩;by_cases hv:∃cl f,o.op=.call cl∧cl.callee=.value f
 ·obtain⟨cl,f,ho,lP⟩:=hv;unfold cM at e;rw[ho]at e;simp only[bc,lP,qg]at e;obtain⟨vf,An,va,rR,e⟩:=e;obtain⟨f1,f2⟩:=hρ _ _ An;obtain⟨v1,v2⟩:=JG hρ rR;rw[JD]at e
  split at e
  ·rename_i q hq;simp only[Option.some.injEq,Prod.mk.injEq]at e;obtain⟨rfl,rfl⟩:=e;have dI:=hc vf va h q hq m D w RR f2 v2;cases vf<;>simp only[Ig]at dI
   case fn f' first cap=>obtain⟨e,w',fr,hR,_⟩:=(dI.2 0).2 [] (room_wide _);obtain⟨m',D',_,hx,fg,hd⟩:=hR;grind
   case yield l=>obtain⟨f',tmps,assign,body,k1,k2⟩:=dI;obtain⟨e,w',hR,_⟩:=(k2 0).2 default [] (room_wide _);obtain⟨m',D',_,hx,fg,hd⟩:=hR;grind
  grind
 ·have Eh:∀cl f,o.op=.call cl→cl.callee≠.value f:=λcl f h1 h2=>hv ⟨cl,f,h1,h2⟩;by_cases hi:∃cl x name,o.op=.call cl∧cl.callee=.invoke x name
  ·obtain⟨cl,x,name,ho,lP⟩:=hi;unfold cM at e;rw[ho]at e;simp only[bc,lP,qg]at e;obtain⟨vx,ua,va,rR,e⟩:=e;obtain⟨f1,f2⟩:=hρ _ _ ua;obtain⟨v1,v2⟩:=JG hρ rR;unfold vB at e
   split at e
   ·rename_i t y;cases hf:U8 (Ll P name) t with
    |none=>simp_all
    |some f=>
     rw[hf]at e;simp only[JD]at e
     split at e
     ·rename_i q hq;simp only[Option.some.injEq,Prod.mk.injEq]at e;obtain⟨rfl,rfl⟩:=e;have dI:=hc (.fn f [] []) (y::va) h q hq m D w RR ⟨trivial,trivial⟩ ⟨f2,v2⟩;obtain⟨e,w',fr,hR,_⟩:=(dI.2 0).2 [] (room_wide _);obtain⟨m',D',_,hx,fg,hd⟩:=hR;grind
     grind
   grind
  have iO:∀cl x n,o.op=.call cl→cl.callee≠.invoke x n:=λcl x n h1 h2=>hi ⟨cl,x,n,h1,h2⟩;obtain⟨m',D',w',_,ex,re,hd⟩:=TY (o:=o) Eh iO hρ RR e;exact⟨m',D',w',ex,re,hd⟩
def Dg (D:Nat→Prop) (H:Nat→AH) (i:Nat):Nat→Prop:=λb=>D b∨((H 0).nx≤b∧b<(H i).nx)
theorem Ext.rW {m m':Mp} {D D':Nat→Prop} {h h':AH} {w w':World} (e:Ext m D h w m' D' h' w'):D'=λb=>D b∨(h.nx≤b∧b<h'.nx):=funext λb=>propext (e.dm b)
structure Gh (P:Program) (D:Nat→Prop) (H:Nat→AH) (F:Nat→Nat→Option AV) (i:Nat):Prop where
  nx:(H 0).nx≤(H i).nx
  un:∀b,b<(H 0).nx→¬D b→(H i).get b=(H 0).get b
  bp:∀b,Dg D H i b→∃x,(H i).get b=some x∧cJ (Dg D H i) x
  slot:∀t v,F i t=some v→bu (Dg D H i) v
  ni:∀b t,Dg D H i b→(H i).get b=some (.dq t)→D b∧(H 0).get b=some (.dq t)
theorem jZ0 {D:Nat→Prop} {F:Nat→Option AV} (hF:∀t v,F t=some v→bu D v):∀x v,fJ F x=some v→bu D v:=by
 intro x v e;cases x with
 |tmp t=>exact hF t v e
 |const k=>exact(J7 (m:=λ_=>(0,0)) (D:=D) e).2
 |global g=>cases e
 |func f=>cases e;trivial
theorem Wq (hc:y9 P c) {n:Nat} {ops:Array Oper} {LP:X0→Prop} {HP:Xq→Prop} {F:Nat→Nat→Option AV} {H:Nat→AH} {V:Nat→AV} {W:Nat→Bool}
  (T:Tr P c n ops LP HP F H V W) {m:Mp} {D:Nat→Prop} {w:World} (RR:Rel P m D (H 0) w) (h0:∀t v,F 0 t=some v→bu D v) :
  ∀i,i≤ops.size→(∃m' w',Ext m D (H 0) w m' (Dg D H i) (H i) w'∧Rel P m' (Dg D H i) (H i) w'∧∀t v,F i t=some v→bu (Dg D H i) v)∧(∀j,j<i→(H j).nx≤(H (j+1)).nx∧bu (Dg D H (j+1)) (V j)):=by
 intro i
 induction i with
 |zero=>intro _;have hD:Dg D H 0=D:=funext λb=>propext ⟨λh=>h.elim id λh=>by omega,.inl⟩;grind[Ext.refl]
 |succ i ih=>
  intro hi;obtain⟨⟨m1,w1,X1,R1,s1⟩,hb⟩:=ih omQ;obtain⟨o,ho⟩:∃o,ops[i]? =some o:=⟨_,Array.getElem?_eq_getElem omQ⟩;obtain⟨st,hF⟩:=T.step i o ho;have key:∃m' w',Ext m1 (Dg D H i) (H i) w1 m' (Dg D H (i+1)) (H (i+1)) w'∧Rel P m' (Dg D H (i+1)) (H (i+1)) w'∧bu (Dg D H (i+1)) (V i):=by
   cases hw:W i with
   |true=>
    obtain⟨m',D',w',X,R',hv⟩:=qGN hc (o:=o) (jZ0 s1) R1 (st.yes hw);have hD:D'=Dg D H (i+1):=by
     rw[X.rW];have:=X1.nx;have:=X.nx
     funext b
     simp only[Dg,eq_iff_iff];grind
    grind
   |false=>
    obtain⟨e1,e2⟩:=st.no hw;have hD:Dg D H (i+1)=Dg D H i:=by grind[Dg]
    rw[hD,e2,e1];exact⟨m1,w1,Ext.refl ..,R1,trivial⟩
  obtain⟨m2,w2,X2,R2,hv⟩:=key;refine⟨⟨m2,w2,X1.trans X2,R2,?_⟩,?_⟩
  ·intro t v ht;rw[hF]at ht;unfold cR at ht
   split at ht
   ·grind
   ·exact X2.bu (s1 t v ht)
  ·intro j hj;by_cases Ph:j=i
   ·subst Ph;exact⟨X2.nx,hv⟩
   grind
theorem qz6 (hc:y9 P c) {n:Nat} {ops:Array Oper} {LP:X0→Prop} {HP:Xq→Prop} {F:Nat→Nat→Option AV} {H:Nat→AH} {V:Nat→AV} {W:Nat→Bool}
  (T:Tr P c n ops LP HP F H V W) {m:Mp} {D:Nat→Prop} {w:World} (RR:Rel P m D (H 0) w) (h0:∀t v,F 0 t=some v→bu D v) {i:Nat} (hi:i≤ops.size):Gh P D H F i:=by
 obtain⟨⟨m',w',X,R',s⟩,_⟩:=Wq hc T RR h0 i hi;refine⟨X.nx,λb hb hn=>(X.un b hb hn).1,?_,s,X.ni⟩;intro b hb;obtain⟨x,hx,_,hd⟩:=R'.bp b hb;grind
end Go.Ae
