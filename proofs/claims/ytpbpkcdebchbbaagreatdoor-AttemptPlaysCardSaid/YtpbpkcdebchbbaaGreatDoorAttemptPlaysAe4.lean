/- The abstract executor of the program's form in Lean, shown sound: operations one behind the other; code; functions; rounds; tables. -/
import Derived.Test.YtpbpkcdebchbbaaGreatDoorAttemptPlaysAe3
import Derived.LoopNIn
import Derived.RangeFuncRecord
import Derived.RangeFuncNested
namespace Go.Ae
open Go
variable {P:Program} {c:CV}
abbrev cx (x:R) (k:AV→AH→R):R:=x.bind λq=>k q.1 q.2
theorem jP {α:Type} {x:Option α} {f:α→R} {k:AV→AH→R}:cx (ob x f) k=ob x λa=>cx (f a) k:=by grind
theorem Xq {b:Bool} {x y:R} {k:AV→AH→R}:cx (cJ b x y) k=cJ b (cx x k) (cx y k):=by cases b<;>rfl
theorem je {b:Bool} {x y:R} {k:AV→AH→R}:cx (bif b then x else y) k=bif b then cx x k else cx y k:=by grind
theorem xS {k:AV→AH→R}:cx none k=none:=rfl
theorem zk {v:AV} {h:AH} {k:AV→AH→R}:cx (some (v,h)) k=k v h:=rfl
theorem qm {α:Type} {x:Option α} {f g:α→R} (h:∀a,f a=g a):ob x f=ob x g:=by grind
theorem jE {b:Bool} {x y x' y':R} (h:x=x') (h':y=y'):(bif b then x else y)=(bif b then x' else y'):=by grind
theorem qy8 (a b d:AV) (h:AH) (k:AV→AH→R):cx (zo a b d λz=>some (z,h)) k=zo a b d λz=>k z h:=by simp only[O6];repeat' (first |rfl |(simp only[Xq,zk];done) |(rw[jP];refine qm λ_=>?_) |(rw[je];refine jE ?_ ?_) |split)
theorem Ey (a:AV) (h:AH) (k:AV→AH→R):cx (jo a λz=>some (z,h)) k=jo a λz=>k z h:=by unfold jo;split<;>simp_all
theorem qY9 (a:AV) (n:Nat) (h:AH) (k:AV→AH→R):cx (qI a n λz=>some (z,h)) k=qI a n λz=>k z h:=by simp only[Vg];split<;>simp_all
theorem qv4 (a:AV) (n:Nat) (h:AH) (k:AV→AH→R):cx (Xk a n λz=>some (z,h)) k=Xk a n λz=>k z h:=by simp only[KI];repeat' (first |rfl |(simp only[jP,zk];done) |(rw[jP];refine qm λ_=>?_) |(rw[je];refine jE ?_ ?_) |split)
theorem qvN (a:AV) (n m:Nat) (h:AH) (k:AV→AH→R):cx (Xa a n m λz=>some (z,h)) k=Xa a n m λz=>k z h:=by unfold Xa;repeat' (first |rfl |(simp only[jP,zk];done) |(rw[jP];refine qm λ_=>?_) |(rw[je];refine jE ?_ ?_) |split)
theorem qws (a b:AV) (n:Nat) (h:AH) (k:AV→AH→R):cx (xy a b n λz=>some (z,h)) k=xy a b n λz=>k z h:=by simp only[UH];repeat' (first |rfl |(simp only[je,xS,zk];done) |(rw[jP];refine qm λ_=>?_) |(rw[je];refine jE ?_ ?_) |split)
theorem qwt (a b:AV) (n m:Nat) (h:AH) (k:AV→AH→R):cx (gp a b n m λz=>some (z,h)) k=gp a b n m λz=>k z h:=by unfold gp;repeat' (first |rfl |(simp only[je,xS,zk];done) |(rw[jP];refine qm λ_=>?_) |(rw[je];refine jE ?_ ?_) |split)
theorem qvD (a b:AV) (n m:Nat) (h:AH) (k:AV→AH→R):cx (QM a b n m λz=>some (z,h)) k=QM a b n m λz=>k z h:=by unfold QM;repeat' (first |rfl |(simp only[jP,je,xS,zk];done) |(rw[jP];refine qm λ_=>?_) |(rw[je];refine jE ?_ ?_) |split)
theorem qke (a b:AV) (n m:Nat) (h:AH) (k:AV→AH→R):cx (XH a b n m λz=>some (z,h)) k=XH a b n m λz=>k z h:=by unfold XH;repeat' (first |rfl |(simp only[jP,je,xS,zk];done) |(rw[jP];refine qm λ_=>?_) |(rw[je];refine jE ?_ ?_) |split)
theorem qY0 (a b:AV) (h:AH) (k:AV→AH→R):cx (gR a b λz=>some (z,h)) k=gR a b λz=>k z h:=by unfold gR;repeat' (first |rfl |(simp only[jP,zk];done) |(rw[jP];refine qm λ_=>?_) |(rw[je];refine jE ?_ ?_) |split)
theorem qk6 (h0:AH) (a:AV) (h:AH) (k:AV→AH→R):cx (ql h0 a λz=>some (z,h)) k=ql h0 a λz=>k z h:=by simp only[gX];repeat' (first |rfl |(simp only[jP,zk];done) |(rw[jP];refine qm λ_=>?_) |(rw[je];refine jE ?_ ?_) |split)
theorem qgP (h0:AH) (a:AV) (n:Nat) (h:AH) (k:AV→AH→R):cx (q8 h0 a n λz=>some (z,h)) k=q8 h0 a n λz=>k z h:=by simp only[kG];repeat' (first |rfl |(simp only[jP,zk];done) |(rw[jP];refine qm λ_=>?_) |(rw[je];refine jE ?_ ?_) |split)
theorem Ez (op:BinOp) (a b:AV) (h:AH) (k:AV→AH→R):cx (jY op a b λz=>some (z,h)) k=jY op a b λz=>k z h:=by simp only[N5];repeat' (first |rfl |(simp only[jP,je,xS,zk];done) |(rw[jP];refine qm λ_=>?_) |(rw[je];refine jE ?_ ?_) |split)
theorem qkL (op:BinOp) (a b:AV) (h:AH) (k:AV→AH→R):cx (wb op a b λz=>some (z,h)) k=wb op a b λz=>k z h:=by unfold wb;repeat' (first |rfl |(simp only[jP,zk];done) |(rw[jP];refine qm λ_=>?_) |(rw[je];refine jE ?_ ?_) |split)
theorem EA (op:BinOp) (a b:AV) (h:AH) (k:AV→AH→R):cx (XF op a b λz=>some (z,h)) k=XF op a b λz=>k z h:=by unfold XF;repeat' (first |rfl |(simp only[jP,zk];done) |(rw[jP];refine qm λ_=>?_) |(rw[je];refine jE ?_ ?_) |split)
theorem LD (d:EK) (n:Bool) (a b:AV) (h:AH) (k:AV→AH→R):cx (lJ d n a b λz=>some (z,h)) k=lJ d n a b λz=>k z h:=by simp[lJ,jP]
theorem EB (d:List ES) (n:Bool) (a b:AV) (h:AH) (k:AV→AH→R):cx (kU d n a b λz=>some (z,h)) k=kU d n a b λz=>k z h:=by unfold kU;repeat' (first |rfl |(simp only[jP,zk];done) |(rw[jP];refine qm λ_=>?_) |(rw[je];refine jE ?_ ?_) |split)
theorem LF (op:UnOp) (a:AV) (h:AH) (k:AV→AH→R):cx (lX op a λz=>some (z,h)) k=lX op a λz=>k z h:=by unfold lX;split<;>simp_all
theorem qg6 (d:IntKind) (a:AV) (h:AH) (k:AV→AH→R):cx (vr d a λz=>some (z,h)) k=vr d a λz=>k z h:=by unfold vr;split<;>simp_all
theorem qvn (a:AV) (h:AH) (k:AV→AH→R):cx (XA a λz=>some (z,h)) k=XA a λz=>k z h:=by unfold XA;split<;>simp_all
theorem EC (h0:AH) (a:AV) (h:AH) (k:AV→AH→R):cx (Xv h0 a λz=>some (z,h)) k=Xv h0 a λz=>k z h:=by unfold Xv;repeat' (first |rfl |(simp only[jP,zk];done) |(rw[jP];refine qm λ_=>?_) |(rw[je];refine jE ?_ ?_) |split)
theorem qzc (a:AV) (lo hi:Option AV) (h:AH) (k:AV→AH→R):cx (gL a lo hi λz=>some (z,h)) k=gL a lo hi λz=>k z h:=by unfold gL;repeat' (first |rfl |(simp only[jP,zk];done) |(rw[jP];refine qm λ_=>?_) |(rw[je];refine jE ?_ ?_) |split)
theorem OM (h0:AH) (e:TypeId) (n:Nat) (a:AV) (lo hi:Option AV) (h:AH) (k:AV→AH→R):cx (yX h0 e n a lo hi λz=>some (z,h)) k=yX h0 e n a lo hi λz=>k z h:=by unfold yX;repeat' (first |rfl |(simp only[jP,je,xS,zk];done) |(rw[jP];refine qm λ_=>?_) |(rw[je];refine jE ?_ ?_) |split)
theorem qqT (n m:Nat) (a:AV) (lo hi:Option AV) (h:AH) (k:AV→AH→R):cx (gT n m a lo hi λz=>some (z,h)) k=gT n m a lo hi λz=>k z h:=by unfold gT;repeat' (first |rfl |(simp only[jP,zk];done) |(rw[jP];refine qm λ_=>?_) |(rw[je];refine jE ?_ ?_) |split)
theorem qZ7 (t:TypeId) (z a:AV) (h:AH) (k:AV→AH→R):cx (yx t z a λz=>some (z,h)) k=yx t z a λz=>k z h:=by unfold yx;repeat' (first |rfl |(simp only[je,zk];done) |(rw[jP];refine qm λ_=>?_) |(rw[je];refine jE ?_ ?_) |split)
theorem qjP (t:TypeId) (a:AV) (h:AH) (k:AV→AH→R):cx (kr t a λz=>some (z,h)) k=kr t a λz=>k z h:=by unfold kr;repeat' (first |rfl |(simp only[je,xS,zk];done) |(rw[jP];refine qm λ_=>?_) |(rw[je];refine jE ?_ ?_) |split)
theorem qV0 (a:AV) (n:Nat) (h:AH) (k:AV→AH→R):cx (zX a n λz=>some (z,h)) k=zX a n λz=>k z h:=by simp only[XZ];repeat' (first |rfl |(simp only[jP,zk];done) |(rw[jP];refine qm λ_=>?_) |(rw[je];refine jE ?_ ?_) |split)
theorem qwr (a:AV) (h:AH) (k:AV→AH→R):cx (xi a λz=>some (z,h)) k=xi a λz=>k z h:=by unfold xi;split<;>simp_all
theorem qxC (a:AV) (h:AH) (k:AV→AH→R):cx (Q7 a λz=>some (z,h)) k=Q7 a λz=>k z h:=by unfold Q7;split<;>simp_all
theorem LG (b:Bool) (l:List AV) (h:AH) (k:AV→AH→R):cx (oR b l λz=>some (z,h)) k=oR b l λz=>k z h:=by unfold oR;repeat' (first |rfl |(simp only[jP,je,xS,zk];done) |(rw[jP];refine qm λ_=>?_) |(rw[je];refine jE ?_ ?_) |split)
theorem qgL (z:List AV) (vs:List (Nat×Nat×AV)) (h:AH) (k:AV→AH→R):cx (jf z vs λz=>some (z,h)) k=jf z vs λz=>k z h:=by simp[jf,jP]
theorem ED (h0:AH) (e:TypeId) (a:AV) (k:AV→AH→R):cx (C4 h0 e a λz h=>some (z,h)) k=C4 h0 e a k:=by unfold C4;repeat' (first |rfl |(simp only[je,xS,zk];done) |(rw[jP];refine qm λ_=>?_) |(rw[je];refine jE ?_ ?_) |split)
theorem EE (h0:AH) (e:TypeId) (a:AV) (k:AV→AH→R):cx (vQ h0 e a λz h=>some (z,h)) k=vQ h0 e a k:=by simp[vQ,je]
theorem qYF (h0:AH) (e:TypeId) (z:List AV) (n:Nat) (vs:List (Nat×Nat×AV)) (k:AV→AH→R):cx (zR h0 e z n vs λz h=>some (z,h)) k=zR h0 e z n vs k:=by simp[zR,jP,je]
theorem qw4 (h0:AH) (e:TypeId) (z:List AV) (a b:AV) (k:AV→AH→R):cx (QC h0 e z a b λz h=>some (z,h)) k=QC h0 e z a b k:=by unfold QC;repeat' (first |rfl |(simp only[je,xS,zk];done) |(rw[jP];refine qm λ_=>?_) |(rw[je];refine jE ?_ ?_) |split)
theorem qZP (h0:AH) (e:TypeId) (sz:Nat) (a:AV) (n:Nat) (new:CT) (k:AV→AH→R):cx (vV h0 e sz a n new λz h=>some (z,h)) k=vV h0 e sz a n new k:=by unfold vV;repeat' (first |rfl |(simp only[jP,je,xS,zk];done) |(rw[jP];refine qm λ_=>?_) |(rw[je];refine jE ?_ ?_) |split)
theorem qzp (h0:AH) (e:TypeId) (sz:Nat) (a b:AV) (k:AV→AH→R):cx (z6 h0 e sz a b λz h=>some (z,h)) k=z6 h0 e sz a b k:=by simp[z6,jP,je,qZP]
theorem qya (h0:AH) (a:AV) (k:AV→AH→R):cx (MN h0 a λz h=>some (z,h)) k=MN h0 a k:=by unfold MN;repeat' (first |rfl |(simp only[je,zk];done) |(rw[jP];refine qm λ_=>?_) |(rw[je];refine jE ?_ ?_) |split)
theorem TO (f:AV) (a:List AV) (h0:AH) (k:AV→AH→R):cx (jC c f a h0 λz h=>some (z,h)) k=jC c f a h0 k:=by simp only[Qb];grind
theorem qYc (l:List (Nat×Nat)) (v:AV) (a:List AV) (h0:AH) (k:AV→AH→R):cx (yp c l v a h0 λz h=>some (z,h)) k=yp c l v a h0 k:=by
 unfold yp;cases v<;>first |rfl |skip
 rename_i t x;simp only[];cases Kl l t with
 |none=>rfl
 |some f=>simp[TO]
theorem qyc (h0 h1:AH) (v:AV) (k:AV→AH→R):cx (NH h0 v λz=>some (z,h1)) k=NH h0 v λz=>k z h1:=by
 unfold NH
 repeat' (first |rfl |split)
theorem qkr (h0 h1:AH) (v i:AV) (k:AV→AH→R):cx (KC h0 v i λz=>some (z,h1)) k=KC h0 v i λz=>k z h1:=by
 unfold KC
 repeat' (first |rfl |split)
theorem qyt (h0:AH) (v i:AV) (k:AV→AH→R):cx (MY h0 v i λz h=>some (z,h)) k=MY h0 v i k:=by
 unfold MY
 repeat' (first |rfl |split)
theorem EF (h0:AH) (v i y:AV) (k:AV→AH→R):cx (C5 h0 v i y λh=>some (.undef,h)) k=C5 h0 v i y λh=>k .undef h:=by
 unfold C5
 repeat' (first |rfl |split)
theorem qyr (h0:AH) (v i y:AV) (k:AV→AH→R):cx (Ml h0 v i y λh=>some (.undef,h)) k=Ml h0 v i y λh=>k .undef h:=by
 unfold Ml
 repeat' (first |rfl |split)
theorem qgA (h0:AH) (a b:AV) (n:Nat) (k:AV→AH→R):cx (qn h0 a b n λh=>some (.undef,h)) k=qn h0 a b n λh=>k .undef h:=by simp only[Kz];repeat' (first |rfl |(simp only[jP,je,xS,zk];done) |(rw[jP];refine qm λ_=>?_) |(rw[je];refine jE ?_ ?_) |split)
theorem EG (op:BinOp) (t:TypeId) (a b:AV) (h:AH) (k:AV→AH→R):cx (D5 P op t a b λz=>some (z,h)) k=D5 P op t a b λz=>k z h:=by
 cases op<;>simp only[D5,jP,qkL]<;>refine qm λd=>?_
 all_goals cases d<;>simp only[Ez,EA,LD,EB,jP,Xq,xS]
theorem qy6 (s d:TypeId) (v:AV) (h:AH) (k:AV→AH→R):cx (YH P s d v h λz h=>some (z,h)) k=YH P s d v h k:=by
 simp only[YH,jP];refine qm λds=>qm λdd=>?_;cases dd<;>cases ds<;>simp only[qg6,qvn,xS,jP]<;>refine qm λe=>?_
 all_goals
  cases e<;>first |rfl |skip
  rename_i q;cases q<;>simp only[xS,EC]
theorem TP (o:Op) (r:Operand→Option AV) (h:AH) (k:AV→AH→R):bh P c o r h k=cx (cn P c o r h) k:=by
 unfold cn;cases o
 case convert s d x=>show(ob (r x) λv=>YH P s d v h k)=cx (ob (r x) λv=>YH P s d v h λv h'=>some (v,h')) k;rw[jP];simp[qm,qy6]
 all_goals simp only[bh,jP,xS,zk,qy8,EE,qgA,Ey,EG,LF,qY9,qV0]
 case slice t x lo hi mx=>
  cases mx<;>simp only[jP,xS]
  refine qm λ_=>qm λ_=>qm λ_=>qm λd=>?_;cases d<;>(first |rfl |simp[jP,qzc,OM,qqT])
 case build=>refine qm λ_=>qm λd=>?_;cases d<;>(first |rfl |simp[jP,qgL])
 case buildSlice=>refine qm λd=>?_;cases d<;>(first |rfl |simp[jP,Xq,qYF])
 case load=>refine qm λ_=>qm λd=>?_;cases d<;>(simp[qk6,qgP])
 case makeInterface=>refine qm λd=>?_;grind
 case makeFunc fn _ _=>cases fn<;>(simp[jP])
 case makeSlice=>refine qm λd=>?_;cases d<;>(first |rfl |simp[jP,qw4])
 case field=>refine qm λ_=>qm λd=>?_;obtain⟨d,e⟩:=d;cases e<;>(simp[qv4,qvN])
 case indexAddr=>refine qm λ_=>qm λ_=>qm λd=>?_;cases d<;>(first |rfl |simp[jP,Xq,qws,qwt])
 case index=>refine qm λ_=>qm λ_=>qm λd=>?_;cases d<;>(first |rfl |simp[jP,Xq,qY0,qvD,qke])
 case typeAssert=>refine qm λ_=>qm λd=>?_;cases d<;>(first |rfl |simp only[jP,Xq,qjP,qZ7])
 case call cl=>
  cases cl.callee with
  |value f=>simp[jP,TO]
  |invoke _ _=>simp[jP,qYc]
  |builtin b=>
   cases b<;>first |rfl |(simp only[jP,LG];done) |skip
   case len=>
    generalize cl.args.toList=xs;generalize cl.argTypes.toList=ts;cases xs<;>cases ts<;>first |rfl |skip
    simp only[jP];refine qm λ_=>qm λd=>?_;cases d<;>(first |rfl |simp[qxC,qwr])
   case append=>
    generalize cl.args.toList=xs;generalize cl.argTypes.toList=ts;rcases xs with _ |⟨s,_ |⟨x,_ |⟨y,xs⟩⟩⟩<;>rcases ts with _ |⟨t,_ |⟨u,ts⟩⟩<;>first |rfl |skip
    simp only[jP];refine qm λdu=>?_;cases du<;>first |rfl |skip
    all_goals
     simp only[jP];refine qm λd=>?_;cases d<;>(first |rfl |simp only[jP,qzp])
theorem Xg {o:Op} {r:Operand→Option AV} {h:AH} {k:AV→AH→R} {q:AV×AH} (e:bh P c o r h k=some q) :
  ∃v h',cn P c o r h=some (v,h')∧k v h'=some q:=by
 rw[TP]at e;cases hs:cn P c o r h with
 |none=>simp_all
 |some z=>rw[hs]at e;exact⟨z.1,z.2,rfl,e⟩
end Go.Ae
namespace Go.Ae
open Go
variable {P:Program} {m:Mp} {D:Nat→Prop} {h h':AH} {w:World} {c:CV} {o:Oper} {v:AV}
theorem qwL (hc:yh P c) {rd:Option Nat} {n nn:Nat} {ops:Array Oper} {Q:Exit→Act→World→Prop} {g:Option (Nat×Bool)} {p:Oper} {d:Tmp} {r:AV×AH} :
  ∀(l:List Oper) (j:Nat) (rest:List Nat) (m:Mp) (D:Nat→Prop) (h:AH) (w:World) (a:Act) (tm:PT AV) (k:PT AV→AH→R),
   (∀i o,l[i]? =some o→ops[j+i]? =some o∧o.guard=g)→
   (∀q,g=some q→ops[q.1]? =some p∧p.dst=some d∧writes d l=false∧yielded ops a.tmps q.1=some q.2)→
   Rel P m D h w→eK m D n a tm→C6 P c n l tm h k=some r→
   (∀m' D' h' w' a' tm',Z2 P m D h w n a.defers a' tm' m' D' h' w'→k tm' h'=some r→wpOpsIn (FW rd) nn P ops Q rest a' w')→
   wpOpsIn (FW rd) nn P ops Q (List.range' j l.length++rest) a w:=by
 intro l
 induction l with
 |nil=>intro j rest m D h w a tm k _ _ R T e hk;exact hk m D h w a tm ⟨Ext.refl ..,R,T,rfl⟩ e
 |cons o l ih=>
  intro j rest m D h w a tm k hl hg R T e hk;obtain⟨ho,fB⟩:=hl 0 o rfl;simp only[List.length_cons,List.range'_succ,List.cons_append];simp only[wpOpsIn];rw[show ops[j]? =some o from ho];have hw:Region.wanted o (yielded ops a.tmps)=true:=by
   unfold Region.wanted;rw[fB];cases g with
   |none=>rfl
   |some q=>obtain⟨_,_,_,hy⟩:=hg q rfl;simp[hy]
  simp only[hw,if_true];simp only[C6]at e;obtain⟨v,h1,e1,e⟩:=Xg e;refine ZV hc T.ev R e1 ?_;intro m1 D1 w1 X R1 LH;obtain⟨cF,e2,T1⟩:=(T.mono X).put LH e;refine ih (j+1) rest m1 D1 h1 w1 _ cF k ?_ ?_ R1 T1 e2 ?_
  ·intro i o' hi;have:=hl (i+1) o' hi
   rwa [show j+(i+1)=j+1+i by omega]at this
  ·intro q hq;obtain⟨k1,k2,k3,k4⟩:=hg q hq;have LI:=YJ k3;refine⟨k1,k2,?_,?_⟩
   ·simp only[writes,Bool.or_eq_false_iff]at k3;exact k3.2
   ·rw[KU k1 k2 (LI o (iK ..))];omega
  ·intro m' D' h' w' a' tm' O e';refine hk m' D' h' w' a' tm' ⟨X.trans O.ext,O.rel,O.tm,?_⟩ e';rw[O.defers,we]
end Go.Ae
namespace Go.Ae
open Go
variable {P:Program} {m:Mp} {D:Nat→Prop} {h h':AH} {w:World} {c:CV} {o:Oper} {v:AV}
theorem qki {q:Nat×Bool} {y:Nat→Option Bool} (hg:o.guard=some q) (hy:y q.1=some q.2):Region.wanted o y=true:=by grind[Region.wanted]
theorem Mr {q:Nat×Bool} {y:Nat→Option Bool} (hg:o.guard=some q) (hy:y q.1≠some q.2):Region.wanted o y=false:=by grind[Region.wanted]
theorem qYN {rd:Option Nat} {n nn:Nat} {ops:Array Oper} {Q:Exit→Act→World→Prop} {q:Nat×Bool} {p:Oper} {d:Tmp} {r:AV×AH} :
  ∀(l:List Oper) (j:Nat) (rest:List Nat) (a:Act) (tm:PT AV) (k:PT AV→R),
   (∀i o,l[i]? =some o→ops[j+i]? =some o∧o.guard=some q)→
   ops[q.1]? =some p→p.dst=some d→writes d l=false→yielded ops a.tmps q.1≠some q.2→
   eK m D n a tm→Uu n l tm k=some r→
   (∀a' tm',eK m D n a' tm'→a'.defers=a.defers→k tm'=some r→wpOpsIn (FW rd) nn P ops Q rest a' w)→
   wpOpsIn (FW rd) nn P ops Q (List.range' j l.length++rest) a w:=by
 intro l
 induction l with
 |nil=>grind
 |cons o l ih=>
  intro j rest a tm k hl hp hd hw hy T e hk;obtain⟨ho,fB⟩:=hl 0 o rfl;simp only[List.length_cons,List.range'_succ,List.cons_append];simp only[wpOpsIn];rw[show ops[j]? =some o from ho];simp only[Mr fB hy,Bool.false_eq_true,if_false];refine⟨λ_ _=>trivial,?_⟩;simp only[Uu]at e;obtain⟨cF,e2,T1⟩:=T.put (v:=.undef) trivial e;rw[Z7]at T1;have LI:=YJ hw;refine ih (j+1) rest _ cF k ?_ hp hd ?_ ?_ T1 e2 ?_
  ·intro i o' hi;have:=hl (i+1) o' hi
   grind
  ·grind[writes,Bool.or_eq_false_iff]
  ·simp_all[KU]
  grind[we]
theorem eK.bm {n:Nat} {a:Act} {tm:PT AV} (T:eK m D n a tm):∀(L:List Nat) (acc:PT AV),eK m D n a acc→yK tm L=true→eK m D n a (wP L (g9 L tm) acc):=by
 intro L
 induction L with
 |nil=>intro acc A _;exact A
 |cons t L ih=>
  intro acc A hh;simp only[yK,Bool.and_eq_true]at hh;simp only[g9,wP];refine ih _ ?_ hh.2;have h1:=hh.1;unfold has at h1
  split at h1
  ·rename_i v hv;refine⟨A.size,?_⟩;intro s u hs;rw[PT.bI]at hs;by_cases e:t=s
   ·subst e;rw[iJ rfl]at hs;cases hs;exact T.at_ t v hv
   ·rw[iQ e]at hs;exact A.at_ s u hs
  grind
theorem MB {b:Bool} {x:R} {r:AV×AH}:cJ b none x=some r↔b=false∧x=some r:=by grind
theorem PT.ft {α:Type} (i:Nat):(PT.e:PT α).get i=none:=rfl
theorem eK.join {n:Nat} {a:Act} {tm:PT AV} (T:eK m D n a tm) (L:List Nat) (hh:yK tm L=true):eK m D n a (wP L (g9 L tm) .e) :=
 T.bm L .e ⟨T.size,λt v hv=>by trivial⟩ hh
theorem Nz (g:Nat×Bool) (l:List Oper):(zp g l).1++(zp g l).2=l:=by
 induction l with
 |nil=>rfl
 |cons o l ih=>grind[zp,Ig]
theorem TQ (g:Nat×Bool) (l:List Oper):∀o∈(zp g l).1,o.guard=some g:=by
 induction l with
 |nil=>intro o ho;cases ho
 |cons x l ih=>
  intro o ho;simp only[zp]at ho;cases hs:Ig g x<;>simp only[hs,cond_false,cond_true]at ho
  ·grind
  ·rcases List.mem_cons.1 ho with rfl |ho
   ·unfold Ig at hs
    split at hs
    ·rename_i g' LJ;simp only[Bool.and_eq_true,beq_iff_eq]at hs;grind[zy]
    grind
   grind
theorem qgf (hc:yh P c) {rd:Option Nat} {n nn:Nat} {ops:Array Oper} {Q:Exit→Act→World→Prop} {r:AV×AH} {ds:List Deferred} :
  ∀(f:Nat) (l:List Oper) (j:Nat) (Ls:List (List Nat)) (m:Mp) (D:Nat→Prop) (h:AH) (w:World) (a:Act) (tm:PT AV) (k:PT AV→AH→R),
   (∀i o,l[i]? =some o→ops[j+i]? =some o)→
   Rel P m D h w→eK m D n a tm→a.defers=ds→Ye P c n ops.toList f l Ls tm h k=some r→
   (∀m' D' h' w' a' tm',Z2 P m D h w n ds a' tm' m' D' h' w'→k tm' h'=some r→Q .normal a' w')→
   wpOpsIn (FW rd) nn P ops Q (List.range' j l.length) a w:=by
 intro f
 induction f with
 |zero=>
  intro l j Ls m D h w a tm k hl R T rP e hk;cases l with
  |nil=>exact hk m D h w a tm ⟨Ext.refl ..,R,T,rP⟩ e
  |cons o l=>grind
 |succ f ih=>
  intro l j Ls m D h w a tm k hl R T rP e hk;cases l with
  |nil=>exact hk m D h w a tm ⟨Ext.refl ..,R,T,rP⟩ e
  |cons o l=>
   cases hg:o.guard with
   |none=>
    simp only[Ye,hg]at e;obtain⟨v,h1,e1,e⟩:=Xg e;simp only[List.length_cons,List.range'_succ,wpOpsIn];rw[show ops[j]? =some o from hl 0 o rfl];have hw:Region.wanted o (yielded ops a.tmps)=true:=by simp_all[Region.wanted]
    simp only[hw,if_true];refine ZV hc T.ev R e1 ?_;intro m1 D1 w1 X R1 LH;obtain⟨cF,e2,T1⟩:=(T.mono X).put LH e;refine ih l (j+1) Ls m1 D1 h1 w1 _ cF k ?_ R1 T1 (by simp_all[we]) e2 ?_
    ·intro i o' hi;have:=hl (i+1) o' hi
     rwa [show j+(i+1)=j+1+i by omega]at this
    ·intro m' D' h' w' a' tm' O e';exact hk m' D' h' w' a' tm' ⟨X.trans O.ext,O.rel,O.tm,O.defers⟩ e'
   |some g=>
    simp only[Ye,hg,qO]at e;obtain⟨d,hd,vg,uj,e⟩:=e;cases Ls with
    |nil=>grind
    |cons L Ak=>
     simp only[MB]at e;obtain⟨uk,e⟩:=e;unfold kS at hd;rw[hg]at hd;simp only[Option.bind_some,xr,Array.getElem?_toList,Option.bind_eq_some_iff]at hd;obtain⟨p,hp,EH⟩:=hd;have LK:=T.at_ d vg uj;have ik:o::l=(o::(zp g l).1)++(zp g l).2:=by rw[List.cons_append,Nz]
     have hlen:List.range' j (o::l).length=List.range' j (o::(zp g l).1).length++List.range' (j+(o::(zp g l).1).length) (zp g l).2.length:=by rw[List.range'_append_1,← List.length_append,← ik]
     rw[hlen];have oV:∀i o',(o::(zp g l).1)[i]? =some o'→ops[j+i]? =some o'∧o'.guard=some g:=by
      intro i o' hi;refine⟨hl i o' ?_,?_⟩
      ·rw[ik,List.getElem?_append_left (List.getElem?_eq_some_iff.1 hi).1];omega
      ·rcases List.mem_cons.1 (List.mem_of_getElem? hi)with rfl |hm
       ·omega
       ·exact TQ g l o' hm
     have l6:∀i o',(zp g l).2[i]? =some o'→ops[j+(o::(zp g l).1).length+i]? =some o':=by intro i o' hi;rw[Nat.add_assoc];refine hl _ o' ?_;rw[ik,List.getElem?_append_right omQ];simp;omega
     have fR:yielded ops a.tmps g.1=(match cv m vg with | .bool b=>some b |_=>none):=by unfold yielded;simp only[hp,Option.bind_some,EH,LK.1];generalize cv m vg=z;cases z<;>rfl
     have fin:∀m1 D1 h1 w1 a1 cF,Z2 P m D h w n ds a1 cF m1 D1 h1 w1→
       cJ (yK cF L) (Ye P c n ops.toList f (zp g l).2 Ak (wP L (g9 L cF) .e) h1 k) none=some r→
       wpOpsIn (FW rd) nn P ops Q (List.range' (j+(o::(zp g l).1).length) (zp g l).2.length) a1 w1:=by
      intro m1 D1 h1 w1 a1 cF O e1;rw[xm]at e1;obtain⟨cu,e1⟩:=e1;refine ih (zp g l).2 _ Ak m1 D1 h1 w1 a1 _ k l6 O.rel (O.tm.join L cu) O.defers e1 ?_;intro m' D' h' w' a' tm' O' e';exact hk m' D' h' w' a' tm' ⟨O.ext.trans O'.ext,O'.rel,O'.tm,O'.defers⟩ e'
     simp only[zg]at e;rw[Um]at e;have go:∀(e:Uu n (o::(zp g l).1) tm (λtm'=>cJ (yK tm' L) (Ye P c n ops.toList f (zp g l).2 Ak (wP L (g9 L tm') .e) h k) none)=some r)
       (hy:yielded ops a.tmps g.1≠some g.2),wpOpsIn (FW rd) nn P ops Q (List.range' j (o::(zp g l).1).length++List.range' (j+(o::(zp g l).1).length) (zp g l).2.length) a w:=by
      intro e hy;refine qYN (o::(zp g l).1) j _ a tm _ oV hp EH uk hy T e ?_;intro a' tm' T' LL e';exact fin m D h w a' tm' ⟨Ext.refl ..,R,T',by rw[LL,rP]⟩ e'
     split at e
     ·rename_i t;simp only[cv]at fR;cases ht:(t==g.2)
      rotate_left
      ·rw[ht]at e;refine qwL (p:=p) (d:=d) hc (o::(zp g l).1) j _ m D h w a tm _ oV ?_ R T e ?_
       ·intro q hq;cases hq;exact⟨hp,EH,uk,by rw[fR];simpa using ht⟩
       ·intro m' D' h' w' a' tm' O e';exact fin m' D' h' w' a' tm' ⟨O.ext,O.rel,O.tm,by rw[O.defers,rP]⟩ e'
      ·rw[ht]at e;refine go e ?_;rw[fR];simpa using ht
     ·rename_i hnb;refine go e ?_;rw[fR];cases vg<;>simp only[cv]<;>first |(intro hh;cases hh;done) |grind |skip
end Go.Ae
namespace Go.Ae
open Go
variable {P:Program} {c:CV}
def EI:AX→Exit
 | .normal=>.normal
 | .exit i=>.exit i
 | .goto l=>.goto l
 | .ret=>.ret
def KL (b:Nat):Deferred:={ target:=.collected b,args:=#[] }
def pR (m:Mp) (D:Nat→Prop) (ds:List Nat) (l:List Deferred):Prop:=(∀d∈ds,D d)∧l=ds.map λd=>KL (m d).1
def sh (m:Mp) (D:Nat→Prop) (rd rc:Option Nat):Prop:=match rd with
 |none=>rc=none
 |some l=>D l∧rc=some (m l).1
theorem pR.mono {m m':Mp} {D D':Nat→Prop} {h h':AH} {w w':World} {ds:List Nat} {l:List Deferred} (d:pR m D ds l) (e:Ext m D h w m' D' h' w'):pR m' D' ds l :=
 ⟨λb hb=>e.r6 b (d.1 b hb),by rw[d.2];exact List.map_congr_left λb hb=>by rw[e.map b (d.1 b hb)]⟩
theorem sh.mono {m m':Mp} {D D':Nat→Prop} {h h':AH} {w w':World} {rd rc:Option Nat} (d:sh m D rd rc) (e:Ext m D h w m' D' h' w'):sh m' D' rd rc:=by
 cases rd with
 |none=>exact d
 |some l=>exact⟨e.r6 l d.1,by rw[e.map l d.1];exact d.2⟩
structure St (P:Program) (m:Mp) (D:Nat→Prop) (h:AH) (w:World) (n:Nat) (ds:List Nat) (a:Act) (tm:PT AV) (rd rc:Option Nat):Prop where
  rel:Rel P m D h w
  tm:eK m D n a tm
  df:pR m D ds a.defers
  rd:sh m D rd rc
theorem St.Av {m m':Mp} {D D':Nat→Prop} {h h':AH} {w w':World} {n:Nat} {ds:List Nat} {a a':Act} {tm tm':PT AV} {rd rc:Option Nat} (s:St P m D h w n ds a tm rd rc)
  (o:Z2 P m D h w n a.defers a' tm' m' D' h' w'):St P m' D' h' w' n ds a' tm' rd rc :=
 ⟨o.rel,o.tm,by rw[o.defers];exact s.df.mono o.ext,s.rd.mono o.ext⟩
def VO (P:Program) (c:CV):Prop:=∀(n nn:Nat) (ops:Array Oper) (Ls:List (List Nat)) (rc:Option Nat) (Q:Exit→Act→World→Prop) (r:AV×AH) (id:Nat)
 (m:Mp) (D:Nat→Prop) (h:AH) (w:World) (a:Act) (tm:PT AV) (k:PT AV→AH→R),Rel P m D h w→eK m D n a tm→Ll P c n ops Ls tm h k=some r→
 (∀m' D' h' w' a' tm',Z2 P m D h w n a.defers a' tm' m' D' h' w'→k tm' h'=some r→Q .normal a' w')→(Code.region id ops true).wpIn (FW rc) nn P Q a w
def kq (P:Program) (N:Nat) (c:CV) (f n:Nat) (rd:Option Nat) (code:Code):Prop :=
 ∀(rc:Option Nat) (nn:Nat) (Q:Exit→Act→World→Prop) (r:AV×AH) (pos:List Nat) (pl:Pl) (tm:PT AV) (h:AH) (ds:List Nat) (k:AX→PT AV→AH→List Nat→R)
  (m:Mp) (D:Nat→Prop) (w:World) (a:Act),St P m D h w n ds a tm rd rc→
  (∃fn bd,P.funcs[f]? =some fn∧fn.body=some bd∧fn.ntmps=n∧xg bd pos=some code)→
  ge P N c f n rd code pos pl tm h ds k=some r→
  (∀x m' D' h' w' a' tm' EJ,Ext m D h w m' D' h' w'→St P m' D' h' w' n EJ a' tm' rd rc→k x tm' h' EJ=some r→Q (EI x) a' w')→
  code.wpIn (FW rc) nn P Q a w
theorem qZ4 (c:Code) (p q:List Nat) (s:Code) (h:xg c p=some s):xg c (p++q)=xg s q:=by
 induction p generalizing c with
 |nil=>grind[xg]
 |cons i p ih=>
  cases c<;>simp only[xg,reduceCtorEq,List.cons_append]at h ⊢
  case seq a b=>grind
  all_goals grind
theorem XL {f n:Nat} {code s:Code} {pos q:List Nat} (h:∃fn bd,P.funcs[f]? =some fn∧fn.body=some bd∧fn.ntmps=n∧xg bd pos=some code) (hs:xg code q=some s) :
  ∃fn bd,P.funcs[f]? =some fn∧fn.body=some bd∧fn.ntmps=n∧xg bd (pos++q)=some s:=by
 grind[qZ4]
end Go.Ae
namespace Go.Ae
open Go
variable {P:Program} {c:CV}
theorem St.join {m:Mp} {D:Nat→Prop} {h:AH} {w:World} {n:Nat} {ds:List Nat} {a:Act} {tm:PT AV} {rd rc:Option Nat} (s:St P m D h w n ds a tm rd rc) {L:List Nat} (hh:yK tm L=true) :
  St P m D h w n ds a (wP L (g9 L tm) .e) rd rc:=⟨s.rel,s.tm.join L hh,s.df,s.rd⟩
theorem qQi (hc:yh P c) (hd:VO P c) {f n:Nat} {rd:Option Nat} {N id:Nat} {ops:Array Oper} {d:Bool}:kq P N c f n rd (.region id ops d):=by
 intro rc nn Q r pos pl tm h ds k m D w a S _ e hk;simp only[ge]at e;cases d with
 |true=>simp only[cJ]at e;refine hd n nn ops (Ij pl) rc Q r id m D h w a tm _ S.rel S.tm e ?_;intro m' D' h' w' a' tm' O e';exact hk .normal m' D' h' w' a' tm' ds O.ext (S.Av O) e'
 |false=>
  simp only[cJ]at e;refine wpIn_region ?_;have hr:List.range ops.size=List.range' 0 ops.toList.length:=by simp[List.range_eq_range']
  rw[hr];refine qgf (ds:=a.defers) hc _ ops.toList 0 (Ij pl) m D h w a tm _ (λi o hi=>by grind) S.rel S.tm rfl e ?_;intro m' D' h' w' a' tm' O e';exact hk .normal m' D' h' w' a' tm' ds O.ext (S.Av O) e'
theorem qzP {f n N:Nat} {rd:Option Nat} {x y:Code} (hx:kq P N c f n rd x) (hy:kq P N c f n rd y):kq P N c f n rd (.seq x y):=by
 intro rc nn Q r pos pl tm h ds k m D w a S da e hk;simp only[ge]at e;have lS:=XL (q:=[0]) da (s:=x) (by simp[xg]);have Iv:=XL (q:=[1]) da (s:=y) (by simp only[xg];rfl);refine wpIn_seq ?_;cases hL:Am pl with
 |some L=>
  simp only[hL,zg]at e;refine hx rc nn _ r (pos++[0]) (nV pl) tm h ds _ m D w a S lS e ?_;intro z m1 D1 h1 w1 a1 cF ds1 X1 S1 e1;cases z with
  |normal=>simp only[xm]at e1;obtain⟨cu,e1⟩:=e1;refine hy rc nn Q r (pos++[1]) (Al pl) _ h1 ds1 k m1 D1 w1 a1 (S1.join cu) Iv e1 ?_;intro z2 m2 D2 h2 w2 a2 BC Aw X2 S2 e2;exact hk z2 m2 D2 h2 w2 a2 BC Aw (X1.trans X2) S2 e2
  |exit i=>exact hk (.exit i) m1 D1 h1 w1 a1 cF ds1 X1 S1 e1
  |goto i=>exact hk (.goto i) m1 D1 h1 w1 a1 cF ds1 X1 S1 e1
  |ret=>exact hk .ret m1 D1 h1 w1 a1 cF ds1 X1 S1 e1
 |none=>
  simp only[hL]at e;refine hx rc nn _ r (pos++[0]) (nV pl) tm h ds _ m D w a S lS e ?_;intro z m1 D1 h1 w1 a1 cF ds1 X1 S1 e1;cases z with
  |normal=>refine hy rc nn Q r (pos++[1]) (Al pl) _ h1 ds1 k m1 D1 w1 a1 S1 Iv e1 ?_;intro z2 m2 D2 h2 w2 a2 BC Aw X2 S2 e2;exact hk z2 m2 D2 h2 w2 a2 BC Aw (X1.trans X2) S2 e2
  |exit i=>exact hk (.exit i) m1 D1 h1 w1 a1 cF ds1 X1 S1 e1
  |goto i=>exact hk (.goto i) m1 D1 h1 w1 a1 cF ds1 X1 S1 e1
  |ret=>exact hk .ret m1 D1 h1 w1 a1 cF ds1 X1 S1 e1
theorem qVc {f n N:Nat} {rd:Option Nat} {o:Operand} {x y:Code} (hx:kq P N c f n rd x) (hy:kq P N c f n rd y):kq P N c f n rd (.cond o x y):=by
 intro rc nn Q r pos pl tm h ds k m D w a S da e hk;simp only[ge,qO]at e;obtain⟨v,hv,e⟩:=e;have lS:=XL (q:=[0]) da (s:=x) (by simp[xg]);have Iv:=XL (q:=[1]) da (s:=y) (by simp only[xg];rfl);obtain⟨h1,h2⟩:=S.tm.ev _ _ hv;rw[ZA]at e
 split at e
 ·rename_i t;refine wpIn_cond (t:=t) (by trivial) ?_;cases t with
  |true=>exact hx rc nn Q r (pos++[0]) (nV pl) tm h ds k m D w a S lS e hk
  |false=>exact hy rc nn Q r (pos++[1]) (Al pl) tm h ds k m D w a S Iv e hk
 grind
theorem qJO {f n N id:Nat} {rd:Option Nat} {x:Code} (hx:kq P N c f n rd x):kq P N c f n rd (.block id x):=by
 intro rc nn Q r pos pl tm h ds k m D w a S da e hk;simp only[ge]at e;have lS:=XL (q:=[0]) da (s:=x) (by simp[xg]);refine wpIn_block ?_;cases hL:Am pl with
 |some L=>
  simp only[hL,zg]at e;refine hx rc nn _ r (pos++[0]) (nV pl) tm h ds _ m D w a S lS e ?_;intro z m1 D1 h1 w1 a1 cF ds1 X1 S1 e1;cases z with
  |normal=>simp only[xm]at e1;obtain⟨cu,e1⟩:=e1;exact hk .normal m1 D1 h1 w1 a1 _ ds1 X1 (S1.join cu) e1
  |exit i=>
   simp only[EI,Exit.inBlock];by_cases hi:i=id
   ·subst hi;simp only[Nat.beq_refl,cJ,if_true]at e1 ⊢;cases cu:yK cF L
    ·grind
    ·rw[cu]at e1;exact hk .normal m1 D1 h1 w1 a1 _ ds1 X1 (S1.join cu) e1
   ·rw[iQ hi];simp only[vY hi,cJ]at e1;exact hk (.exit i) m1 D1 h1 w1 a1 cF ds1 X1 S1 e1
  |goto i=>exact hk (.goto i) m1 D1 h1 w1 a1 cF ds1 X1 S1 e1
  |ret=>exact hk .ret m1 D1 h1 w1 a1 cF ds1 X1 S1 e1
 |none=>
  simp only[hL]at e;refine hx rc nn _ r (pos++[0]) (nV pl) tm h ds _ m D w a S lS e ?_;intro z m1 D1 h1 w1 a1 cF ds1 X1 S1 e1;cases z with
  |normal=>exact hk .normal m1 D1 h1 w1 a1 _ ds1 X1 S1 e1
  |exit i=>
   simp only[EI,Exit.inBlock];by_cases hi:i=id
   ·subst hi;simp only[Nat.beq_refl,cJ,if_true]at e1 ⊢;exact hk .normal m1 D1 h1 w1 a1 _ ds1 X1 S1 e1
   ·rw[iQ hi];simp only[vY hi,cJ]at e1;exact hk (.exit i) m1 D1 h1 w1 a1 cF ds1 X1 S1 e1
  |goto i=>exact hk (.goto i) m1 D1 h1 w1 a1 cF ds1 X1 S1 e1
  |ret=>exact hk .ret m1 D1 h1 w1 a1 cF ds1 X1 S1 e1
theorem qK1 {f n N:Nat} {rd:Option Nat} {x:Code} (hx:kq P N c f n rd x):kq P N c f n rd (.loop x):=by
 intro rc nn Q r pos pl tm h ds k m D w a S da e hk;simp only[ge]at e;have lS:=XL (q:=[0]) da (s:=x) (by simp[xg]);cases hL:Am pl with
 |none=>grind
 |some L=>
  simp only[hL,xm]at e;obtain⟨cu,e⟩:=e;refine wpIn_loop_rounds N ?_;have key:∀(j:Nat) (s:tK L) (h1:AH) (ds1:List Nat) (m1:Mp) (D1:Nat→Prop) (w1:World) (a1:Act),Ext m D h w m1 D1 h1 w1→St P m1 D1 h1 w1 n ds1 a1 (wP L s .e) rd rc→
    wN (σ:=tK L) j (λih s h ds=>ge P N c f n rd x (pos++[0]) (nV pl) (wP L s .e) h ds λx tm' h ds=>match x with
     | .normal=>cJ (yK tm' L) (ih (g9 L tm') h ds) none |x=>k x tm' h ds) s h1 ds1=some r→
    Code.roundsIn (FW rc) nn P x Q j a1 w1:=by
   intro j
   induction j with
   |zero=>nofun
   |succ j ih=>
    intro s h1 ds1 m1 D1 w1 a1 X1 S1 e1;rw[roundsIn_succ];refine hx rc nn _ r (pos++[0]) (nV pl) _ h1 ds1 _ m1 D1 w1 a1 S1 lS e1 ?_;intro z m2 D2 h2 w2 a2 BC Aw X2 S2 e2;cases z with
    |normal=>simp only[xm]at e2;obtain⟨EL,e2⟩:=e2;exact ih _ h2 Aw m2 D2 w2 a2 (X1.trans X2) (S2.join EL) e2
    |exit i=>exact hk (.exit i) m2 D2 h2 w2 a2 BC Aw (X1.trans X2) S2 e2
    |goto i=>exact hk (.goto i) m2 D2 h2 w2 a2 BC Aw (X1.trans X2) S2 e2
    |ret=>exact hk .ret m2 D2 h2 w2 a2 BC Aw (X1.trans X2) S2 e2
  exact key N _ h ds m D w a (Ext.refl ..) (S.join cu) e
end Go.Ae
namespace Go.Ae
open Go
variable {P:Program} {c:CV}
theorem qk7 {F:Fence} {n:Nat} {Q:Exit→Act→World→Prop} {a:Act} {w:World} (x:AX) (h:Q (EI x) a w):(wy x).wpIn F n P Q a w:=by
 cases x with
 |normal=>exact wpIn_skip h
 |exit i=>exact wpIn_exit h
 |goto l=>exact wpIn_goto h
 |ret=>exact wpIn_ret h
theorem qys {x y:AX} (h:C7 x y=true):x=y:=by
 cases x<;>cases y<;>simp only[C7,Bool.false_eq_true]at h ⊢ <;>exact congrArg _ (zy h)
theorem qZ5 {y:AX} {k:AX→R} {r:AV×AH}:∀{l:List AX},UC (some y) k l=some r→k y=some r:=by
 intro l
 induction l with
 |nil=>simp
 |cons x l ih=>
  intro e;simp only[UC,Bm]at e;grind[C7,qys]
theorem qJo (L:List Nat) (tm:PT AV):(w7 L tm).length=L.length:=by
 induction L with
 |nil=>rfl
 |cons t L ih=>grind[w7]
theorem qGA {m:Mp} {D:Nat→Prop} {n:Nat} {a:Act} {tm:PT AV} (T:eK m D n a tm):∀{L:List Nat},yK tm L=true→aT D (w7 L tm)∧∀p∈L.zip (w7 L tm),a.tmps[p.1]? =some (cv m p.2):=by
 intro L
 induction L with
 |nil=>intro _;exact⟨trivial,λp hp=>by cases hp⟩
 |cons t L ih=>
  intro h;simp only[yK,Bool.and_eq_true]at h;obtain⟨h1,h2⟩:=ih h.2;have h0:=h.1;unfold has at h0
  split at h0
  ·rename_i v hv;obtain⟨g1,g2⟩:=T.at_ t v hv;simp only[w7,hv,aT,List.zip_cons_cons,List.mem_cons];grind
  grind
theorem VP (hc:yh P c) {f n nn:Nat} {rd rc:Option Nat} {g:Operand} {ps:Array Tmp} {assign body:Code} {Q:Exit→Act→World→Prop} {r:AV×AH} {pos:List Nat}
  {tm:PT AV} {h:AH} {ds:List Nat} {k:AX→PT AV→AH→List Nat→R} {m:Mp} {D:Nat→Prop} {w:World} {a:Act} (S:St P m D h w n ds a tm rd rc)
  (da:∃fn bd,P.funcs[f]? =some fn∧fn.body=some bd∧fn.ntmps=n∧xg bd pos=some (.rangeFunc g ps assign body))
  {vf:AV} (Au:ev tm g=some vf) {L:List Nat} (cu:yK tm L=true)
  (hk:∀x m' D' h' w' a' tm' EJ,Ext m D h w m' D' h' w'→St P m' D' h' w' n EJ a' tm' rd rc→k x tm' h' EJ=some r→Q (EI x) a' w')
  {d:Nat} {h1:AH} {ds1:List Nat} {m1:Mp} {D1:Nat→Prop} {w1:World} {mark:List Deferred}
  (X1:Ext m D h w m1 D1 h1 w1) (R1:Rel P m1 D1 h1 w1) (hd:D1 d) (rP:pR m1 D1 ds1 (mark++a.defers))
  (LM:∀fn,(Instr.enterLoop fn a.tmps ps assign body rc).run P w=.ok (w1.heap.size,mark) (w1.alloc (.loop { state:=.ready,pending:=none,fn,tmps:=a.tmps,params:=ps,assign,body,defers:=(m1 d).1 })))
  (e:Jo c vf [.yield h1.nx] (h1.new (.loop .ready none f pos L (w7 L tm) d)) (λ_ h2=>
    vt h2 h1.nx λp h3=>XW p (k .normal tm h3 ds1) (UC p (λx=>k x tm h3 ds1) (XB body [])))=some r) :
  (Code.rangeFunc g ps assign body).wpIn (FW rc) nn P Q a w:=by
 refine wpIn_rangeFunc ?_;intro fn _;obtain⟨fnn,bd,TR,Iw,TS,hf4⟩:=da;have T1:=S.tm.mono X1;obtain⟨l1,l2⟩:=qGA T1 cu;obtain⟨o,ho⟩:∃o,o=Obj.loop { state:=.ready,pending:=none,fn,tmps:=a.tmps,params:=ps,assign,body,defers:=(m1 d).1 }:=⟨_,rfl⟩;have si:cW P m1 (.loop .ready none f pos L (w7 L tm) d) (w1.heap.size,0) (w1.alloc o):=by
  refine⟨fn,a.tmps,ps,g,assign,body,fnn,bd,?_,TR,Iw,hf4,?_,(qJo L tm).symm,l2⟩
  ·grind[World.alloc_heap_new]
  ·rw[TS];exact S.tm.size
 obtain⟨m2,D2,X2,R2,EM,LN⟩:∃(m2:Mp) (D2:Nat→Prop),Ext m1 D1 h1 w1 m2 D2 (h1.new (.loop .ready none f pos L (w7 L tm) d)) (w1.alloc o)∧
   Rel P m2 D2 (h1.new (.loop .ready none f pos L (w7 L tm) d)) (w1.alloc o)∧(m2 h1.nx).1=w1.heap.size∧D2 h1.nx:=by
  have hn:=R1.new (w0:=w1.alloc o) (.loop .ready none f pos L (w7 L tm) d) o 0 rfl rfl rfl rfl ⟨l1,hd⟩ si;grind
 generalize h1.new (.loop .ready none f pos L (w7 L tm) d)=hh at*;unfold Jo at e
 split at e
 rotate_left
 ·grind
 rename_i f0 first cap
 rw[Qb]at e
 split at e
 rotate_left
 ·grind
 rename_i q hq;have T2:=T1.mono X2;obtain⟨v1,v2⟩:=T2.ev _ _ Au;have eJ:=hc _ _ _ q hq m2 D2 (w1.alloc o) R2 v2 ⟨LN,trivial⟩;obtain⟨k1,k2⟩:=eJ;simp only[cv]at v1;have hy:aQ m2 [.yield h1.nx]=[.func (.yield w1.heap.size) #[] #[]]:=by grind[aQ,cv]
 refine⟨w1.heap.size,mark,w1.alloc o,{ target:=.fn (.func f0) (aQ m2 cap).toArray,args:=(aQ m2 first).toArray++ #[.func (.yield w1.heap.size) #[] #[]] },w1.alloc o,f0,
  (aQ m2 (first++[.yield h1.nx]++cap)).toArray,w1.alloc o,?_,?_,λ_ _=>trivial,?_,(λhh=>by cases hh),?_⟩
 ·rw[ho];exact LM fn
 ·unfold resolve rangeCall;simp only[v1];simp[Act.eval,go_sem]
 ·show(callFunc f0 ((aQ m2 first).toArray++ #[.func (.yield w1.heap.size) #[] #[]]++(aQ m2 cap).toArray)).run P _=_;grind[Xp]
 ·refine CallsIn.mono (show CallsIn (FW rc) (nn-1) P f0 _ _ _ from k2 (nn-1)) ?_;rintro ee w3 ⟨m3,D3,rfl,X3,R3,hd3⟩
  replace e:vt q.2 h1.nx (λp h3=>XW p (k .normal tm h3 ds1) (UC p (λx=>k x tm h3 ds1) (XB body [])))=some r:=e
  unfold vt at e
  split at e
  rotate_left
  ·grind
  rename_i st bT f' pos' L' EN d' cP;have l7:D3 h1.nx:=X3.r6 _ LN;obtain⟨x3,TT,hr3,hi3⟩:=R3.bf _ l7;rw[cP]at TT;cases TT;obtain⟨fq,tq,pq,gq,aq,bq,TU,TV,nb,q1,q2,q3,q4,q5,q6⟩:=hr3;have Ax:(m3 h1.nx).1=w1.heap.size:=by rw[X3.map _ LN];grind
  rw[Ax]at nb;have bK:st≠.busy:=by grind
  have e':XW bT (k .normal tm (q.2.put h1.nx (.loop .exhausted bT f' pos' L' EN d')) ds1) (UC bT (λx=>k x tm (q.2.put h1.nx (.loop .exhausted bT f' pos' L' EN d')) ds1) (XB body []))=some r:=by
   grind
  clear e;have bC:=(Array.getElem?_eq_some_iff.1 nb).1;obtain⟨X4,R4⟩:=R3.put (w0:=w3.putObj w1.heap.size (.loop { state:=.exhausted,pending:=bT.map wy,fn:=fq,tmps:=tq,params:=pq,assign:=aq,body:=bq,defers:=(m3 d').1 })) h1.nx (.loop .exhausted bT f' pos' L' EN d') l7
   ⟨_,cP,trivial⟩ aA (λcc BB=>World.putObj_heap_other (by grind)) rfl rfl rfl hi3
   ⟨fq,tq,pq,gq,aq,bq,TU,TV,by grind[World.putObj_heap_same],q1,q2,q3,q4,q5,q6⟩
  refine⟨bT.map wy,_,run_endLoop nb bK,?_⟩;have XX:=((X1.trans X2).trans X3).trans X4;have SS:St P m3 D3 (q.2.put h1.nx (.loop .exhausted bT f' pos' L' EN d')) (w3.putObj w1.heap.size (.loop { state:=.exhausted,pending:=bT.map wy,fn:=fq,tmps:=tq,params:=pq,assign:=aq,body:=bq,defers:=(m3 d').1 })) n ds1
    { a with defers:=mark++a.defers } tm rd rc:=⟨R4,⟨(T2.mono (X3.trans X4)).size,(T2.mono (X3.trans X4)).at_⟩,((rP.mono X2).mono X3).mono X4,S.rd.mono XX⟩
  cases bT with
  |none=>exact hk .normal _ _ _ _ _ _ _ XX SS e'
  |some y=>exact qk7 y (hk y _ _ _ _ _ _ _ XX SS (qZ5 e'))
theorem qZN (hc:yh P c) {f n N:Nat} {rd:Option Nat} {g:Operand} {ps:Array Tmp} {assign body:Code}:kq P N c f n rd (.rangeFunc g ps assign body):=by
 intro rc nn Q r pos pl tm h ds k m D w a S da e hk;simp only[ge,qO]at e;obtain⟨vf,Au,e⟩:=e;cases hL:Am pl with
 |none=>grind
 |some L=>
  simp only[hL,xm]at e;obtain⟨cu,e⟩:=e;cases rd with
  |none=>
   have Ix:=S.rd;simp only[sh]at Ix;subst Ix;have hn:=S.rel.new (w0:=w.alloc (.deferred (some []))) .lI (.deferred (some [])) 0 rfl rfl rfl rfl trivial (World.alloc_heap_new _ _);obtain⟨X,R⟩:=hn;refine VP hc S da Au cu hk X R (d:=h.nx) (.inl rfl) (ds1:=h.nx::ds) (mark:=[KL w.heap.size]) ?_ ?_ e
   ·have:=S.df.mono X;refine⟨λb hb=>?_,?_⟩
    ·rcases List.mem_cons.1 hb with rfl |hb
     ·simp
     ·exact this.1 b hb
    ·rw[this.2];simp
   simp[KL,run_enterLoop_outer]
  |some l0=>
   obtain⟨iD,Ix⟩:=S.rd;subst Ix;unfold VS at e;simp only at e
   split at e
   rotate_left
   ·grind
   rename_i st bT f' pos' L' EN d cP;obtain⟨x,hx,mW,rR⟩:=S.rel.bf _ iD;rw[cP]at hx;cases hx;obtain⟨fq,tq,pq,gq,aq,bq,TU,TV,nb,_⟩:=mW;refine VP hc S da Au cu hk (Ext.refl ..) S.rel (d:=d) rR.2 (ds1:=ds) (mark:=[]) S.df ?_ e;simp_all[run_enterLoop_inner]
theorem OJ (hc:yh P c) (hd:VO P c) (N f n:Nat) (rd:Option Nat) (code:Code):kq P N c f n rd code:=by
 induction code with
 |skip=>intro rc nn Q r pos pl tm h ds k m D w a S _ e hk;exact wpIn_skip (hk .normal m D h w a tm ds (Ext.refl ..) S e)
 |region id ops d=>grind[qQi]
 |seq x y hx hy=>grind[qzP]
 |cond o x y hx hy=>grind[qVc]
 |block id x hx=>grind[qJO]
 |loop x hx=>grind[qK1]
 |exit id=>intro rc nn Q r pos pl tm h ds k m D w a S _ e hk;exact wpIn_exit (hk (.exit id) m D h w a tm ds (Ext.refl ..) S e)
 |label l=>intro rc nn Q r pos pl tm h ds k m D w a S _ e hk;exact wpIn_label (hk .normal m D h w a tm ds (Ext.refl ..) S e)
 |goto l=>intro rc nn Q r pos pl tm h ds k m D w a S _ e hk;exact wpIn_goto (hk (.goto l) m D h w a tm ds (Ext.refl ..) S e)
 |ret=>intro rc nn Q r pos pl tm h ds k m D w a S _ e hk;exact wpIn_ret (hk .ret m D h w a tm ds (Ext.refl ..) S e)
 |rangeFunc g ps x y hx hy=>grind[qZN]
 |_=>intro rc nn Q r pos pl tm h ds k m D w a S _ e hk;grind
end Go.Ae
namespace Go.Ae
open Go
variable {P:Program} {c:CV} {m:Mp} {D:Nat→Prop} {h h':AH} {w:World}
def XM (tmps:Array Value):ResultVar→Sem Value
 | .tmp t=>pure (tmps.getD t undef)
 | .cell a t=>do loadVar t (← asAddr (tmps.getD a undef))
theorem qKr (RR:Rel P m D h w) {t:TypeId} {v:AV} (hd:bp D v) (hi:kE P t=some none) {k:AV→R} {r:AV×AH} (e:ql h v k=some r) :
  ∃z,k z=some r∧bp D z∧(do loadVar t (← asAddr (cv m v)):Sem Value).run P w=.ok (cv m z) w:=by
 rcases ky hi with⟨_,mJ⟩ |⟨n,hn,_,_⟩
 rotate_left
 ·grind
 simp only[gX]at e
 split at e
 ·rename_i b off
  split at e
  ·rename_i cs t' op' hg;simp only[qO]at e;obtain⟨z,hz,e⟩:=e;obtain⟨z1,z2⟩:=RR.Ap hd hg hz;refine⟨z,e,z2,?_⟩;simp only[cv];rw[qq (show(asAddr (.pointer (some ⟨(m b).1,off,none⟩))).run P w=.ok ⟨(m b).1,off,none⟩ w from rfl)];simp_all[loadVar,gu]
  ·rename_i ti hg;simp only[qO]at e;obtain⟨z,hz,e⟩:=e;obtain⟨z1,z2⟩:=RR.r8 hd hg hz;refine⟨z,e,z2,?_⟩;simp only[cv];rw[qq (show(asAddr (.pointer (some ⟨(m b).1,off,none⟩))).run P w=.ok ⟨(m b).1,off,none⟩ w from rfl)];simp_all[loadVar,gu]
  grind
 grind
theorem qVb (RR:Rel P m D h w) {t:TypeId} {v:AV} {n:Nat} (hd:bp D v) (hi:kE P t=some (some n)) {k:AV→R} {r:AV×AH} (e:q8 h v n k=some r) :
  ∃z,k z=some r∧bp D z∧(do loadVar t (← asAddr (cv m v)):Sem Value).run P w=.ok (cv m z) w:=by
 rcases ky hi with⟨hn,_⟩ |⟨n',hn,mJ,bC⟩
 ·grind
 cases hn;simp only[kG]at e
 split at e
 ·rename_i b off;simp only[qO]at e;obtain⟨z,hz,e⟩:=e;obtain⟨z1,z2,z3⟩:=RR.read hd hz;refine⟨.agg z,e,z2,?_⟩;simp only[cv];rw[qq (show(asAddr (.pointer (some ⟨(m b).1,off,none⟩))).run P w=.ok ⟨(m b).1,off,none⟩ w from rfl)];simp_all[loadVar,gu,run_sizeOf]
 grind
theorem qyC (RR:Rel P m D h w) {n:Nat} {a:Act} {tm:PT AV} (T:eK m D n a tm) {r:AV×AH}:∀(l:List ResultVar) (k:List AV→R),Ue P tm h l k=some r→
  ∃vs,k vs=some r∧aT D vs∧(l.mapM (XM a.tmps)).run P w=.ok (aQ m vs) w:=by
 intro l
 induction l with
 |nil=>intro k e;exact⟨[],e,trivial,by rfl⟩
 |cons x l ih=>
  intro k e;cases x with
  |tmp t=>
   simp only[Ue,qO]at e;obtain⟨v,hv,e⟩:=e;obtain⟨vs,e1,e2,e3⟩:=ih _ e;obtain⟨h1,h2⟩:=T.at_ t v hv;refine⟨v::vs,e1,⟨h2,e2⟩,?_⟩;rw[List.mapM_cons];have:(XM a.tmps (.tmp t)).run P w=.ok (cv m v) w:=by simp_all[XM,Array.getD_eq_getD_getElem?,Option.getD_some]
   rw[qq this,qq e3];rfl
  |cell x t=>
   simp only[Ue,qO]at e;obtain⟨v,hv,i,hi,e⟩:=e;obtain⟨h1,h2⟩:=T.at_ x v hv;have key:∃z,Ue P tm h l (λl=>k (z::l))=some r∧bp D z∧(XM a.tmps (.cell x t)).run P w=.ok (cv m z) w:=by
    simp only[XM,Array.getD_eq_getD_getElem?,h1,Option.getD_some];grind[qKr,qVb]
   obtain⟨z,e,z1,z2⟩:=key;obtain⟨vs,e1,e2,e3⟩:=ih _ e;refine⟨z::vs,e1,⟨z1,e2⟩,?_⟩;rw[List.mapM_cons,qq z2,qq e3];rfl
theorem jQC (m:Mp) (l:List AV):(if h:(aQ m l).toArray.size=1 then(aQ m l).toArray[0]else .tuple (aQ m l).toArray)=cv m (lP l):=by
 match l with
 |[]=>rfl
 |[v]=>rfl
 |v::u::l=>rfl
theorem qZA (RR:Rel P m D h w) {fn:Func} {n:Nat} {a:Act} {tm:PT AV} (T:eK m D n a tm) {r:AV×AH} (e:Ue P tm h fn.results.toList (λl=>some (lP l,h))=some r) :
  ∃v,r=(v,h)∧bp D v∧(results fn a.tmps).run P w=.ok (cv m v) w:=by
 obtain⟨vs,e1,e2,e3⟩:=qyC RR T _ _ e;simp only[Option.some.injEq]at e1;refine⟨lP vs,e1.symm,?_,?_⟩
 ·unfold lP
  split
  ·exact e2.1
  trivial
 ·have hm:(fn.results.mapM (XM a.tmps)).run P w=.ok (aQ m vs).toArray w:=by
   simp_all[Array.mapM_eq_mapM_toList]
  show((fn.results.mapM (XM a.tmps))>>=λvs=>pure (if h:vs.size=1 then vs[0]else .tuple vs)).run P w=_;rw[qq hm];show Result.ok _ w=_;rw[jQC]
end Go.Ae
namespace Go.Ae
open Go
variable {P:Program} {c:CV} {m:Mp} {D:Nat→Prop} {h h':AH} {w:World}
theorem Zh {fn:Func} {a:Act} {tm:PT AV} {m0:Mp} {D0:Nat→Prop} {h0:AH} {w0:World} {r:AV×AH} {nn n:Nat} :
  ∀(ds:List Nat) (l:List Deferred) (m:Mp) (D:Nat→Prop) (h:AH) (w:World),Rel P m D h w→Ext m0 D0 h0 w0 m D h w→eK m D n a tm→pR m D ds l→
   jR ds h (λh'=>Ue P tm h' fn.results.toList λl=>some (lP l,h'))=some r→
   LeavesInM Fence.wide nn P fn a.tmps (QD P m0 D0 h0 w0 r) l .returning w:=by
 intro ds
 induction ds with
 |nil=>
  intro l m D h w RR X T df e;have:l=[]:=by rw[df.2];rfl
  subst this;obtain⟨v,rfl,v1,v2⟩:=qZA RR T e;exact⟨cv m v,v2,m,D,rfl,X,RR,v1⟩
 |cons d ds ih=>
  intro l m D h w RR X T df e;have hl:l=KL (m d).1::ds.map (λd=>KL (m d).1):=df.2;subst hl;have hd:=df.1 d (iK ..);simp only[jR]at e
  split at e
  rotate_left
  ·grind
  rename_i hg;obtain⟨x,hx,mW,rR⟩:=RR.bf d hd;rw[hg]at hx;cases hx;have hb:w.heap[(m d).1]? =some (.deferred (some [])):=mW;have bC:=(Array.getElem?_eq_some_iff.1 hb).1;obtain⟨X2,R2⟩:=RR.put (w0:=w.putObj (m d).1 (.deferred none)) d .pM hd ⟨_,hg,trivial⟩ aA (λc hc=>World.putObj_heap_other hc) rfl rfl rfl trivial
   ⟨_,World.putObj_heap_same bC⟩
  refine⟨by simp,.inl ⟨(m d).1,_,rfl,run_takeDeferred hb,?_⟩⟩;exact ih _ m D _ _ R2 (X.trans X2) (T.mono X2) ⟨λb hb=>df.1 b (iX _ hb),rfl⟩ e
theorem qYR:∀(l:List AV) (i:Nat) (t:PT AV) (j:Nat),(C8 l i t).get j=if i≤j∧j<i+l.length then l[j-i]? else t.get j:=by
 intro l
 induction l with
 |nil=>simp[C8,List.length_nil,iQ,omQ]
 |cons a l ih=>
  intro i t j;simp only[C8,ih,List.length_cons];by_cases h1:i+1≤j∧j<i+1+l.length
  ·grind
  ·rw[iQ h1,PT.bI];grind
theorem qxE (hc:yh P c) (hd:VO P c) {N:Nat} {pl:Pl} {f:FuncId} {args:List AV} {r:AV×AH} (e:zU P N pl c f args h=some r) (RR:Rel P m D h w) (ha:aT D args) (nn:Nat) :
  CallsIn Fence.wide nn P f (aQ m args).toArray w (QD P m D h w r):=by
 simp only[zU,qO]at e;obtain⟨fn,hf,b,hb,e⟩:=e;refine callsIn_of_wp_marks hf hb trivial ?_;have T:eK m D fn.ntmps { tmps:=(aQ m args).toArray++Array.replicate (fn.ntmps-(aQ m args).toArray.size) undef,defers:=[] } (C8 args 0 .e):=by
  refine⟨by grind,?_⟩;intro t v hv;rw[qYR]at hv
  split at hv
  ·rename_i ht;simp only[Nat.sub_zero]at hv;have hm:=List.mem_of_getElem? hv;simp_all[xh,Array.getElem?_append_left,xW]
  trivial
 refine OJ hc hd N f fn.ntmps none b none nn _ r [] pl _ h [] _ m D w _ ⟨RR,T,⟨λb hb=>(by grind),rfl⟩,rfl⟩ ⟨fn,b,hf,hb,rfl,by simp[xg]⟩ e ?_;intro x m1 D1 h1 w1 a1 cF ds1 X1 S1 e1;cases x with
 |normal=>exact Zh ds1 _ m1 D1 h1 w1 S1.rel X1 S1.tm S1.df e1
 |ret=>exact Zh ds1 _ m1 D1 h1 w1 S1.rel X1 S1.tm S1.df e1
 |exit i=>grind
 |goto l=>grind
theorem qkn {m:Mp} {D:Nat→Prop} {n:Nat} {a:Act} {k:PT AV→R} {r:AV×AH}:∀(L:List Nat) (vs:List AV) (t:PT AV),eK m D n a t→(∀p∈L.zip vs,a.tmps[p.1]? =some (cv m p.2))→aT D vs→
  tZ L vs t k=some r→∃t',k t'=some r∧eK m D n a t':=by
 intro L
 induction L with
 |nil=>
  intro vs t T hz hd e;cases vs with
  |nil=>grind
  |cons v vs=>grind
 |cons x L ih=>
  intro vs t T hz hd e;cases vs with
  |nil=>grind
  |cons v vs=>
   simp only[tZ]at e;refine ih vs _ ?_ (λp hp=>hz p (iX _ hp)) hd.2 e;refine⟨T.size,?_⟩;intro s u hs;rw[PT.bI]at hs;by_cases hx:x=s
   ·subst hx;rw[iJ rfl]at hs;cases hs;exact⟨hz (x,v) (iK ..),hd.1⟩
   ·rw[iQ hx]at hs;exact T.at_ s u hs
theorem qjc {m:Mp} {D:Nat→Prop} {n:Nat} {k:PT AV→R} {r:AV×AH}:∀(ps:List Tmp) (vs:List AV) (t:PT AV) (tmps:Array Value),eK m D n { tmps,defers:=[] } t→aT D vs→
  Ik ps vs n t k=some r→ps.length=vs.length∧∃t',k t'=some r∧eK m D n { tmps:=(ps.zip (aQ m vs)).foldl (λtmps (p:Tmp×Value)=>tmps.setIfInBounds p.1 p.2) tmps,defers:=[] } t':=by
 intro ps
 induction ps with
 |nil=>
  intro vs t tmps T hd e;cases vs with
  |nil=>exact⟨rfl,t,e,T⟩
  |cons v vs=>grind
 |cons p ps ih=>
  intro vs t tmps T hd e;cases vs with
  |nil=>grind
  |cons v vs=>
   simp only[Ik,xm]at e;obtain⟨hp,e⟩:=e;have hp:=zA hp;have T':eK m D n { tmps:=tmps.setIfInBounds p (cv m v),defers:=[] } (t.set p v):=by
    refine⟨by simpa using T.size,?_⟩;intro s u hs;rw[PT.bI]at hs;by_cases hx:p=s
    ·subst hx;rw[iJ rfl]at hs;cases hs;have:=T.size;simp only[]at this;refine⟨?_,hd.1⟩;grind
    ·rw[iQ hx]at hs;obtain⟨h1,h2⟩:=T.at_ s u hs;grind
   obtain⟨h1,t',h2,h3⟩:=ih vs _ _ T' hd.2 e;exact⟨by grind,t',h2,h3⟩
end Go.Ae
namespace Go.Ae
open Go
variable {P:Program} {c:CV} {m:Mp} {D:Nat→Prop} {h h':AH} {w:World}
theorem Nn {m0:Mp} {D0:Nat→Prop} {h0:AH} {w0:World} {r:AV×AH} {l:Nat} {lc:Nat} {rd rc:Option Nat} {n:Nat} {ds:List Nat} {a:Act} {tm:PT AV} {j:Option AX}
  (S:St P m D h w n ds a tm rd rc) (X:Ext m0 D0 h0 w0 m D h w) (hl:D l) (LO:(m l).1=lc) (e:yJ h l j=some r) :
  ∃v w',(Instr.endRound lc (j.map wy)).run P w=.ok v w'∧QD P m0 D0 h0 w0 r (.returned v) w':=by
 subst LO;unfold yJ at e
 split at e
 rotate_left
 ·grind
 rename_i st bT f p L vs d hg;obtain⟨x,hx,mW,rR⟩:=S.rel.bf l hl;rw[hg]at hx;cases hx;obtain⟨f',tmps,ps,g,assign,body,fn,bd,q1,q2,q3,q4,q5,q6,q7⟩:=mW;have bC:=(Array.getElem?_eq_some_iff.1 q1).1;have he:=run_endRound (P:=P) (j.map wy) q1;refine⟨_,_,he,?_⟩;cases j with
 |none=>
  simp only[Option.some.injEq]at e;obtain⟨X2,R2⟩:=S.rel.put (w0:=w.putObj (m l).1 (.loop { state:=.ready,pending:=none,fn:=f',tmps:=tmps,params:=ps,assign:=assign,body:=body,defers:=(m d).1 })) l
   (.loop .ready none f p L vs d) hl ⟨_,hg,trivial⟩ aA (λc hc=>World.putObj_heap_other hc) rfl rfl rfl rR
   ⟨f',tmps,ps,g,assign,body,fn,bd,World.putObj_heap_same bC,q2,q3,q4,q5,q6,q7⟩
  subst e;exact⟨m,D,rfl,X.trans X2,R2,trivial⟩
 |some y=>
  simp only[Option.some.injEq]at e;obtain⟨X2,R2⟩:=S.rel.put (w0:=w.putObj (m l).1 (.loop { state:=.done,pending:=some (wy y),fn:=f',tmps:=tmps,params:=ps,assign:=assign,body:=body,defers:=(m d).1 })) l
   (.loop .done (some y) f p L vs d) hl ⟨_,hg,trivial⟩ aA (λc hc=>World.putObj_heap_other hc) rfl rfl rfl rR
   ⟨f',tmps,ps,g,assign,body,fn,bd,World.putObj_heap_same bC,q2,q3,q4,q5,q6,q7⟩
  subst e;exact⟨m,D,rfl,X.trans X2,R2,trivial⟩
theorem qqC (hc:yh P c) (hd:VO P c) {N:Nat} {pl:Pl} {f:FuncId} {pos L:List Nat} {l:Nat} {vs args:List AV} {r:AV×AH} {st:LoopState} {bT:Option AX} {d:Nat}
  (hg:h.get l=some (.loop st bT f pos L vs d)) (e:Vu P N pl c f pos L l vs args h=some r) (RR:Rel P m D h w) (hl:D l) (ha:aT D args):OI P m D h w args r (.yield l):=by
 obtain⟨x,hx,mW,rR⟩:=RR.bf l hl;rw[hg]at hx;cases hx;obtain⟨f',tmps,ps,g,assign,body,fn,bd,q1,q2,q3,q4,q5,q6,q7⟩:=mW;simp only[Vu,qO]at e;obtain⟨Iy,TW,LQ,bF,s,hs,e⟩:=e;rw[q2]at TW;cases TW;rw[q3]at bF;cases bF;rw[q4]at hs;cases hs;simp only[]at e;have T0:eK m D fn.ntmps { tmps:=tmps,defers:=[] } .e:=⟨q5,λt v hv=>by trivial⟩;obtain⟨Lm,e,T1⟩:=qkn L vs .e T0 q7 rR.1 e;obtain⟨hlen,cF,e,T2⟩:=qjc ps.toList args Lm tmps T1 ha e;have bC:(aQ m args).toArray.size=ps.size:=by simp_all
 have hy:=run_yield (P:=P) (args:=(aQ m args).toArray) q1 bC;refine⟨f',_,assign,body,hy,?_⟩;intro nn;have EO:(ps.zip (aQ m args).toArray).foldl (λtmps (x:Tmp×Value)=>tmps.setIfInBounds x.1 x.2) tmps=(ps.toList.zip (aQ m args)).foldl (λtmps (x:Tmp×Value)=>tmps.setIfInBounds x.1 x.2) tmps:=by rw[← Array.foldl_toList,Array.toList_zip]
 refine roundIn_of_wpIn trivial ?_;simp only[];have BD:(ps.zip (aQ m args).toArray).foldl (λtmps (x:Tmp×Value)=>match x with |(t,a)=>tmps.setIfInBounds t a) tmps=(ps.toList.zip (aQ m args)).foldl (λtmps (x:Tmp×Value)=>tmps.setIfInBounds x.1 x.2) tmps:=EO;rw[BD];have da:∃Iy LQ,P.funcs[f]? =some Iy∧Iy.body=some LQ∧Iy.ntmps=fn.ntmps∧xg LQ pos=some (.rangeFunc g ps assign body):=⟨fn,bd,q2,q3,rfl,q4⟩;have LR:=XL (q:=[0]) da (s:=assign) (by simp[xg]);have LS:=XL (q:=[1]) da (s:=body) (by simp only[xg];rfl);refine OJ hc hd N f fn.ntmps (some l) assign (some (m l).1) nn _ r (pos++[0]) (nV pl) _ h [] _ m D w _ ⟨RR,T2,⟨λb hb=>(by grind),rfl⟩,⟨hl,rfl⟩⟩ LR e ?_;intro x m1 D1 h1 w1 a1 cF ds1 X1 S1 e1;cases x with
 |exit i=>grind
 |goto i=>grind
 |ret=>grind
 |normal=>
  simp only[]at e1;unfold Jb at e1
  split at e1
  rotate_left
  ·grind
  rename_i Ay f1 LU L1 vs1 d1 BE;have oV:=X1.r6 l hl;have sj:(m1 l).1=(m l).1:=by rw[X1.map l hl]
  obtain⟨x,hx,mW,LV⟩:=S1.rel.bf l oV;rw[BE]at hx;cases hx;obtain⟨f2,Az,mj,g2,oZ,AB,fn2,bd2,p1,p2,p3,p4,p5,p6,p7⟩:=mW;rw[sj]at p1;have LW:=(Array.getElem?_eq_some_iff.1 p1).1;refine⟨_,run_beginRound p1 rfl,?_⟩;obtain⟨X2,R2⟩:=S1.rel.put (w0:=w1.putObj (m l).1 (.loop { state:=.busy,pending:=Ay.map wy,fn:=f2,tmps:=Az,params:=mj,assign:=oZ,body:=AB,defers:=(m1 d1).1 })) l
   (.loop .busy Ay f1 LU L1 vs1 d1) oV ⟨_,BE,trivial⟩ aA (λc hc=>World.putObj_heap_other (by grind)) rfl rfl rfl LV
   ⟨f2,Az,mj,g2,oZ,AB,fn2,bd2,by grind[World.putObj_heap_same],p2,p3,p4,p5,p6,p7⟩
  refine OJ hc hd N f fn.ntmps (some l) body (some (m l).1) nn _ r (pos++[1]) (Al pl) _ _ ds1 _ m1 D1 _ _ ⟨R2,S1.tm.mono X2,S1.df.mono X2,S1.rd.mono X2⟩ LS e1 ?_;intro y m3 D3 h3 w3 a3 tm3 ds3 X3 S3 e3;have XX:=(X1.trans X2).trans X3;have Dd:=XX.r6 l hl;have Ax:(m3 l).1=(m l).1:=by rw[XX.map l hl]
  cases y with
  |normal=>exact Nn S3 XX Dd Ax e3
  |exit i=>exact Nn (j:=some (.exit i)) S3 XX Dd Ax e3
  |goto i=>exact Nn (j:=some (.goto i)) S3 XX Dd Ax e3
  |ret=>exact Nn (j:=some .ret) S3 XX Dd Ax e3
def pS (P:Program) (f:Nat) (w:WF):Prop:=∀c l h r,w c l h=some r→∀m D W,Rel P m D h W→aT D l→∀n,CallsIn Fence.wide n P f (aQ m l).toArray W (QD P m D h W r)
def WX (P:Program) (f:Nat) (w:WF):Prop:=eG P f w∨pS P f w
structure TabOk (P:Program) (tab:BT) (rt:List RT):Prop where
  w:∀f g,tab.get f=some g→WX P f g
  enter:∀f g,tab.get f=some g→∀(as:Array Value) (W:World),(callFunc f as).run P W=.ok (.enter f as) W
  r:∀p∈rt,Ea P p.f p.pos p.L p.run
theorem ZM:∀{a b:List Nat},Yu a b=true→a=b:=by
 intro a
 induction a with
 |nil=>intro b h;cases b<;>first |rfl |cases h
 |cons x a ih=>
  intro b h;cases b with
  |nil=>cases h
  |cons y b=>simp only[Yu,Bool.and_eq_true]at h;grind[zy]
theorem Zc:∀{rt:List RT} {f:Nat} {pos L:List Nat} {g:VF},YR rt f pos L=some g→∃p∈rt,p.f=f∧p.pos=pos∧p.L=L∧p.run=g:=by
 intro rt
 induction rt with
 |nil=>nofun
 |cons x rt ih=>
  intro f pos L g h;simp only[YR]at h;cases hb:Nat.beq x.f f&&(Yu x.pos pos&&Yu x.L L)
  ·grind
  ·rw[hb]at h;simp only[Bool.and_eq_true]at hb;simp only[cond_true,Option.some.injEq]at h;exact⟨x,iK ..,zy hb.1,ZM hb.2.1,ZM hb.2.2,h⟩
theorem WX.call {f:Nat} {g:WF} {args:List AV} {r:AV×AH} (x:WX P f g) (hc:yh P c) (hd:VO P c) (e:g c args h=some r) (RR:Rel P m D h w) (ha:aT D args) (n:Nat):CallsIn Fence.wide n P f (aQ m args).toArray w (QD P m D h w r):=by
 rcases x with x |x
 ·obtain⟨pl,e⟩:=x _ _ _ _ e;exact qxE hc hd e RR ha n
 ·exact x _ _ _ _ e m D w RR ha n
theorem qYL {tab:BT} {rt:List RT} (ht:TabOk P tab rt) (hd:∀c,yh P c→VO P c):∀k,yh P (callT tab rt k):=by
 intro k
 induction k with
 |zero=>nofun
 |succ k ih=>
  intro vf args h r e m D w RR hv ha;cases vf with
  |fn f first cap=>
   have e:Option.rec (motive:=λ_=>R) none (λg=>g (callT tab rt k) (first++args++cap) h) (BT.get tab f)=some r:=e;cases hg:BT.get tab f with
   |some g=>rw[hg]at e;refine⟨ht.enter f g hg,λn=>(ht.w f g hg).call ih (hd _ ih) e RR ?_ n⟩;exact vp.2 ⟨vp.2 ⟨hv.1,ha⟩,hv.2⟩
   |none=>simp_all
  |yield l=>
   have e:(match h.get l with
    |some (.loop .ready _ f pos L vs _)=>(match YR rt f pos L with |some g=>g (callT tab rt k) l vs args h |none=>none)
    |_=>none)=some r:=e
   split at e
   ·rename_i bT f pos L vs d hg
    split at e
    ·rename_i g hgr;obtain⟨p,hp,rfl,rfl,rfl,rfl⟩:=Zc hgr;obtain⟨pl,e⟩:=ht.r p hp _ _ _ _ _ _ e;exact qqC ih (hd _ ih) hg e RR hv ha
    grind
   grind
  |_=>cases e
end Go.Ae
