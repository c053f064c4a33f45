/- The abstract executor of the program's form in Lean, shown sound: operations one behind the other; code; functions; rounds; tables. -/
import Derived.Test.YtemjbhdofokbhaaGreatDoorMachineGoesAe3
import Derived.LoopNIn
import Derived.RangeFuncRecord
import Derived.RangeFuncNested
namespace Go.Ae
open Go
variable {P:Program} {c:CV}
abbrev cT (x:R) (k:AV→AH→R):R:=x.bind λq=>k q.1 q.2
theorem jD {α:Type} {x:Option α} {f:α→R} {k:AV→AH→R}:cT (ob x f) k=ob x λa=>cT (f a) k:=by grind
theorem Yw {b:Bool} {x y:R} {k:AV→AH→R}:cT (da b x y) k=da b (cT x k) (cT y k):=by cases b<;>rfl
theorem jT {b:Bool} {x y:R} {k:AV→AH→R}:cT (bif b then x else y) k=bif b then cT x k else cT y k:=by grind
theorem xo {k:AV→AH→R}:cT none k=none:=rfl
theorem zy {v:AV} {h:AH} {k:AV→AH→R}:cT (some (v,h)) k=k v h:=rfl
theorem qc {α:Type} {x:Option α} {f g:α→R} (h:∀a,f a=g a):ob x f=ob x g:=by grind
theorem jW {b:Bool} {x y x' y':R} (h:x=x') (h':y=y'):(bif b then x else y)=(bif b then x' else y'):=by grind
theorem jVn (a b d:AV) (h:AH) (k:AV→AH→R):cT (QW a b d λz=>some (z,h)) k=QW a b d λz=>k z h:=by simp only[W3];repeat' (first |rfl |(simp only[Yw,zy];done) |(rw[jD];refine qc λ_=>?_) |(rw[jT];refine jW ?_ ?_) |split)
theorem En (a:AV) (h:AH) (k:AV→AH→R):cT (yB a λz=>some (z,h)) k=yB a λz=>k z h:=by unfold yB;split<;>simp_all
theorem qkO (a:AV) (n:Nat) (h:AH) (k:AV→AH→R):cT (jJ a n λz=>some (z,h)) k=jJ a n λz=>k z h:=by simp only[Nv];split<;>simp_all
theorem jZD (a:AV) (n:Nat) (h:AH) (k:AV→AH→R):cT (KJ a n λz=>some (z,h)) k=KJ a n λz=>k z h:=by simp only[Zd];repeat' (first |rfl |(simp only[jD,zy];done) |(rw[jD];refine qc λ_=>?_) |(rw[jT];refine jW ?_ ?_) |split)
theorem jJb (a:AV) (n m:Nat) (h:AH) (k:AV→AH→R):cT (Yt a n m λz=>some (z,h)) k=Yt a n m λz=>k z h:=by unfold Yt;repeat' (first |rfl |(simp only[jD,zy];done) |(rw[jD];refine qc λ_=>?_) |(rw[jT];refine jW ?_ ?_) |split)
theorem jX9 (a b:AV) (n:Nat) (h:AH) (k:AV→AH→R):cT (w4 a b n λz=>some (z,h)) k=w4 a b n λz=>k z h:=by simp only[Mj];repeat' (first |rfl |(simp only[jT,xo,zy];done) |(rw[jD];refine qc λ_=>?_) |(rw[jT];refine jW ?_ ?_) |split)
theorem jKB (a b:AV) (n m:Nat) (h:AH) (k:AV→AH→R):cT (Jg a b n m λz=>some (z,h)) k=Jg a b n m λz=>k z h:=by unfold Jg;repeat' (first |rfl |(simp only[jT,xo,zy];done) |(rw[jD];refine qc λ_=>?_) |(rw[jT];refine jW ?_ ?_) |split)
theorem jJO (a b:AV) (n m:Nat) (h:AH) (k:AV→AH→R):cT (YR a b n m λz=>some (z,h)) k=YR a b n m λz=>k z h:=by unfold YR;repeat' (first |rfl |(simp only[jD,jT,xo,zy];done) |(rw[jD];refine qc λ_=>?_) |(rw[jT];refine jW ?_ ?_) |split)
theorem jQm (a b:AV) (n m:Nat) (h:AH) (k:AV→AH→R):cT (YS a b n m λz=>some (z,h)) k=YS a b n m λz=>k z h:=by unfold YS;repeat' (first |rfl |(simp only[jD,jT,xo,zy];done) |(rw[jD];refine qc λ_=>?_) |(rw[jT];refine jW ?_ ?_) |split)
theorem qx8 (a b:AV) (h:AH) (k:AV→AH→R):cT (wF a b λz=>some (z,h)) k=wF a b λz=>k z h:=by unfold wF;repeat' (first |rfl |(simp only[jD,zy];done) |(rw[jD];refine qc λ_=>?_) |(rw[jT];refine jW ?_ ?_) |split)
theorem jJC (h0:AH) (a:AV) (h:AH) (k:AV→AH→R):cT (ji h0 a λz=>some (z,h)) k=ji h0 a λz=>k z h:=by simp only[gS];repeat' (first |rfl |(simp only[jD,zy];done) |(rw[jD];refine qc λ_=>?_) |(rw[jT];refine jW ?_ ?_) |split)
theorem jZe (h0:AH) (a:AV) (n:Nat) (h:AH) (k:AV→AH→R):cT (zp h0 a n λz=>some (z,h)) k=zp h0 a n λz=>k z h:=by simp only[kU];repeat' (first |rfl |(simp only[jD,zy];done) |(rw[jD];refine qc λ_=>?_) |(rw[jT];refine jW ?_ ?_) |split)
theorem Eo (op:BinOp) (a b:AV) (h:AH) (k:AV→AH→R):cT (zB op a b λz=>some (z,h)) k=zB op a b λz=>k z h:=by simp only[Pt];repeat' (first |rfl |(simp only[jD,jT,xo,zy];done) |(rw[jD];refine qc λ_=>?_) |(rw[jT];refine jW ?_ ?_) |split)
theorem jQR (op:BinOp) (a b:AV) (h:AH) (k:AV→AH→R):cT (kC op a b λz=>some (z,h)) k=kC op a b λz=>k z h:=by unfold kC;repeat' (first |rfl |(simp only[jD,zy];done) |(rw[jD];refine qc λ_=>?_) |(rw[jT];refine jW ?_ ?_) |split)
theorem Ep (op:BinOp) (a b:AV) (h:AH) (k:AV→AH→R):cT (ug op a b λz=>some (z,h)) k=ug op a b λz=>k z h:=by unfold ug;repeat' (first |rfl |(simp only[jD,zy];done) |(rw[jD];refine qc λ_=>?_) |(rw[jT];refine jW ?_ ?_) |split)
theorem PJ (d:EK) (n:Bool) (a b:AV) (h:AH) (k:AV→AH→R):cT (n8 d n a b λz=>some (z,h)) k=n8 d n a b λz=>k z h:=by simp[n8,jD]
theorem Er (d:List ES) (n:Bool) (a b:AV) (h:AH) (k:AV→AH→R):cT (UW d n a b λz=>some (z,h)) k=UW d n a b λz=>k z h:=by unfold UW;repeat' (first |rfl |(simp only[jD,zy];done) |(rw[jD];refine qc λ_=>?_) |(rw[jT];refine jW ?_ ?_) |split)
theorem PK (op:UnOp) (a:AV) (h:AH) (k:AV→AH→R):cT (rX op a λz=>some (z,h)) k=rX op a λz=>k z h:=by unfold rX;split<;>simp_all
theorem jXL (d:IntKind) (a:AV) (h:AH) (k:AV→AH→R):cT (gt d a λz=>some (z,h)) k=gt d a λz=>k z h:=by unfold gt;split<;>simp_all
theorem jJ0 (a:AV) (h:AH) (k:AV→AH→R):cT (YI a λz=>some (z,h)) k=YI a λz=>k z h:=by unfold YI;split<;>simp_all
theorem Es (h0:AH) (a:AV) (h:AH) (k:AV→AH→R):cT (KZ h0 a λz=>some (z,h)) k=KZ h0 a λz=>k z h:=by unfold KZ;repeat' (first |rfl |(simp only[jD,zy];done) |(rw[jD];refine qc λ_=>?_) |(rw[jT];refine jW ?_ ?_) |split)
theorem qwR (a:AV) (lo hi:Option AV) (h:AH) (k:AV→AH→R):cT (wB a lo hi λz=>some (z,h)) k=wB a lo hi λz=>k z h:=by unfold wB;repeat' (first |rfl |(simp only[jD,zy];done) |(rw[jD];refine qc λ_=>?_) |(rw[jT];refine jW ?_ ?_) |split)
theorem PL (h0:AH) (e:TypeId) (n:Nat) (a:AV) (lo hi:Option AV) (h:AH) (k:AV→AH→R):cT (yh h0 e n a lo hi λz=>some (z,h)) k=yh h0 e n a lo hi λz=>k z h:=by unfold yh;repeat' (first |rfl |(simp only[jD,jT,xo,zy];done) |(rw[jD];refine qc λ_=>?_) |(rw[jT];refine jW ?_ ?_) |split)
theorem qks (n m:Nat) (a:AV) (lo hi:Option AV) (h:AH) (k:AV→AH→R):cT (wI n m a lo hi λz=>some (z,h)) k=wI n m a lo hi λz=>k z h:=by unfold wI;repeat' (first |rfl |(simp only[jD,zy];done) |(rw[jD];refine qc λ_=>?_) |(rw[jT];refine jW ?_ ?_) |split)
theorem qGp (t:TypeId) (z a:AV) (h:AH) (k:AV→AH→R):cT (yM t z a λz=>some (z,h)) k=yM t z a λz=>k z h:=by unfold yM;repeat' (first |rfl |(simp only[jT,zy];done) |(rw[jD];refine qc λ_=>?_) |(rw[jT];refine jW ?_ ?_) |split)
theorem qv4 (t:TypeId) (a:AV) (h:AH) (k:AV→AH→R):cT (Qd t a λz=>some (z,h)) k=Qd t a λz=>k z h:=by unfold Qd;repeat' (first |rfl |(simp only[jT,xo,zy];done) |(rw[jD];refine qc λ_=>?_) |(rw[jT];refine jW ?_ ?_) |split)
theorem qq6 (a:AV) (n:Nat) (h:AH) (k:AV→AH→R):cT (xC a n λz=>some (z,h)) k=xC a n λz=>k z h:=by simp only[YY];repeat' (first |rfl |(simp only[jD,zy];done) |(rw[jD];refine qc λ_=>?_) |(rw[jT];refine jW ?_ ?_) |split)
theorem jX8 (a:AV) (h:AH) (k:AV→AH→R):cT (Qb a λz=>some (z,h)) k=Qb a λz=>k z h:=by unfold Qb;split<;>simp_all
theorem qyB (a:AV) (h:AH) (k:AV→AH→R):cT (J2 a λz=>some (z,h)) k=J2 a λz=>k z h:=by unfold J2;split<;>simp_all
theorem PM (b:Bool) (l:List AV) (h:AH) (k:AV→AH→R):cT (o8 b l λz=>some (z,h)) k=o8 b l λz=>k z h:=by unfold o8;repeat' (first |rfl |(simp only[jD,jT,xo,zy];done) |(rw[jD];refine qc λ_=>?_) |(rw[jT];refine jW ?_ ?_) |split)
theorem jZb (z:List AV) (vs:List (Nat×Nat×AV)) (h:AH) (k:AV→AH→R):cT (yi z vs λz=>some (z,h)) k=yi z vs λz=>k z h:=by simp[yi,jD]
theorem Et (h0:AH) (e:TypeId) (a:AV) (k:AV→AH→R):cT (CP h0 e a λz h=>some (z,h)) k=CP h0 e a k:=by unfold CP;repeat' (first |rfl |(simp only[jT,xo,zy];done) |(rw[jD];refine qc λ_=>?_) |(rw[jT];refine jW ?_ ?_) |split)
theorem Eu (h0:AH) (e:TypeId) (a:AV) (k:AV→AH→R):cT (w5 h0 e a λz h=>some (z,h)) k=w5 h0 e a k:=by simp[w5,jT]
theorem qxF (h0:AH) (e:TypeId) (z:List AV) (n:Nat) (vs:List (Nat×Nat×AV)) (k:AV→AH→R):cT (xL h0 e z n vs λz h=>some (z,h)) k=xL h0 e z n vs k:=by simp[xL,jD,jT]
theorem jKP (h0:AH) (e:TypeId) (z:List AV) (a b:AV) (k:AV→AH→R):cT (JY h0 e z a b λz h=>some (z,h)) k=JY h0 e z a b k:=by unfold JY;repeat' (first |rfl |(simp only[jT,xo,zy];done) |(rw[jD];refine qc λ_=>?_) |(rw[jT];refine jW ?_ ?_) |split)
theorem qGD (h0:AH) (e:TypeId) (sz:Nat) (a:AV) (n:Nat) (new:CT) (k:AV→AH→R):cT (vw h0 e sz a n new λz h=>some (z,h)) k=vw h0 e sz a n new k:=by unfold vw;repeat' (first |rfl |(simp only[jD,jT,xo,zy];done) |(rw[jD];refine qc λ_=>?_) |(rw[jT];refine jW ?_ ?_) |split)
theorem qwm (h0:AH) (e:TypeId) (sz:Nat) (a b:AV) (k:AV→AH→R):cT (xk h0 e sz a b λz h=>some (z,h)) k=xk h0 e sz a b k:=by simp[xk,jD,jT,qGD]
theorem jK9 (h0:AH) (a:AV) (k:AV→AH→R):cT (Oo h0 a λz h=>some (z,h)) k=Oo h0 a k:=by unfold Oo;repeat' (first |rfl |(simp only[jT,zy];done) |(rw[jD];refine qc λ_=>?_) |(rw[jT];refine jW ?_ ?_) |split)
theorem qwi (f:AV) (a:List AV) (h0:AH) (k:AV→AH→R):cT (zS c f a h0 λz h=>some (z,h)) k=zS c f a h0 k:=by simp only[JO];grind
theorem qxe (l:List (Nat×Nat)) (v:AV) (a:List AV) (h0:AH) (k:AV→AH→R):cT (vV c l v a h0 λz h=>some (z,h)) k=vV c l v a h0 k:=by
 unfold vV;cases v<;>first |rfl |skip
 rename_i t x;simp only[];cases VB l t with
 |none=>rfl
 |some f=>simp[qwi]
theorem jVC (h0 h1:AH) (v:AV) (k:AV→AH→R):cT (Ze h0 v λz=>some (z,h1)) k=Ze h0 v λz=>k z h1:=by
 unfold Ze
 repeat' (first |rfl |split)
theorem jQ1 (h0 h1:AH) (v i:AV) (k:AV→AH→R):cT (U6 h0 v i λz=>some (z,h1)) k=U6 h0 v i λz=>k z h1:=by
 unfold U6
 repeat' (first |rfl |split)
theorem jVT (h0:AH) (v i:AV) (k:AV→AH→R):cT (OC h0 v i λz h=>some (z,h)) k=OC h0 v i k:=by
 unfold OC
 repeat' (first |rfl |split)
theorem Ev (h0:AH) (v i y:AV) (k:AV→AH→R):cT (CQ h0 v i y λh=>some (.undef,h)) k=CQ h0 v i y λh=>k .undef h:=by
 unfold CQ
 repeat' (first |rfl |split)
theorem jVR (h0:AH) (v i y:AV) (k:AV→AH→R):cT (ZX h0 v i y λh=>some (.undef,h)) k=ZX h0 v i y λh=>k .undef h:=by
 unfold ZX
 repeat' (first |rfl |split)
theorem jZO (h0:AH) (a b:AV) (n:Nat) (k:AV→AH→R):cT (zV h0 a b n λh=>some (.undef,h)) k=zV h0 a b n λh=>k .undef h:=by simp only[Ut];repeat' (first |rfl |(simp only[jD,jT,xo,zy];done) |(rw[jD];refine qc λ_=>?_) |(rw[jT];refine jW ?_ ?_) |split)
theorem Ew (op:BinOp) (t:TypeId) (a b:AV) (h:AH) (k:AV→AH→R):cT (DP P op t a b λz=>some (z,h)) k=DP P op t a b λz=>k z h:=by
 cases op<;>simp only[DP,jD,jQR]<;>refine qc λd=>?_
 all_goals cases d<;>simp only[Eo,Ep,PJ,Er,jD,Yw,xo]
theorem jVh (s d:TypeId) (v:AV) (h:AH) (k:AV→AH→R):cT (Gs P s d v h λz h=>some (z,h)) k=Gs P s d v h k:=by
 simp only[Gs,jD];refine qc λds=>qc λdd=>?_;cases dd<;>cases ds<;>simp only[jXL,jJ0,xo,jD]<;>refine qc λe=>?_
 all_goals
  cases e<;>first |rfl |skip
  rename_i q;cases q<;>simp only[xo,Es]
theorem qYT (o:Op) (r:Operand→Option AV) (h:AH) (k:AV→AH→R):bC P c o r h k=cT (cO P c o r h) k:=by
 unfold cO;cases o
 case convert s d x=>show(ob (r x) λv=>Gs P s d v h k)=cT (ob (r x) λv=>Gs P s d v h λv h'=>some (v,h')) k;rw[jD];simp[qc,jVh]
 all_goals simp only[bC,jD,xo,zy,jVn,Eu,jZO,En,Ew,PK,qkO,qq6]
 case slice t x lo hi mx=>
  cases mx<;>simp only[jD,xo]
  refine qc λ_=>qc λ_=>qc λ_=>qc λd=>?_;cases d<;>(first |rfl |simp[jD,qwR,PL,qks])
 case build=>refine qc λ_=>qc λd=>?_;cases d<;>(first |rfl |simp[jD,jZb])
 case buildSlice=>refine qc λd=>?_;cases d<;>(first |rfl |simp[jD,Yw,qxF])
 case load=>refine qc λ_=>qc λd=>?_;cases d<;>(simp[jJC,jZe])
 case makeInterface=>refine qc λd=>?_;grind
 case makeFunc fn _ _=>cases fn<;>(simp[jD])
 case makeSlice=>refine qc λd=>?_;cases d<;>(first |rfl |simp[jD,jKP])
 case field=>refine qc λ_=>qc λd=>?_;obtain⟨d,e⟩:=d;cases e<;>(simp[jZD,jJb])
 case indexAddr=>refine qc λ_=>qc λ_=>qc λd=>?_;cases d<;>(first |rfl |simp[jD,Yw,jX9,jKB])
 case index=>refine qc λ_=>qc λ_=>qc λd=>?_;cases d<;>(first |rfl |simp[jD,Yw,qx8,jJO,jQm])
 case typeAssert=>refine qc λ_=>qc λd=>?_;cases d<;>(first |rfl |simp only[jD,Yw,qv4,qGp])
 case call cl=>
  cases cl.callee with
  |value f=>simp[jD,qwi]
  |invoke _ _=>simp[jD,qxe]
  |builtin b=>
   cases b<;>first |rfl |(simp only[jD,PM];done) |skip
   case len=>
    generalize cl.args.toList=xs;generalize cl.argTypes.toList=ts;cases xs<;>cases ts<;>first |rfl |skip
    simp only[jD];refine qc λ_=>qc λd=>?_;cases d<;>(first |rfl |simp[qyB,jX8])
   case append=>
    generalize cl.args.toList=xs;generalize cl.argTypes.toList=ts;rcases xs with _ |⟨s,_ |⟨x,_ |⟨y,xs⟩⟩⟩<;>rcases ts with _ |⟨t,_ |⟨u,ts⟩⟩<;>first |rfl |skip
    simp only[jD];refine qc λdu=>?_;cases du<;>first |rfl |skip
    all_goals
     simp only[jD];refine qc λd=>?_;cases d<;>(first |rfl |simp only[jD,qwm])
theorem YC {o:Op} {r:Operand→Option AV} {h:AH} {k:AV→AH→R} {q:AV×AH} (e:bC P c o r h k=some q) :
  ∃v h',cO P c o r h=some (v,h')∧k v h'=some q:=by
 rw[qYT]at e;cases hs:cO P c o r h with
 |none=>simp_all
 |some z=>rw[hs]at e;exact⟨z.1,z.2,rfl,e⟩
end Go.Ae
namespace Go.Ae
open Go
variable {P:Program} {m:Mp} {D:Nat→Prop} {h h':AH} {w:World} {c:CV} {o:Oper} {v:AV}
theorem jXa (hc:vJ P c) {rd:Option Nat} {n nn:Nat} {ops:Array Oper} {Q:Exit→Act→World→Prop} {g:Option (Nat×Bool)} {p:Oper} {d:Tmp} {r:AV×AH} :
  ∀(l:List Oper) (j:Nat) (rest:List Nat) (m:Mp) (D:Nat→Prop) (h:AH) (w:World) (a:Act) (tm:PT AV) (k:PT AV→AH→R),
   (∀i o,l[i]? =some o→ops[j+i]? =some o∧o.guard=g)→
   (∀q,g=some q→ops[q.1]? =some p∧p.dst=some d∧writes d l=false∧yielded ops a.tmps q.1=some q.2)→
   Rel P m D h w→eU m D n a tm→CR P c n l tm h k=some r→
   (∀m' D' h' w' a' tm',AD P m D h w n a.defers a' tm' m' D' h' w'→k tm' h'=some r→wpOpsIn (FW rd) nn P ops Q rest a' w')→
   wpOpsIn (FW rd) nn P ops Q (List.range' j l.length++rest) a w:=by
 intro l
 induction l with
 |nil=>intro j rest m D h w a tm k _ _ R T e hk;exact hk m D h w a tm ⟨Ext.refl ..,R,T,rfl⟩ e
 |cons o l ih=>
  intro j rest m D h w a tm k hl hg R T e hk;obtain⟨ho,fc⟩:=hl 0 o rfl;simp only[List.length_cons,List.range'_succ,List.cons_append];simp only[wpOpsIn];rw[show ops[j]? =some o from ho];have hw:Region.wanted o (yielded ops a.tmps)=true:=by
   unfold Region.wanted;rw[fc];cases g with
   |none=>rfl
   |some q=>obtain⟨_,_,_,hy⟩:=hg q rfl;simp[hy]
  simp only[hw,if_true];simp only[CR]at e;obtain⟨v,h1,e1,e⟩:=YC e;refine El hc T.ev R e1 ?_;intro m1 D1 w1 X R1 BC;obtain⟨cW,e2,T1⟩:=(T.mono X).put BC e;refine ih (j+1) rest m1 D1 h1 w1 _ cW k ?_ ?_ R1 T1 e2 ?_
  ·intro i o' hi;have:=hl (i+1) o' hi
   rwa [show j+(i+1)=j+1+i by omega]at this
  ·intro q hq;obtain⟨k1,k2,k3,k4⟩:=hg q hq;have dV:=Gx k3;refine⟨k1,k2,?_,?_⟩
   ·simp only[writes,Bool.or_eq_false_iff]at k3;exact k3.2
   ·rw[Vq k1 k2 (dV o (iK ..))];omega
  ·intro m' D' h' w' a' tm' O e';refine hk m' D' h' w' a' tm' ⟨X.trans O.ext,O.rel,O.tm,?_⟩ e';rw[O.defers,kD]
end Go.Ae
namespace Go.Ae
open Go
variable {P:Program} {m:Mp} {D:Nat→Prop} {h h':AH} {w:World} {c:CV} {o:Oper} {v:AV}
theorem jQp {q:Nat×Bool} {y:Nat→Option Bool} (hg:o.guard=some q) (hy:y q.1=some q.2):Region.wanted o y=true:=by grind[Region.wanted]
theorem ZG {q:Nat×Bool} {y:Nat→Option Bool} (hg:o.guard=some q) (hy:y q.1≠some q.2):Region.wanted o y=false:=by grind[Region.wanted]
theorem qxM {rd:Option Nat} {n nn:Nat} {ops:Array Oper} {Q:Exit→Act→World→Prop} {q:Nat×Bool} {p:Oper} {d:Tmp} {r:AV×AH} :
  ∀(l:List Oper) (j:Nat) (rest:List Nat) (a:Act) (tm:PT AV) (k:PT AV→R),
   (∀i o,l[i]? =some o→ops[j+i]? =some o∧o.guard=some q)→
   ops[q.1]? =some p→p.dst=some d→writes d l=false→yielded ops a.tmps q.1≠some q.2→
   eU m D n a tm→Mf n l tm k=some r→
   (∀a' tm',eU m D n a' tm'→a'.defers=a.defers→k tm'=some r→wpOpsIn (FW rd) nn P ops Q rest a' w)→
   wpOpsIn (FW rd) nn P ops Q (List.range' j l.length++rest) a w:=by
 intro l
 induction l with
 |nil=>grind
 |cons o l ih=>
  intro j rest a tm k hl hp hd hw hy T e hk;obtain⟨ho,fc⟩:=hl 0 o rfl;simp only[List.length_cons,List.range'_succ,List.cons_append];simp only[wpOpsIn];rw[show ops[j]? =some o from ho];simp only[ZG fc hy,Bool.false_eq_true,if_false];refine⟨λ_ _=>trivial,?_⟩;simp only[Mf]at e;obtain⟨cW,e2,T1⟩:=T.put (v:=.undef) trivial e;rw[qXc]at T1;have dV:=Gx hw;refine ih (j+1) rest _ cW k ?_ hp hd ?_ ?_ T1 e2 ?_
  ·intro i o' hi;have:=hl (i+1) o' hi
   grind
  ·grind[writes,Bool.or_eq_false_iff]
  ·simp_all[Vq]
  grind[kD]
theorem eU.cn {n:Nat} {a:Act} {tm:PT AV} (T:eU m D n a tm):∀(L:List Nat) (acc:PT AV),eU m D n a acc→yw tm L=true→eU m D n a (ky L (wh L tm) acc):=by
 intro L
 induction L with
 |nil=>intro acc A _;exact A
 |cons t L ih=>
  intro acc A hh;simp only[yw,Bool.and_eq_true]at hh;simp only[wh,ky];refine ih _ ?_ hh.2;have h1:=hh.1;unfold has at h1
  split at h1
  ·rename_i v hv;refine⟨A.size,?_⟩;intro s u hs;rw[PT.bZ]at hs;by_cases e:t=s
   ·subst e;rw[iJ rfl]at hs;cases hs;exact T.at_ t v hv
   ·rw[iQ e]at hs;exact A.at_ s u hs
  grind
theorem Oa {b:Bool} {x:R} {r:AV×AH}:da b none x=some r↔b=false∧x=some r:=by grind
theorem PT.fK {α:Type} (i:Nat):(PT.e:PT α).get i=none:=rfl
theorem eU.join {n:Nat} {a:Act} {tm:PT AV} (T:eU m D n a tm) (L:List Nat) (hh:yw tm L=true):eU m D n a (ky L (wh L tm) .e) :=
 T.cn L .e ⟨T.size,λt v hv=>by trivial⟩ hh
theorem ZM (g:Nat×Bool) (l:List Oper):(z6 g l).1++(z6 g l).2=l:=by
 induction l with
 |nil=>rfl
 |cons o l ih=>grind[z6,Is]
theorem qWn (g:Nat×Bool) (l:List Oper):∀o∈(z6 g l).1,o.guard=some g:=by
 induction l with
 |nil=>intro o ho;cases ho
 |cons x l ih=>
  intro o ho;simp only[z6]at ho;cases hs:Is g x<;>simp only[hs,cond_false,cond_true]at ho
  ·grind
  ·rcases List.mem_cons.1 ho with rfl |ho
   ·unfold Is at hs
    split at hs
    ·rename_i g' PN;simp only[Bool.and_eq_true,beq_iff_eq]at hs;grind[zC]
    grind
   grind
theorem jZt (hc:vJ P c) {rd:Option Nat} {n nn:Nat} {ops:Array Oper} {Q:Exit→Act→World→Prop} {r:AV×AH} {ds:List Deferred} :
  ∀(f:Nat) (l:List Oper) (j:Nat) (Ls:List (List Nat)) (m:Mp) (D:Nat→Prop) (h:AH) (w:World) (a:Act) (tm:PT AV) (k:PT AV→AH→R),
   (∀i o,l[i]? =some o→ops[j+i]? =some o)→
   Rel P m D h w→eU m D n a tm→a.defers=ds→Kq P c n ops.toList f l Ls tm h k=some r→
   (∀m' D' h' w' a' tm',AD P m D h w n ds a' tm' m' D' h' w'→k tm' h'=some r→Q .normal a' w')→
   wpOpsIn (FW rd) nn P ops Q (List.range' j l.length) a w:=by
 intro f
 induction f with
 |zero=>
  intro l j Ls m D h w a tm k hl R T rH e hk;cases l with
  |nil=>exact hk m D h w a tm ⟨Ext.refl ..,R,T,rH⟩ e
  |cons o l=>grind
 |succ f ih=>
  intro l j Ls m D h w a tm k hl R T rH e hk;cases l with
  |nil=>exact hk m D h w a tm ⟨Ext.refl ..,R,T,rH⟩ e
  |cons o l=>
   cases hg:o.guard with
   |none=>
    simp only[Kq,hg]at e;obtain⟨v,h1,e1,e⟩:=YC e;simp only[List.length_cons,List.range'_succ,wpOpsIn];rw[show ops[j]? =some o from hl 0 o rfl];have hw:Region.wanted o (yielded ops a.tmps)=true:=by simp_all[Region.wanted]
    simp only[hw,if_true];refine El hc T.ev R e1 ?_;intro m1 D1 w1 X R1 BC;obtain⟨cW,e2,T1⟩:=(T.mono X).put BC e;refine ih l (j+1) Ls m1 D1 h1 w1 _ cW k ?_ R1 T1 (by simp_all[kD]) e2 ?_
    ·intro i o' hi;have:=hl (i+1) o' hi
     rwa [show j+(i+1)=j+1+i by omega]at this
    ·intro m' D' h' w' a' tm' O e';exact hk m' D' h' w' a' tm' ⟨X.trans O.ext,O.rel,O.tm,O.defers⟩ e'
   |some g=>
    simp only[Kq,hg,qC]at e;obtain⟨d,hd,vg,uw,e⟩:=e;cases Ls with
    |nil=>grind
    |cons L Ap=>
     simp only[Oa]at e;obtain⟨dZ,e⟩:=e;unfold QB at hd;rw[hg]at hd;simp only[Option.bind_some,ya,Array.getElem?_toList,Option.bind_eq_some_iff]at hd;obtain⟨p,hp,Ex⟩:=hd;have PO:=T.at_ d vg uw;have iH:o::l=(o::(z6 g l).1)++(z6 g l).2:=by rw[List.cons_append,ZM]
     have hlen:List.range' j (o::l).length=List.range' j (o::(z6 g l).1).length++List.range' (j+(o::(z6 g l).1).length) (z6 g l).2.length:=by rw[List.range'_append_1,← List.length_append,← iH]
     rw[hlen];have oa:∀i o',(o::(z6 g l).1)[i]? =some o'→ops[j+i]? =some o'∧o'.guard=some g:=by
      intro i o' hi;refine⟨hl i o' ?_,?_⟩
      ·rw[iH,List.getElem?_append_left (List.getElem?_eq_some_iff.1 hi).1];omega
      ·rcases List.mem_cons.1 (List.mem_of_getElem? hi)with rfl |hm
       ·omega
       ·exact qWn g l o' hm
     have n9:∀i o',(z6 g l).2[i]? =some o'→ops[j+(o::(z6 g l).1).length+i]? =some o':=by intro i o' hi;rw[Nat.add_assoc];refine hl _ o' ?_;rw[iH,List.getElem?_append_right omQ];simp;omega
     have hZ:yielded ops a.tmps g.1=(match cv m vg with | .bool b=>some b |_=>none):=by unfold yielded;simp only[hp,Option.bind_some,Ex,PO.1];generalize cv m vg=z;cases z<;>rfl
     have fin:∀m1 D1 h1 w1 a1 cW,AD P m D h w n ds a1 cW m1 D1 h1 w1→
       da (yw cW L) (Kq P c n ops.toList f (z6 g l).2 Ap (ky L (wh L cW) .e) h1 k) none=some r→
       wpOpsIn (FW rd) nn P ops Q (List.range' (j+(o::(z6 g l).1).length) (z6 g l).2.length) a1 w1:=by
      intro m1 D1 h1 w1 a1 cW O e1;rw[yq]at e1;obtain⟨cX,e1⟩:=e1;refine ih (z6 g l).2 _ Ap m1 D1 h1 w1 a1 _ k n9 O.rel (O.tm.join L cX) O.defers e1 ?_;intro m' D' h' w' a' tm' O' e';exact hk m' D' h' w' a' tm' ⟨O.ext.trans O'.ext,O'.rel,O'.tm,O'.defers⟩ e'
     simp only[yp]at e;rw[ML]at e;have go:∀(e:Mf n (o::(z6 g l).1) tm (λtm'=>da (yw tm' L) (Kq P c n ops.toList f (z6 g l).2 Ap (ky L (wh L tm') .e) h k) none)=some r)
       (hy:yielded ops a.tmps g.1≠some g.2),wpOpsIn (FW rd) nn P ops Q (List.range' j (o::(z6 g l).1).length++List.range' (j+(o::(z6 g l).1).length) (z6 g l).2.length) a w:=by
      intro e hy;refine qxM (o::(z6 g l).1) j _ a tm _ oa hp Ex dZ hy T e ?_;intro a' tm' T' PP e';exact fin m D h w a' tm' ⟨Ext.refl ..,R,T',by rw[PP,rH]⟩ e'
     split at e
     ·rename_i t;simp only[cv]at hZ;cases ht:(t==g.2)
      rotate_left
      ·rw[ht]at e;refine jXa (p:=p) (d:=d) hc (o::(z6 g l).1) j _ m D h w a tm _ oa ?_ R T e ?_
       ·intro q hq;cases hq;exact⟨hp,Ex,dZ,by rw[hZ];simpa using ht⟩
       ·intro m' D' h' w' a' tm' O e';exact fin m' D' h' w' a' tm' ⟨O.ext,O.rel,O.tm,by rw[O.defers,rH]⟩ e'
      ·rw[ht]at e;refine go e ?_;rw[hZ];simpa using ht
     ·rename_i hnb;refine go e ?_;rw[hZ];cases vg<;>simp only[cv]<;>first |(intro hh;cases hh;done) |grind |skip
end Go.Ae
namespace Go.Ae
open Go
variable {P:Program} {c:CV}
def Ey:AX→Exit
 | .normal=>.normal
 | .exit i=>.exit i
 | .goto l=>.goto l
 | .ret=>.ret
def VJ (b:Nat):Deferred:={ target:=.collected b,args:=#[] }
def pX (m:Mp) (D:Nat→Prop) (ds:List Nat) (l:List Deferred):Prop:=(∀d∈ds,D d)∧l=ds.map λd=>VJ (m d).1
def sx (m:Mp) (D:Nat→Prop) (rd rc:Option Nat):Prop:=match rd with
 |none=>rc=none
 |some l=>D l∧rc=some (m l).1
theorem pX.mono {m m':Mp} {D D':Nat→Prop} {h h':AH} {w w':World} {ds:List Nat} {l:List Deferred} (d:pX m D ds l) (e:Ext m D h w m' D' h' w'):pX m' D' ds l :=
 ⟨λb hb=>e.r9 b (d.1 b hb),by rw[d.2];exact List.map_congr_left λb hb=>by rw[e.map b (d.1 b hb)]⟩
theorem sx.mono {m m':Mp} {D D':Nat→Prop} {h h':AH} {w w':World} {rd rc:Option Nat} (d:sx m D rd rc) (e:Ext m D h w m' D' h' w'):sx m' D' rd rc:=by
 cases rd with
 |none=>exact d
 |some l=>exact⟨e.r9 l d.1,by rw[e.map l d.1];exact d.2⟩
structure St (P:Program) (m:Mp) (D:Nat→Prop) (h:AH) (w:World) (n:Nat) (ds:List Nat) (a:Act) (tm:PT AV) (rd rc:Option Nat):Prop where
  rel:Rel P m D h w
  tm:eU m D n a tm
  df:pX m D ds a.defers
  rd:sx m D rd rc
theorem St.AE {m m':Mp} {D D':Nat→Prop} {h h':AH} {w w':World} {n:Nat} {ds:List Nat} {a a':Act} {tm tm':PT AV} {rd rc:Option Nat} (s:St P m D h w n ds a tm rd rc)
  (o:AD P m D h w n a.defers a' tm' m' D' h' w'):St P m' D' h' w' n ds a' tm' rd rc :=
 ⟨o.rel,o.tm,by rw[o.defers];exact s.df.mono o.ext,s.rd.mono o.ext⟩
def NH (P:Program) (c:CV):Prop:=∀(n nn:Nat) (ops:Array Oper) (Ls:List (List Nat)) (rc:Option Nat) (Q:Exit→Act→World→Prop) (r:AV×AH) (id:Nat)
 (m:Mp) (D:Nat→Prop) (h:AH) (w:World) (a:Act) (tm:PT AV) (k:PT AV→AH→R),Rel P m D h w→eU m D n a tm→Ph P c n ops Ls tm h k=some r→
 (∀m' D' h' w' a' tm',AD P m D h w n a.defers a' tm' m' D' h' w'→k tm' h'=some r→Q .normal a' w')→(Code.region id ops true).wpIn (FW rc) nn P Q a w
def kb (P:Program) (N:Nat) (c:CV) (f n:Nat) (rd:Option Nat) (code:Code):Prop :=
 ∀(rc:Option Nat) (nn:Nat) (Q:Exit→Act→World→Prop) (r:AV×AH) (pos:List Nat) (pl:Pl) (tm:PT AV) (h:AH) (ds:List Nat) (k:AX→PT AV→AH→List Nat→R)
  (m:Mp) (D:Nat→Prop) (w:World) (a:Act),St P m D h w n ds a tm rd rc→
  (∃fn bd,P.funcs[f]? =some fn∧fn.body=some bd∧fn.ntmps=n∧xM bd pos=some code)→
  wS P N c f n rd code pos pl tm h ds k=some r→
  (∀x m' D' h' w' a' tm' Ez,Ext m D h w m' D' h' w'→St P m' D' h' w' n Ez a' tm' rd rc→k x tm' h' Ez=some r→Q (Ey x) a' w')→
  code.wpIn (FW rc) nn P Q a w
theorem qGl (c:Code) (p q:List Nat) (s:Code) (h:xM c p=some s):xM c (p++q)=xM s q:=by
 induction p generalizing c with
 |nil=>grind[xM]
 |cons i p ih=>
  cases c<;>simp only[xM,reduceCtorEq,List.cons_append]at h ⊢
  case seq a b=>grind
  all_goals grind
theorem Yc {f n:Nat} {code s:Code} {pos q:List Nat} (h:∃fn bd,P.funcs[f]? =some fn∧fn.body=some bd∧fn.ntmps=n∧xM bd pos=some code) (hs:xM code q=some s) :
  ∃fn bd,P.funcs[f]? =some fn∧fn.body=some bd∧fn.ntmps=n∧xM bd (pos++q)=some s:=by
 grind[qGl]
end Go.Ae
namespace Go.Ae
open Go
variable {P:Program} {c:CV}
theorem St.join {m:Mp} {D:Nat→Prop} {h:AH} {w:World} {n:Nat} {ds:List Nat} {a:Act} {tm:PT AV} {rd rc:Option Nat} (s:St P m D h w n ds a tm rd rc) {L:List Nat} (hh:yw tm L=true) :
  St P m D h w n ds a (ky L (wh L tm) .e) rd rc:=⟨s.rel,s.tm.join L hh,s.df,s.rd⟩
theorem qKA (hc:vJ P c) (hd:NH P c) {f n:Nat} {rd:Option Nat} {N id:Nat} {ops:Array Oper} {d:Bool}:kb P N c f n rd (.region id ops d):=by
 intro rc nn Q r pos pl tm h ds k m D w a S _ e hk;simp only[wS]at e;cases d with
 |true=>simp only[da]at e;refine hd n nn ops (Ix pl) rc Q r id m D h w a tm _ S.rel S.tm e ?_;intro m' D' h' w' a' tm' O e';exact hk .normal m' D' h' w' a' tm' ds O.ext (S.AE O) e'
 |false=>
  simp only[da]at e;refine wpIn_region ?_;have hr:List.range ops.size=List.range' 0 ops.toList.length:=by simp[List.range_eq_range']
  rw[hr];refine jZt (ds:=a.defers) hc _ ops.toList 0 (Ix pl) m D h w a tm _ (λi o hi=>by grind) S.rel S.tm rfl e ?_;intro m' D' h' w' a' tm' O e';exact hk .normal m' D' h' w' a' tm' ds O.ext (S.AE O) e'
theorem qwL {f n N:Nat} {rd:Option Nat} {x y:Code} (hx:kb P N c f n rd x) (hy:kb P N c f n rd y):kb P N c f n rd (.seq x y):=by
 intro rc nn Q r pos pl tm h ds k m D w a S dJ e hk;simp only[wS]at e;have sg:=Yc (q:=[0]) dJ (s:=x) (by simp[xM]);have II:=Yc (q:=[1]) dJ (s:=y) (by simp only[xM];rfl);refine wpIn_seq ?_;cases hL:Ar pl with
 |some L=>
  simp only[hL,yp]at e;refine hx rc nn _ r (pos++[0]) (oz pl) tm h ds _ m D w a S sg e ?_;intro z m1 D1 h1 w1 a1 cW ds1 X1 S1 e1;cases z with
  |normal=>simp only[yq]at e1;obtain⟨cX,e1⟩:=e1;refine hy rc nn Q r (pos++[1]) (Aq pl) _ h1 ds1 k m1 D1 w1 a1 (S1.join cX) II e1 ?_;intro z2 m2 D2 h2 w2 a2 BD AF X2 S2 e2;exact hk z2 m2 D2 h2 w2 a2 BD AF (X1.trans X2) S2 e2
  |exit i=>exact hk (.exit i) m1 D1 h1 w1 a1 cW ds1 X1 S1 e1
  |goto i=>exact hk (.goto i) m1 D1 h1 w1 a1 cW ds1 X1 S1 e1
  |ret=>exact hk .ret m1 D1 h1 w1 a1 cW ds1 X1 S1 e1
 |none=>
  simp only[hL]at e;refine hx rc nn _ r (pos++[0]) (oz pl) tm h ds _ m D w a S sg e ?_;intro z m1 D1 h1 w1 a1 cW ds1 X1 S1 e1;cases z with
  |normal=>refine hy rc nn Q r (pos++[1]) (Aq pl) _ h1 ds1 k m1 D1 w1 a1 S1 II e1 ?_;intro z2 m2 D2 h2 w2 a2 BD AF X2 S2 e2;exact hk z2 m2 D2 h2 w2 a2 BD AF (X1.trans X2) S2 e2
  |exit i=>exact hk (.exit i) m1 D1 h1 w1 a1 cW ds1 X1 S1 e1
  |goto i=>exact hk (.goto i) m1 D1 h1 w1 a1 cW ds1 X1 S1 e1
  |ret=>exact hk .ret m1 D1 h1 w1 a1 cW ds1 X1 S1 e1
theorem qql {f n N:Nat} {rd:Option Nat} {o:Operand} {x y:Code} (hx:kb P N c f n rd x) (hy:kb P N c f n rd y):kb P N c f n rd (.cond o x y):=by
 intro rc nn Q r pos pl tm h ds k m D w a S dJ e hk;simp only[wS,qC]at e;obtain⟨v,hv,e⟩:=e;have sg:=Yc (q:=[0]) dJ (s:=x) (by simp[xM]);have II:=Yc (q:=[1]) dJ (s:=y) (by simp only[xM];rfl);obtain⟨h1,h2⟩:=S.tm.ev _ _ hv;rw[WZ]at e
 split at e
 ·rename_i t;refine wpIn_cond (t:=t) (by trivial) ?_;cases t with
  |true=>exact hx rc nn Q r (pos++[0]) (oz pl) tm h ds k m D w a S sg e hk
  |false=>exact hy rc nn Q r (pos++[1]) (Aq pl) tm h ds k m D w a S II e hk
 grind
theorem qKr {f n N id:Nat} {rd:Option Nat} {x:Code} (hx:kb P N c f n rd x):kb P N c f n rd (.block id x):=by
 intro rc nn Q r pos pl tm h ds k m D w a S dJ e hk;simp only[wS]at e;have sg:=Yc (q:=[0]) dJ (s:=x) (by simp[xM]);refine wpIn_block ?_;cases hL:Ar pl with
 |some L=>
  simp only[hL,yp]at e;refine hx rc nn _ r (pos++[0]) (oz pl) tm h ds _ m D w a S sg e ?_;intro z m1 D1 h1 w1 a1 cW ds1 X1 S1 e1;cases z with
  |normal=>simp only[yq]at e1;obtain⟨cX,e1⟩:=e1;exact hk .normal m1 D1 h1 w1 a1 _ ds1 X1 (S1.join cX) e1
  |exit i=>
   simp only[Ey,Exit.inBlock];by_cases hi:i=id
   ·subst hi;simp only[Nat.beq_refl,da,if_true]at e1 ⊢;cases cX:yw cW L
    ·grind
    ·rw[cX]at e1;exact hk .normal m1 D1 h1 w1 a1 _ ds1 X1 (S1.join cX) e1
   ·rw[iQ hi];simp only[vC hi,da]at e1;exact hk (.exit i) m1 D1 h1 w1 a1 cW ds1 X1 S1 e1
  |goto i=>exact hk (.goto i) m1 D1 h1 w1 a1 cW ds1 X1 S1 e1
  |ret=>exact hk .ret m1 D1 h1 w1 a1 cW ds1 X1 S1 e1
 |none=>
  simp only[hL]at e;refine hx rc nn _ r (pos++[0]) (oz pl) tm h ds _ m D w a S sg e ?_;intro z m1 D1 h1 w1 a1 cW ds1 X1 S1 e1;cases z with
  |normal=>exact hk .normal m1 D1 h1 w1 a1 _ ds1 X1 S1 e1
  |exit i=>
   simp only[Ey,Exit.inBlock];by_cases hi:i=id
   ·subst hi;simp only[Nat.beq_refl,da,if_true]at e1 ⊢;exact hk .normal m1 D1 h1 w1 a1 _ ds1 X1 S1 e1
   ·rw[iQ hi];simp only[vC hi,da]at e1;exact hk (.exit i) m1 D1 h1 w1 a1 cW ds1 X1 S1 e1
  |goto i=>exact hk (.goto i) m1 D1 h1 w1 a1 cW ds1 X1 S1 e1
  |ret=>exact hk .ret m1 D1 h1 w1 a1 cW ds1 X1 S1 e1
theorem qY4 {f n N:Nat} {rd:Option Nat} {x:Code} (hx:kb P N c f n rd x):kb P N c f n rd (.loop x):=by
 intro rc nn Q r pos pl tm h ds k m D w a S dJ e hk;simp only[wS]at e;have sg:=Yc (q:=[0]) dJ (s:=x) (by simp[xM]);cases hL:Ar pl with
 |none=>grind
 |some L=>
  simp only[hL,yq]at e;obtain⟨cX,e⟩:=e;refine wpIn_loop_rounds N ?_;have key:∀(j:Nat) (s:tP L) (h1:AH) (ds1:List Nat) (m1:Mp) (D1:Nat→Prop) (w1:World) (a1:Act),Ext m D h w m1 D1 h1 w1→St P m1 D1 h1 w1 n ds1 a1 (ky L s .e) rd rc→
    Gc (σ:=tP L) j (λih s h ds=>wS P N c f n rd x (pos++[0]) (oz pl) (ky L s .e) h ds λx tm' h ds=>match x with
     | .normal=>da (yw tm' L) (ih (wh L tm') h ds) none |x=>k x tm' h ds) s h1 ds1=some r→
    Code.roundsIn (FW rc) nn P x Q j a1 w1:=by
   intro j
   induction j with
   |zero=>nofun
   |succ j ih=>
    intro s h1 ds1 m1 D1 w1 a1 X1 S1 e1;rw[roundsIn_succ];refine hx rc nn _ r (pos++[0]) (oz pl) _ h1 ds1 _ m1 D1 w1 a1 S1 sg e1 ?_;intro z m2 D2 h2 w2 a2 BD AF X2 S2 e2;cases z with
    |normal=>simp only[yq]at e2;obtain⟨EA,e2⟩:=e2;exact ih _ h2 AF m2 D2 w2 a2 (X1.trans X2) (S2.join EA) e2
    |exit i=>exact hk (.exit i) m2 D2 h2 w2 a2 BD AF (X1.trans X2) S2 e2
    |goto i=>exact hk (.goto i) m2 D2 h2 w2 a2 BD AF (X1.trans X2) S2 e2
    |ret=>exact hk .ret m2 D2 h2 w2 a2 BD AF (X1.trans X2) S2 e2
  exact key N _ h ds m D w a (Ext.refl ..) (S.join cX) e
end Go.Ae
namespace Go.Ae
open Go
variable {P:Program} {c:CV}
theorem jJE {F:Fence} {n:Nat} {Q:Exit→Act→World→Prop} {a:Act} {w:World} (x:AX) (h:Q (Ey x) a w):(kG x).wpIn F n P Q a w:=by
 cases x with
 |normal=>exact wpIn_skip h
 |exit i=>exact wpIn_exit h
 |goto l=>exact wpIn_goto h
 |ret=>exact wpIn_ret h
theorem jVS {x y:AX} (h:CS x y=true):x=y:=by
 cases x<;>cases y<;>simp only[CS,Bool.false_eq_true]at h ⊢ <;>exact congrArg _ (zC h)
theorem qGm {y:AX} {k:AX→R} {r:AV×AH}:∀{l:List AX},MZ (some y) k l=some r→k y=some r:=by
 intro l
 induction l with
 |nil=>simp
 |cons x l ih=>
  intro e;simp only[MZ,Bp]at e;grind[CS,jVS]
theorem qVN (L:List Nat) (tm:PT AV):(kL L tm).length=L.length:=by
 induction L with
 |nil=>rfl
 |cons t L ih=>grind[kL]
theorem qjM {m:Mp} {D:Nat→Prop} {n:Nat} {a:Act} {tm:PT AV} (T:eU m D n a tm):∀{L:List Nat},yw tm L=true→bm D (kL L tm)∧∀p∈L.zip (kL L tm),a.tmps[p.1]? =some (cv m p.2):=by
 intro L
 induction L with
 |nil=>intro _;exact⟨trivial,λp hp=>by cases hp⟩
 |cons t L ih=>
  intro h;simp only[yw,Bool.and_eq_true]at h;obtain⟨h1,h2⟩:=ih h.2;have h0:=h.1;unfold has at h0
  split at h0
  ·rename_i v hv;obtain⟨g1,g2⟩:=T.at_ t v hv;simp only[kL,hv,bm,List.zip_cons_cons,List.mem_cons];grind
  grind
theorem NI (hc:vJ P c) {f n nn:Nat} {rd rc:Option Nat} {g:Operand} {ps:Array Tmp} {assign body:Code} {Q:Exit→Act→World→Prop} {r:AV×AH} {pos:List Nat}
  {tm:PT AV} {h:AH} {ds:List Nat} {k:AX→PT AV→AH→List Nat→R} {m:Mp} {D:Nat→Prop} {w:World} {a:Act} (S:St P m D h w n ds a tm rd rc)
  (dJ:∃fn bd,P.funcs[f]? =some fn∧fn.body=some bd∧fn.ntmps=n∧xM bd pos=some (.rangeFunc g ps assign body))
  {vf:AV} (AB:ev tm g=some vf) {L:List Nat} (cX:yw tm L=true)
  (hk:∀x m' D' h' w' a' tm' Ez,Ext m D h w m' D' h' w'→St P m' D' h' w' n Ez a' tm' rd rc→k x tm' h' Ez=some r→Q (Ey x) a' w')
  {d:Nat} {h1:AH} {ds1:List Nat} {m1:Mp} {D1:Nat→Prop} {w1:World} {mark:List Deferred}
  (X1:Ext m D h w m1 D1 h1 w1) (R1:Rel P m1 D1 h1 w1) (hd:D1 d) (rH:pX m1 D1 ds1 (mark++a.defers))
  (hel:∀fn,(Instr.enterLoop fn a.tmps ps assign body rc).run P w=.ok (w1.heap.size,mark) (w1.alloc (.loop { state:=.ready,pending:=none,fn,tmps:=a.tmps,params:=ps,assign,body,defers:=(m1 d).1 })))
  (e:X5 c vf [.yield h1.nx] (h1.new (.loop .ready none f pos L (kL L tm) d)) (λ_ h2=>
    gE h2 h1.nx λp h3=>Yv p (k .normal tm h3 ds1) (MZ p (λx=>k x tm h3 ds1) (YL body [])))=some r) :
  (Code.rangeFunc g ps assign body).wpIn (FW rc) nn P Q a w:=by
 refine wpIn_rangeFunc ?_;intro fn _;obtain⟨fnn,bd,hf1,IJ,hf3,hf4⟩:=dJ;have T1:=S.tm.mono X1;obtain⟨l1,l2⟩:=qjM T1 cX;obtain⟨o,ho⟩:∃o,o=Obj.loop { state:=.ready,pending:=none,fn,tmps:=a.tmps,params:=ps,assign,body,defers:=(m1 d).1 }:=⟨_,rfl⟩;have sy:dE P m1 (.loop .ready none f pos L (kL L tm) d) (w1.heap.size,0) (w1.alloc o):=by
  refine⟨fn,a.tmps,ps,g,assign,body,fnn,bd,?_,hf1,IJ,hf4,?_,(qVN L tm).symm,l2⟩
  ·grind[World.alloc_heap_new]
  ·rw[hf3];exact S.tm.size
 obtain⟨m2,D2,X2,R2,hm2,PQ⟩:∃(m2:Mp) (D2:Nat→Prop),Ext m1 D1 h1 w1 m2 D2 (h1.new (.loop .ready none f pos L (kL L tm) d)) (w1.alloc o)∧
   Rel P m2 D2 (h1.new (.loop .ready none f pos L (kL L tm) d)) (w1.alloc o)∧(m2 h1.nx).1=w1.heap.size∧D2 h1.nx:=by
  have hn:=R1.new (w0:=w1.alloc o) (.loop .ready none f pos L (kL L tm) d) o 0 rfl rfl rfl rfl ⟨l1,hd⟩ sy;grind
 generalize h1.new (.loop .ready none f pos L (kL L tm) d)=hh at*;unfold X5 at e
 split at e
 rotate_left
 ·grind
 rename_i f0 first cap
 rw[JO]at e
 split at e
 rotate_left
 ·grind
 rename_i q hq;have T2:=T1.mono X2;obtain⟨v1,v2⟩:=T2.ev _ _ AB;have dX:=hc _ _ _ q hq m2 D2 (w1.alloc o) R2 v2 ⟨PQ,trivial⟩;obtain⟨k1,k2⟩:=dX;simp only[cv]at v1;have hy:bj m2 [.yield h1.nx]=[.func (.yield w1.heap.size) #[] #[]]:=by grind[bj,cv]
 refine⟨w1.heap.size,mark,w1.alloc o,{ target:=.fn (.func f0) (bj m2 cap).toArray,args:=(bj m2 first).toArray++ #[.func (.yield w1.heap.size) #[] #[]] },w1.alloc o,f0,
  (bj m2 (first++[.yield h1.nx]++cap)).toArray,w1.alloc o,?_,?_,λ_ _=>trivial,?_,(λhh=>by cases hh),?_⟩
 ·rw[ho];exact hel fn
 ·unfold resolve rangeCall;simp only[v1];simp[Act.eval,go_sem]
 ·show(callFunc f0 ((bj m2 first).toArray++ #[.func (.yield w1.heap.size) #[] #[]]++(bj m2 cap).toArray)).run P _=_;grind[GQ]
 ·refine CallsIn.mono (show CallsIn (FW rc) (nn-1) P f0 _ _ _ from k2 (nn-1)) ?_;rintro ee w3 ⟨m3,D3,rfl,X3,R3,hd3⟩
  replace e:gE q.2 h1.nx (λp h3=>Yv p (k .normal tm h3 ds1) (MZ p (λx=>k x tm h3 ds1) (YL body [])))=some r:=e
  unfold gE at e
  split at e
  rotate_left
  ·grind
  rename_i st cx f' pos' L' EB d' dw;have nf:D3 h1.nx:=X3.r9 _ PQ;obtain⟨x3,hx3,hr3,hi3⟩:=R3.bG _ nf;rw[dw]at hx3;cases hx3;obtain⟨fq,tq,pq,gq,aq,bq,fnq,bdq,nE,q1,q2,q3,q4,q5,q6⟩:=hr3;have AG:(m3 h1.nx).1=w1.heap.size:=by rw[X3.map _ PQ];grind
  rw[AG]at nE;have cd:st≠.busy:=by grind
  have e':Yv cx (k .normal tm (q.2.put h1.nx (.loop .exhausted cx f' pos' L' EB d')) ds1) (MZ cx (λx=>k x tm (q.2.put h1.nx (.loop .exhausted cx f' pos' L' EB d')) ds1) (YL body []))=some r:=by
   grind
  clear e;have bP:=(Array.getElem?_eq_some_iff.1 nE).1;obtain⟨X4,R4⟩:=R3.put (w0:=w3.putObj w1.heap.size (.loop { state:=.exhausted,pending:=cx.map kG,fn:=fq,tmps:=tq,params:=pq,assign:=aq,body:=bq,defers:=(m3 d').1 })) h1.nx (.loop .exhausted cx f' pos' L' EB d') nf
   ⟨_,dw,trivial⟩ aW (λcc dS=>World.putObj_heap_other (by grind)) rfl rfl rfl hi3
   ⟨fq,tq,pq,gq,aq,bq,fnq,bdq,by grind[World.putObj_heap_same],q1,q2,q3,q4,q5,q6⟩
  refine⟨cx.map kG,_,run_endLoop nE cd,?_⟩;have XX:=((X1.trans X2).trans X3).trans X4;have SS:St P m3 D3 (q.2.put h1.nx (.loop .exhausted cx f' pos' L' EB d')) (w3.putObj w1.heap.size (.loop { state:=.exhausted,pending:=cx.map kG,fn:=fq,tmps:=tq,params:=pq,assign:=aq,body:=bq,defers:=(m3 d').1 })) n ds1
    { a with defers:=mark++a.defers } tm rd rc:=⟨R4,⟨(T2.mono (X3.trans X4)).size,(T2.mono (X3.trans X4)).at_⟩,((rH.mono X2).mono X3).mono X4,S.rd.mono XX⟩
  cases cx with
  |none=>exact hk .normal _ _ _ _ _ _ _ XX SS e'
  |some y=>exact jJE y (hk y _ _ _ _ _ _ _ XX SS (qGm e'))
theorem qGB (hc:vJ P c) {f n N:Nat} {rd:Option Nat} {g:Operand} {ps:Array Tmp} {assign body:Code}:kb P N c f n rd (.rangeFunc g ps assign body):=by
 intro rc nn Q r pos pl tm h ds k m D w a S dJ e hk;simp only[wS,qC]at e;obtain⟨vf,AB,e⟩:=e;cases hL:Ar pl with
 |none=>grind
 |some L=>
  simp only[hL,yq]at e;obtain⟨cX,e⟩:=e;cases rd with
  |none=>
   have IK:=S.rd;simp only[sx]at IK;subst IK;have hn:=S.rel.new (w0:=w.alloc (.deferred (some []))) .lT (.deferred (some [])) 0 rfl rfl rfl rfl trivial (World.alloc_heap_new _ _);obtain⟨X,R⟩:=hn;refine NI hc S dJ AB cX hk X R (d:=h.nx) (.inl rfl) (ds1:=h.nx::ds) (mark:=[VJ w.heap.size]) ?_ ?_ e
   ·have:=S.df.mono X;refine⟨λb hb=>?_,?_⟩
    ·rcases List.mem_cons.1 hb with rfl |hb
     ·simp
     ·exact this.1 b hb
    ·rw[this.2];simp
   simp[VJ,run_enterLoop_outer]
  |some l0=>
   obtain⟨l5,IK⟩:=S.rd;subst IK;unfold NO at e;simp only at e
   split at e
   rotate_left
   ·grind
   rename_i st cx f' pos' L' EB d dw;obtain⟨x,hx,nA,rK⟩:=S.rel.bG _ l5;rw[dw]at hx;cases hx;obtain⟨fq,tq,pq,gq,aq,bq,fnq,bdq,nE,_⟩:=nA;refine NI hc S dJ AB cX hk (Ext.refl ..) S.rel (d:=d) rK.2 (ds1:=ds) (mark:=[]) S.df ?_ e;simp_all[run_enterLoop_inner]
theorem PR (hc:vJ P c) (hd:NH P c) (N f n:Nat) (rd:Option Nat) (code:Code):kb P N c f n rd code:=by
 induction code with
 |skip=>intro rc nn Q r pos pl tm h ds k m D w a S _ e hk;exact wpIn_skip (hk .normal m D h w a tm ds (Ext.refl ..) S e)
 |region id ops d=>grind[qKA]
 |seq x y hx hy=>grind[qwL]
 |cond o x y hx hy=>grind[qql]
 |block id x hx=>grind[qKr]
 |loop x hx=>grind[qY4]
 |exit id=>intro rc nn Q r pos pl tm h ds k m D w a S _ e hk;exact wpIn_exit (hk (.exit id) m D h w a tm ds (Ext.refl ..) S e)
 |label l=>intro rc nn Q r pos pl tm h ds k m D w a S _ e hk;exact wpIn_label (hk .normal m D h w a tm ds (Ext.refl ..) S e)
 |goto l=>intro rc nn Q r pos pl tm h ds k m D w a S _ e hk;exact wpIn_goto (hk (.goto l) m D h w a tm ds (Ext.refl ..) S e)
 |ret=>intro rc nn Q r pos pl tm h ds k m D w a S _ e hk;exact wpIn_ret (hk .ret m D h w a tm ds (Ext.refl ..) S e)
 |rangeFunc g ps x y hx hy=>grind[qGB]
 |_=>intro rc nn Q r pos pl tm h ds k m D w a S _ e hk;grind
end Go.Ae
namespace Go.Ae
open Go
variable {P:Program} {c:CV} {m:Mp} {D:Nat→Prop} {h h':AH} {w:World}
def Yd (tmps:Array Value):ResultVar→Sem Value
 | .tmp t=>pure (tmps.getD t undef)
 | .cell a t=>do loadVar t (← asAddr (tmps.getD a undef))
theorem qYt (RR:Rel P m D h w) {t:TypeId} {v:AV} (hd:bD D v) (hi:QK P t=some none) {k:AV→R} {r:AV×AH} (e:ji h v k=some r) :
  ∃z,k z=some r∧bD D z∧(do loadVar t (← asAddr (cv m v)):Sem Value).run P w=.ok (cv m z) w:=by
 rcases kh hi with⟨_,nb⟩ |⟨n,hn,_,_⟩
 rotate_left
 ·grind
 simp only[gS]at e
 split at e
 ·rename_i b off
  split at e
  ·rename_i cs t' op' hg;simp only[qC]at e;obtain⟨z,hz,e⟩:=e;obtain⟨z1,z2⟩:=RR.Ay hd hg hz;refine⟨z,e,z2,?_⟩;simp only[cv];rw[qq (show(asAddr (.pointer (some ⟨(m b).1,off,none⟩))).run P w=.ok ⟨(m b).1,off,none⟩ w from rfl)];simp_all[loadVar,wb]
  ·rename_i ti hg;simp only[qC]at e;obtain⟨z,hz,e⟩:=e;obtain⟨z1,z2⟩:=RR.se hd hg hz;refine⟨z,e,z2,?_⟩;simp only[cv];rw[qq (show(asAddr (.pointer (some ⟨(m b).1,off,none⟩))).run P w=.ok ⟨(m b).1,off,none⟩ w from rfl)];simp_all[loadVar,wb]
  grind
 grind
theorem qqi (RR:Rel P m D h w) {t:TypeId} {v:AV} {n:Nat} (hd:bD D v) (hi:QK P t=some (some n)) {k:AV→R} {r:AV×AH} (e:zp h v n k=some r) :
  ∃z,k z=some r∧bD D z∧(do loadVar t (← asAddr (cv m v)):Sem Value).run P w=.ok (cv m z) w:=by
 rcases kh hi with⟨hn,_⟩ |⟨n',hn,nb,bP⟩
 ·grind
 cases hn;simp only[kU]at e
 split at e
 ·rename_i b off;simp only[qC]at e;obtain⟨z,hz,e⟩:=e;obtain⟨z1,z2,z3⟩:=RR.read hd hz;refine⟨.agg z,e,z2,?_⟩;simp only[cv];rw[qq (show(asAddr (.pointer (some ⟨(m b).1,off,none⟩))).run P w=.ok ⟨(m b).1,off,none⟩ w from rfl)];simp_all[loadVar,wb,run_sizeOf]
 grind
theorem jKh (RR:Rel P m D h w) {n:Nat} {a:Act} {tm:PT AV} (T:eU m D n a tm) {r:AV×AH}:∀(l:List ResultVar) (k:List AV→R),ME P tm h l k=some r→
  ∃vs,k vs=some r∧bm D vs∧(l.mapM (Yd a.tmps)).run P w=.ok (bj m vs) w:=by
 intro l
 induction l with
 |nil=>intro k e;exact⟨[],e,trivial,by rfl⟩
 |cons x l ih=>
  intro k e;cases x with
  |tmp t=>
   simp only[ME,qC]at e;obtain⟨v,hv,e⟩:=e;obtain⟨vs,e1,e2,e3⟩:=ih _ e;obtain⟨h1,h2⟩:=T.at_ t v hv;refine⟨v::vs,e1,⟨h2,e2⟩,?_⟩;rw[List.mapM_cons];have:(Yd a.tmps (.tmp t)).run P w=.ok (cv m v) w:=by simp_all[Yd,Array.getD_eq_getD_getElem?,Option.getD_some]
   rw[qq this,qq e3];rfl
  |cell x t=>
   simp only[ME,qC]at e;obtain⟨v,hv,i,hi,e⟩:=e;obtain⟨h1,h2⟩:=T.at_ x v hv;have key:∃z,ME P tm h l (λl=>k (z::l))=some r∧bD D z∧(Yd a.tmps (.cell x t)).run P w=.ok (cv m z) w:=by
    simp only[Yd,Array.getD_eq_getD_getElem?,h1,Option.getD_some];grind[qYt,qqi]
   obtain⟨z,e,z1,z2⟩:=key;obtain⟨vs,e1,e2,e3⟩:=ih _ e;refine⟨z::vs,e1,⟨z1,e2⟩,?_⟩;rw[List.mapM_cons,qq z2,qq e3];rfl
theorem jV1 (m:Mp) (l:List AV):(if h:(bj m l).toArray.size=1 then(bj m l).toArray[0]else .tuple (bj m l).toArray)=cv m (lY l):=by
 match l with
 |[]=>rfl
 |[v]=>rfl
 |v::u::l=>rfl
theorem qVr (RR:Rel P m D h w) {fn:Func} {n:Nat} {a:Act} {tm:PT AV} (T:eU m D n a tm) {r:AV×AH} (e:ME P tm h fn.results.toList (λl=>some (lY l,h))=some r) :
  ∃v,r=(v,h)∧bD D v∧(results fn a.tmps).run P w=.ok (cv m v) w:=by
 obtain⟨vs,e1,e2,e3⟩:=jKh RR T _ _ e;simp only[Option.some.injEq]at e1;refine⟨lY vs,e1.symm,?_,?_⟩
 ·unfold lY
  split
  ·exact e2.1
  trivial
 ·have hm:(fn.results.mapM (Yd a.tmps)).run P w=.ok (bj m vs).toArray w:=by
   simp_all[Array.mapM_eq_mapM_toList]
  show((fn.results.mapM (Yd a.tmps))>>=λvs=>pure (if h:vs.size=1 then vs[0]else .tuple vs)).run P w=_;rw[qq hm];show Result.ok _ w=_;rw[jV1]
end Go.Ae
namespace Go.Ae
open Go
variable {P:Program} {c:CV} {m:Mp} {D:Nat→Prop} {h h':AH} {w:World}
theorem qXC {fn:Func} {a:Act} {tm:PT AV} {m0:Mp} {D0:Nat→Prop} {h0:AH} {w0:World} {r:AV×AH} {nn n:Nat} :
  ∀(ds:List Nat) (l:List Deferred) (m:Mp) (D:Nat→Prop) (h:AH) (w:World),Rel P m D h w→Ext m0 D0 h0 w0 m D h w→eU m D n a tm→pX m D ds l→
   xB ds h (λh'=>ME P tm h' fn.results.toList λl=>some (lY l,h'))=some r→
   LeavesInM Fence.wide nn P fn a.tmps (Jq P m0 D0 h0 w0 r) l .returning w:=by
 intro ds
 induction ds with
 |nil=>
  intro l m D h w RR X T df e;have:l=[]:=by rw[df.2];rfl
  subst this;obtain⟨v,rfl,v1,v2⟩:=qVr RR T e;exact⟨cv m v,v2,m,D,rfl,X,RR,v1⟩
 |cons d ds ih=>
  intro l m D h w RR X T df e;have hl:l=VJ (m d).1::ds.map (λd=>VJ (m d).1):=df.2;subst hl;have hd:=df.1 d (iK ..);simp only[xB]at e
  split at e
  rotate_left
  ·grind
  rename_i hg;obtain⟨x,hx,nA,rK⟩:=RR.bG d hd;rw[hg]at hx;cases hx;have hb:w.heap[(m d).1]? =some (.deferred (some [])):=nA;have bP:=(Array.getElem?_eq_some_iff.1 hb).1;obtain⟨X2,R2⟩:=RR.put (w0:=w.putObj (m d).1 (.deferred none)) d .pP hd ⟨_,hg,trivial⟩ aW (λc hc=>World.putObj_heap_other hc) rfl rfl rfl trivial
   ⟨_,World.putObj_heap_same bP⟩
  refine⟨by simp,.inl ⟨(m d).1,_,rfl,run_takeDeferred hb,?_⟩⟩;exact ih _ m D _ _ R2 (X.trans X2) (T.mono X2) ⟨λb hb=>df.1 b (iX _ hb),rfl⟩ e
theorem qxS:∀(l:List AV) (i:Nat) (t:PT AV) (j:Nat),(CW l i t).get j=if i≤j∧j<i+l.length then l[j-i]? else t.get j:=by
 intro l
 induction l with
 |nil=>simp[CW,List.length_nil,iQ,omQ]
 |cons a l ih=>
  intro i t j;simp only[CW,ih,List.length_cons];by_cases h1:i+1≤j∧j<i+1+l.length
  ·grind
  ·rw[iQ h1,PT.bZ];grind
theorem qyD (hc:vJ P c) (hd:NH P c) {N:Nat} {pl:Pl} {f:FuncId} {args:List AV} {r:AV×AH} (e:xu P N pl c f args h=some r) (RR:Rel P m D h w) (ha:bm D args) (nn:Nat) :
  CallsIn Fence.wide nn P f (bj m args).toArray w (Jq P m D h w r):=by
 simp only[xu,qC]at e;obtain⟨fn,hf,b,hb,e⟩:=e;refine callsIn_of_wp_marks hf hb trivial ?_;have T:eU m D fn.ntmps { tmps:=(bj m args).toArray++Array.replicate (fn.ntmps-(bj m args).toArray.size) undef,defers:=[] } (CW args 0 .e):=by
  refine⟨by grind,?_⟩;intro t v hv;rw[qxS]at hv
  split at hv
  ·rename_i ht;simp only[Nat.sub_zero]at hv;have hm:=List.mem_of_getElem? hv;simp_all[yY,Array.getElem?_append_left,xg]
  trivial
 refine PR hc hd N f fn.ntmps none b none nn _ r [] pl _ h [] _ m D w _ ⟨RR,T,⟨λb hb=>(by grind),rfl⟩,rfl⟩ ⟨fn,b,hf,hb,rfl,by simp[xM]⟩ e ?_;intro x m1 D1 h1 w1 a1 cW ds1 X1 S1 e1;cases x with
 |normal=>exact qXC ds1 _ m1 D1 h1 w1 S1.rel X1 S1.tm S1.df e1
 |ret=>exact qXC ds1 _ m1 D1 h1 w1 S1.rel X1 S1.tm S1.df e1
 |exit i=>grind
 |goto l=>grind
theorem jQt {m:Mp} {D:Nat→Prop} {n:Nat} {a:Act} {k:PT AV→R} {r:AV×AH}:∀(L:List Nat) (vs:List AV) (t:PT AV),eU m D n a t→(∀p∈L.zip vs,a.tmps[p.1]? =some (cv m p.2))→bm D vs→
  uj L vs t k=some r→∃t',k t'=some r∧eU m D n a t':=by
 intro L
 induction L with
 |nil=>
  intro vs t T hz hd e;cases vs with
  |nil=>grind
  |cons v vs=>grind
 |cons x L ih=>
  intro vs t T hz hd e;cases vs with
  |nil=>grind
  |cons v vs=>
   simp only[uj]at e;refine ih vs _ ?_ (λp hp=>hz p (iX _ hp)) hd.2 e;refine⟨T.size,?_⟩;intro s u hs;rw[PT.bZ]at hs;by_cases hx:x=s
   ·subst hx;rw[iJ rfl]at hs;cases hs;exact⟨hz (x,v) (iK ..),hd.1⟩
   ·rw[iQ hx]at hs;exact T.at_ s u hs
theorem qgF {m:Mp} {D:Nat→Prop} {n:Nat} {k:PT AV→R} {r:AV×AH}:∀(ps:List Tmp) (vs:List AV) (t:PT AV) (tmps:Array Value),eU m D n { tmps,defers:=[] } t→bm D vs→
  Iy ps vs n t k=some r→ps.length=vs.length∧∃t',k t'=some r∧eU m D n { tmps:=(ps.zip (bj m vs)).foldl (λtmps (p:Tmp×Value)=>tmps.setIfInBounds p.1 p.2) tmps,defers:=[] } t':=by
 intro ps
 induction ps with
 |nil=>
  intro vs t tmps T hd e;cases vs with
  |nil=>exact⟨rfl,t,e,T⟩
  |cons v vs=>grind
 |cons p ps ih=>
  intro vs t tmps T hd e;cases vs with
  |nil=>grind
  |cons v vs=>
   simp only[Iy,yq]at e;obtain⟨hp,e⟩:=e;have hp:=zE hp;have T':eU m D n { tmps:=tmps.setIfInBounds p (cv m v),defers:=[] } (t.set p v):=by
    refine⟨by simpa using T.size,?_⟩;intro s u hs;rw[PT.bZ]at hs;by_cases hx:p=s
    ·subst hx;rw[iJ rfl]at hs;cases hs;have:=T.size;simp only[]at this;refine⟨?_,hd.1⟩;grind
    ·rw[iQ hx]at hs;obtain⟨h1,h2⟩:=T.at_ s u hs;grind
   obtain⟨h1,t',h2,h3⟩:=ih vs _ _ T' hd.2 e;exact⟨by grind,t',h2,h3⟩
end Go.Ae
namespace Go.Ae
open Go
variable {P:Program} {c:CV} {m:Mp} {D:Nat→Prop} {h h':AH} {w:World}
theorem IL {m0:Mp} {D0:Nat→Prop} {h0:AH} {w0:World} {r:AV×AH} {l:Nat} {lc:Nat} {rd rc:Option Nat} {n:Nat} {ds:List Nat} {a:Act} {tm:PT AV} {j:Option AX}
  (S:St P m D h w n ds a tm rd rc) (X:Ext m0 D0 h0 w0 m D h w) (hl:D l) (PS:(m l).1=lc) (e:yx h l j=some r) :
  ∃v w',(Instr.endRound lc (j.map kG)).run P w=.ok v w'∧Jq P m0 D0 h0 w0 r (.returned v) w':=by
 subst PS;unfold yx at e
 split at e
 rotate_left
 ·grind
 rename_i st cx f p L vs d hg;obtain⟨x,hx,nA,rK⟩:=S.rel.bG l hl;rw[hg]at hx;cases hx;obtain⟨f',tmps,ps,g,assign,body,fn,bd,q1,q2,q3,q4,q5,q6,q7⟩:=nA;have bP:=(Array.getElem?_eq_some_iff.1 q1).1;have he:=run_endRound (P:=P) (j.map kG) q1;refine⟨_,_,he,?_⟩;cases j with
 |none=>
  simp only[Option.some.injEq]at e;obtain⟨X2,R2⟩:=S.rel.put (w0:=w.putObj (m l).1 (.loop { state:=.ready,pending:=none,fn:=f',tmps:=tmps,params:=ps,assign:=assign,body:=body,defers:=(m d).1 })) l
   (.loop .ready none f p L vs d) hl ⟨_,hg,trivial⟩ aW (λc hc=>World.putObj_heap_other hc) rfl rfl rfl rK
   ⟨f',tmps,ps,g,assign,body,fn,bd,World.putObj_heap_same bP,q2,q3,q4,q5,q6,q7⟩
  subst e;exact⟨m,D,rfl,X.trans X2,R2,trivial⟩
 |some y=>
  simp only[Option.some.injEq]at e;obtain⟨X2,R2⟩:=S.rel.put (w0:=w.putObj (m l).1 (.loop { state:=.done,pending:=some (kG y),fn:=f',tmps:=tmps,params:=ps,assign:=assign,body:=body,defers:=(m d).1 })) l
   (.loop .done (some y) f p L vs d) hl ⟨_,hg,trivial⟩ aW (λc hc=>World.putObj_heap_other hc) rfl rfl rfl rK
   ⟨f',tmps,ps,g,assign,body,fn,bd,World.putObj_heap_same bP,q2,q3,q4,q5,q6,q7⟩
  subst e;exact⟨m,D,rfl,X.trans X2,R2,trivial⟩
theorem qkU (hc:vJ P c) (hd:NH P c) {N:Nat} {pl:Pl} {f:FuncId} {pos L:List Nat} {l:Nat} {vs args:List AV} {r:AV×AH} {st:LoopState} {cx:Option AX} {d:Nat}
  (hg:h.get l=some (.loop st cx f pos L vs d)) (e:Nu P N pl c f pos L l vs args h=some r) (RR:Rel P m D h w) (hl:D l) (ha:bm D args):IH P m D h w args r (.yield l):=by
 obtain⟨x,hx,nA,rK⟩:=RR.bG l hl;rw[hg]at hx;cases hx;obtain⟨f',tmps,ps,g,assign,body,fn,bd,q1,q2,q3,q4,q5,q6,q7⟩:=nA;simp only[Nu,qC]at e;obtain⟨IN,IP,PU,bV,s,hs,e⟩:=e;rw[q2]at IP;cases IP;rw[q3]at bV;cases bV;rw[q4]at hs;cases hs;simp only[]at e;have T0:eU m D fn.ntmps { tmps:=tmps,defers:=[] } .e:=⟨q5,λt v hv=>by trivial⟩;obtain⟨Pj,e,T1⟩:=jQt L vs .e T0 q7 rK.1 e;obtain⟨hlen,cW,e,T2⟩:=qgF ps.toList args Pj tmps T1 ha e;have bP:(bj m args).toArray.size=ps.size:=by simp_all
 have hy:=run_yield (P:=P) (args:=(bj m args).toArray) q1 bP;refine⟨f',_,assign,body,hy,?_⟩;intro nn;have EC:(ps.zip (bj m args).toArray).foldl (λtmps (x:Tmp×Value)=>tmps.setIfInBounds x.1 x.2) tmps=(ps.toList.zip (bj m args)).foldl (λtmps (x:Tmp×Value)=>tmps.setIfInBounds x.1 x.2) tmps:=by rw[← Array.foldl_toList,Array.toList_zip]
 refine roundIn_of_wpIn trivial ?_;simp only[];have BE:(ps.zip (bj m args).toArray).foldl (λtmps (x:Tmp×Value)=>match x with |(t,a)=>tmps.setIfInBounds t a) tmps=(ps.toList.zip (bj m args)).foldl (λtmps (x:Tmp×Value)=>tmps.setIfInBounds x.1 x.2) tmps:=EC;rw[BE];have dJ:∃IN PU,P.funcs[f]? =some IN∧IN.body=some PU∧IN.ntmps=fn.ntmps∧xM PU pos=some (.rangeFunc g ps assign body):=⟨fn,bd,q2,q3,rfl,q4⟩;have PV:=Yc (q:=[0]) dJ (s:=assign) (by simp[xM]);have PX:=Yc (q:=[1]) dJ (s:=body) (by simp only[xM];rfl);refine PR hc hd N f fn.ntmps (some l) assign (some (m l).1) nn _ r (pos++[0]) (oz pl) _ h [] _ m D w _ ⟨RR,T2,⟨λb hb=>(by grind),rfl⟩,⟨hl,rfl⟩⟩ PV e ?_;intro x m1 D1 h1 w1 a1 cW ds1 X1 S1 e1;cases x with
 |exit i=>grind
 |goto i=>grind
 |ret=>grind
 |normal=>
  simp only[]at e1;unfold Xh at e1
  split at e1
  rotate_left
  ·grind
  rename_i AI f1 PY L1 vs1 d1 ux;have oa:=X1.r9 l hl;have sA:(m1 l).1=(m l).1:=by rw[X1.map l hl]
  obtain⟨x,hx,nA,PZ⟩:=S1.rel.bG l oa;rw[ux]at hx;cases hx;obtain⟨f2,AJ,ps2,g2,pt,AK,fn2,bd2,p1,p2,p3,p4,p5,p6,p7⟩:=nA;rw[sA]at p1;have P0:=(Array.getElem?_eq_some_iff.1 p1).1;refine⟨_,run_beginRound p1 rfl,?_⟩;obtain⟨X2,R2⟩:=S1.rel.put (w0:=w1.putObj (m l).1 (.loop { state:=.busy,pending:=AI.map kG,fn:=f2,tmps:=AJ,params:=ps2,assign:=pt,body:=AK,defers:=(m1 d1).1 })) l
   (.loop .busy AI f1 PY L1 vs1 d1) oa ⟨_,ux,trivial⟩ aW (λc hc=>World.putObj_heap_other (by grind)) rfl rfl rfl PZ
   ⟨f2,AJ,ps2,g2,pt,AK,fn2,bd2,by grind[World.putObj_heap_same],p2,p3,p4,p5,p6,p7⟩
  refine PR hc hd N f fn.ntmps (some l) body (some (m l).1) nn _ r (pos++[1]) (Aq pl) _ _ ds1 _ m1 D1 _ _ ⟨R2,S1.tm.mono X2,S1.df.mono X2,S1.rd.mono X2⟩ PX e1 ?_;intro y m3 D3 h3 w3 a3 tm3 ds3 X3 S3 e3;have XX:=(X1.trans X2).trans X3;have IQ:=XX.r9 l hl;have AG:(m3 l).1=(m l).1:=by rw[XX.map l hl]
  cases y with
  |normal=>exact IL S3 XX IQ AG e3
  |exit i=>exact IL (j:=some (.exit i)) S3 XX IQ AG e3
  |goto i=>exact IL (j:=some (.goto i)) S3 XX IQ AG e3
  |ret=>exact IL (j:=some .ret) S3 XX IQ AG e3
def pY (P:Program) (f:Nat) (w:WF):Prop:=∀c l h r,w c l h=some r→∀m D W,Rel P m D h W→bm D l→∀n,CallsIn Fence.wide n P f (bj m l).toArray W (Jq P m D h W r)
def WX (P:Program) (f:Nat) (w:WF):Prop:=iC P f w∨pY P f w
structure TabOk (P:Program) (tab:BT) (rt:List RT):Prop where
  w:∀f g,tab.get f=some g→WX P f g
  enter:∀f g,tab.get f=some g→∀(as:Array Value) (W:World),(callFunc f as).run P W=.ok (.enter f as) W
  r:∀p∈rt,DW P p.f p.pos p.L p.run
theorem qZs:∀{a b:List Nat},KI a b=true→a=b:=by
 intro a
 induction a with
 |nil=>intro b h;cases b<;>first |rfl |cases h
 |cons x a ih=>
  intro b h;cases b with
  |nil=>cases h
  |cons y b=>simp only[KI,Bool.and_eq_true]at h;grind[zC]
theorem qZ9:∀{rt:List RT} {f:Nat} {pos L:List Nat} {g:VF},KQ rt f pos L=some g→∃p∈rt,p.f=f∧p.pos=pos∧p.L=L∧p.run=g:=by
 intro rt
 induction rt with
 |nil=>nofun
 |cons x rt ih=>
  intro f pos L g h;simp only[KQ]at h;cases hb:Nat.beq x.f f&&(KI x.pos pos&&KI x.L L)
  ·grind
  ·rw[hb]at h;simp only[Bool.and_eq_true]at hb;simp only[cond_true,Option.some.injEq]at h;exact⟨x,iK ..,zC hb.1,qZs hb.2.1,qZs hb.2.2,h⟩
theorem WX.call {f:Nat} {g:WF} {args:List AV} {r:AV×AH} (x:WX P f g) (hc:vJ P c) (hd:NH P c) (e:g c args h=some r) (RR:Rel P m D h w) (ha:bm D args) (n:Nat):CallsIn Fence.wide n P f (bj m args).toArray w (Jq P m D h w r):=by
 rcases x with x |x
 ·obtain⟨pl,e⟩:=x _ _ _ _ e;exact qyD hc hd e RR ha n
 ·exact x _ _ _ _ e m D w RR ha n
theorem qxI {tab:BT} {rt:List RT} (ht:TabOk P tab rt) (hd:∀c,vJ P c→NH P c):∀k,vJ P (callT tab rt k):=by
 intro k
 induction k with
 |zero=>nofun
 |succ k ih=>
  intro vf args h r e m D w RR hv ha;cases vf with
  |fn f first cap=>
   have e:Option.rec (motive:=λ_=>R) none (λg=>g (callT tab rt k) (first++args++cap) h) (BT.get tab f)=some r:=e;cases hg:BT.get tab f with
   |some g=>rw[hg]at e;refine⟨ht.enter f g hg,λn=>(ht.w f g hg).call ih (hd _ ih) e RR ?_ n⟩;exact gC.2 ⟨gC.2 ⟨hv.1,ha⟩,hv.2⟩
   |none=>simp_all
  |yield l=>
   have e:(match h.get l with
    |some (.loop .ready _ f pos L vs _)=>(match KQ rt f pos L with |some g=>g (callT tab rt k) l vs args h |none=>none)
    |_=>none)=some r:=e
   split at e
   ·rename_i cx f pos L vs d hg
    split at e
    ·rename_i g hgr;obtain⟨p,hp,rfl,rfl,rfl,rfl⟩:=qZ9 hgr;obtain⟨pl,e⟩:=ht.r p hp _ _ _ _ _ _ e;exact qkU ih (hd _ ih) hg e RR hv ha
    grind
   grind
  |_=>cases e
end Go.Ae
