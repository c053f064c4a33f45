/- The abstract executor of the program's form in Lean, shown sound: operations one behind the other; code; functions; rounds; tables. -/
import Derived.Test.YtefichdddddacaaGreatDoorTopAgainAe3
import Derived.LoopNIn
import Derived.RangeFuncRecord
import Derived.RangeFuncNested
namespace Go.Ae
open Go
variable {P:Program} {c:CV}
abbrev cn (x:R) (k:AV→AH→R):R:=x.bind λq=>k q.1 q.2
theorem jX {α:Type} {x:Option α} {f:α→R} {k:AV→AH→R}:cn (ob x f) k=ob x λa=>cn (f a) k:=by cases x<;>rfl
theorem JT {b:Bool} {x y:R} {k:AV→AH→R}:cn (cx b x y) k=cx b (cn x k) (cn y k):=by cases b<;>rfl
theorem jG {b:Bool} {x y:R} {k:AV→AH→R}:cn (bif b then x else y) k=bif b then cn x k else cn y k:=by cases b<;>rfl
theorem xJ {k:AV→AH→R}:cn none k=none:=rfl
theorem je {v:AV} {h:AH} {k:AV→AH→R}:cn (some (v,h)) k=k v h:=rfl
theorem qS {α:Type} {x:Option α} {f g:α→R} (h:∀a,f a=g a):ob x f=ob x g:=by cases x<;>simp only[ob,h]
theorem qt {b:Bool} {x y x' y':R} (h:x=x') (h':y=y'):(bif b then x else y)=(bif b then x' else y'):=by rw[h,h']
theorem qwf (a b d:AV) (h:AH) (k:AV→AH→R):cn (gG a b d λz=>some (z,h)) k=gG a b d λz=>k z h:=by simp only[OD];repeat' (first |rfl |(simp only[JT,je];done) |(rw[jX];refine qS λ_=>?_) |(rw[jG];refine qt ?_ ?_) |split)
theorem Bb (a:AV) (h:AH) (k:AV→AH→R):cn (xE a λz=>some (z,h)) k=xE a λz=>k z h:=by unfold xE;repeat' (first |rfl |(simp only[];done) |(rw[jX];refine qS λ_=>?_) |(rw[jG];refine qt ?_ ?_) |split)
theorem qW0 (a:AV) (n:Nat) (h:AH) (k:AV→AH→R):cn (qp a n λz=>some (z,h)) k=qp a n λz=>k z h:=by simp only[Ub];repeat' (first |rfl |(simp only[];done) |(rw[jX];refine qS λ_=>?_) |(rw[jG];refine qt ?_ ?_) |split)
theorem qkm (a:AV) (n:Nat) (h:AH) (k:AV→AH→R):cn (Gw a n λz=>some (z,h)) k=Gw a n λz=>k z h:=by simp only[Mf];repeat' (first |rfl |(simp only[jX,je];done) |(rw[jX];refine qS λ_=>?_) |(rw[jG];refine qt ?_ ?_) |split)
theorem qkB (a:AV) (n m:Nat) (h:AH) (k:AV→AH→R):cn (YB a n m λz=>some (z,h)) k=YB a n m λz=>k z h:=by unfold YB;repeat' (first |rfl |(simp only[jX,je];done) |(rw[jX];refine qS λ_=>?_) |(rw[jG];refine qt ?_ ?_) |split)
theorem qgR (a b:AV) (n:Nat) (h:AH) (k:AV→AH→R):cn (vG a b n λz=>some (z,h)) k=vG a b n λz=>k z h:=by simp only[Kf];repeat' (first |rfl |(simp only[jG,xJ,je];done) |(rw[jX];refine qS λ_=>?_) |(rw[jG];refine qt ?_ ?_) |split)
theorem qgS (a b:AV) (n m:Nat) (h:AH) (k:AV→AH→R):cn (kU a b n m λz=>some (z,h)) k=kU a b n m λz=>k z h:=by unfold kU;repeat' (first |rfl |(simp only[jG,xJ,je];done) |(rw[jX];refine qS λ_=>?_) |(rw[jG];refine qt ?_ ?_) |split)
theorem qx6 (a b:AV) (n m:Nat) (h:AH) (k:AV→AH→R):cn (Yj a b n m λz=>some (z,h)) k=Yj a b n m λz=>k z h:=by unfold Yj;repeat' (first |rfl |(simp only[jX,jG,xJ,je];done) |(rw[jX];refine qS λ_=>?_) |(rw[jG];refine qt ?_ ?_) |split)
theorem qxN (a b:AV) (n m:Nat) (h:AH) (k:AV→AH→R):cn (Yx a b n m λz=>some (z,h)) k=Yx a b n m λz=>k z h:=by unfold Yx;repeat' (first |rfl |(simp only[jX,jG,xJ,je];done) |(rw[jX];refine qS λ_=>?_) |(rw[jG];refine qt ?_ ?_) |split)
theorem qWn (a b:AV) (h:AH) (k:AV→AH→R):cn (gP a b λz=>some (z,h)) k=gP a b λz=>k z h:=by unfold gP;repeat' (first |rfl |(simp only[jX,je];done) |(rw[jX];refine qS λ_=>?_) |(rw[jG];refine qt ?_ ?_) |split)
theorem qxp (h0:AH) (a:AV) (h:AH) (k:AV→AH→R):cn (jj h0 a λz=>some (z,h)) k=jj h0 a λz=>k z h:=by simp only[y7];repeat' (first |rfl |(simp only[jX,je];done) |(rw[jX];refine qS λ_=>?_) |(rw[jG];refine qt ?_ ?_) |split)
theorem qvB (h0:AH) (a:AV) (n:Nat) (h:AH) (k:AV→AH→R):cn (zi h0 a n λz=>some (z,h)) k=zi h0 a n λz=>k z h:=by simp only[wz];repeat' (first |rfl |(simp only[jX,je];done) |(rw[jX];refine qS λ_=>?_) |(rw[jG];refine qt ?_ ?_) |split)
theorem Bc (op:BinOp) (a b:AV) (h:AH) (k:AV→AH→R):cn (jb op a b λz=>some (z,h)) k=jb op a b λz=>k z h:=by simp only[Ny];repeat' (first |rfl |(simp only[jX,jG,xJ,je];done) |(rw[jX];refine qS λ_=>?_) |(rw[jG];refine qt ?_ ?_) |split)
theorem qz7 (op:BinOp) (a b:AV) (h:AH) (k:AV→AH→R):cn (wm op a b λz=>some (z,h)) k=wm op a b λz=>k z h:=by unfold wm;repeat' (first |rfl |(simp only[jX,je];done) |(rw[jX];refine qS λ_=>?_) |(rw[jG];refine qt ?_ ?_) |split)
theorem Bd (op:BinOp) (a b:AV) (h:AH) (k:AV→AH→R):cn (Vj op a b λz=>some (z,h)) k=Vj op a b λz=>k z h:=by unfold Vj;repeat' (first |rfl |(simp only[jX,je];done) |(rw[jX];refine qS λ_=>?_) |(rw[jG];refine qt ?_ ?_) |split)
theorem EE (d:EK) (n:Bool) (a b:AV) (h:AH) (k:AV→AH→R):cn (ml d n a b λz=>some (z,h)) k=ml d n a b λz=>k z h:=by unfold ml;repeat' (first |rfl |(simp only[jX,je];done) |(rw[jX];refine qS λ_=>?_) |(rw[jG];refine qt ?_ ?_) |split)
theorem Be (d:List ES) (n:Bool) (a b:AV) (h:AH) (k:AV→AH→R):cn (GF d n a b λz=>some (z,h)) k=GF d n a b λz=>k z h:=by unfold GF;repeat' (first |rfl |(simp only[jX,je];done) |(rw[jX];refine qS λ_=>?_) |(rw[jG];refine qt ?_ ?_) |split)
theorem EF (op:UnOp) (a:AV) (h:AH) (k:AV→AH→R):cn (pQ op a λz=>some (z,h)) k=pQ op a λz=>k z h:=by unfold pQ;repeat' (first |rfl |(simp only[];done) |(rw[jX];refine qS λ_=>?_) |(rw[jG];refine qt ?_ ?_) |split)
theorem qvm (d:IntKind) (a:AV) (h:AH) (k:AV→AH→R):cn (vM d a λz=>some (z,h)) k=vM d a λz=>k z h:=by unfold vM;repeat' (first |rfl |(simp only[];done) |(rw[jX];refine qS λ_=>?_) |(rw[jG];refine qt ?_ ?_) |split)
theorem qkc (a:AV) (h:AH) (k:AV→AH→R):cn (X9 a λz=>some (z,h)) k=X9 a λz=>k z h:=by unfold X9;repeat' (first |rfl |(simp only[];done) |(rw[jX];refine qS λ_=>?_) |(rw[jG];refine qt ?_ ?_) |split)
theorem Bf (h0:AH) (a:AV) (h:AH) (k:AV→AH→R):cn (Xd h0 a λz=>some (z,h)) k=Xd h0 a λz=>k z h:=by unfold Xd;repeat' (first |rfl |(simp only[jX,je];done) |(rw[jX];refine qS λ_=>?_) |(rw[jG];refine qt ?_ ?_) |split)
theorem qja (a:AV) (lo hi:Option AV) (h:AH) (k:AV→AH→R):cn (gJ a lo hi λz=>some (z,h)) k=gJ a lo hi λz=>k z h:=by unfold gJ;repeat' (first |rfl |(simp only[jX,je];done) |(rw[jX];refine qS λ_=>?_) |(rw[jG];refine qt ?_ ?_) |split)
theorem N9 (h0:AH) (e:TypeId) (n:Nat) (a:AV) (lo hi:Option AV) (h:AH) (k:AV→AH→R):cn (yX h0 e n a lo hi λz=>some (z,h)) k=yX h0 e n a lo hi λz=>k z h:=by unfold yX;repeat' (first |rfl |(simp only[jX,jG,xJ,je];done) |(rw[jX];refine qS λ_=>?_) |(rw[jG];refine qt ?_ ?_) |split)
theorem qYI (n m:Nat) (a:AV) (lo hi:Option AV) (h:AH) (k:AV→AH→R):cn (gT n m a lo hi λz=>some (z,h)) k=gT n m a lo hi λz=>k z h:=by unfold gT;repeat' (first |rfl |(simp only[jX,je];done) |(rw[jX];refine qS λ_=>?_) |(rw[jG];refine qt ?_ ?_) |split)
theorem qZD (t:TypeId) (z a:AV) (h:AH) (k:AV→AH→R):cn (xh t z a λz=>some (z,h)) k=xh t z a λz=>k z h:=by unfold xh;repeat' (first |rfl |(simp only[jG,je];done) |(rw[jX];refine qS λ_=>?_) |(rw[jG];refine qt ?_ ?_) |split)
theorem qqC (t:TypeId) (a:AV) (h:AH) (k:AV→AH→R):cn (Qx t a λz=>some (z,h)) k=Qx t a λz=>k z h:=by unfold Qx;repeat' (first |rfl |(simp only[jG,xJ,je];done) |(rw[jX];refine qS λ_=>?_) |(rw[jG];refine qt ?_ ?_) |split)
theorem qK1 (a:AV) (n:Nat) (h:AH) (k:AV→AH→R):cn (xq a n λz=>some (z,h)) k=xq a n λz=>k z h:=by simp only[JN];repeat' (first |rfl |(simp only[jX,je];done) |(rw[jX];refine qS λ_=>?_) |(rw[jG];refine qt ?_ ?_) |split)
theorem qgO (a:AV) (h:AH) (k:AV→AH→R):cn (kl a λz=>some (z,h)) k=kl a λz=>k z h:=by unfold kl;repeat' (first |rfl |(simp only[];done) |(rw[jX];refine qS λ_=>?_) |(rw[jG];refine qt ?_ ?_) |split)
theorem qj9 (a:AV) (h:AH) (k:AV→AH→R):cn (JA a λz=>some (z,h)) k=JA a λz=>k z h:=by unfold JA;repeat' (first |rfl |(simp only[];done) |(rw[jX];refine qS λ_=>?_) |(rw[jG];refine qt ?_ ?_) |split)
theorem EG (b:Bool) (l:List AV) (h:AH) (k:AV→AH→R):cn (nq b l λz=>some (z,h)) k=nq b l λz=>k z h:=by unfold nq;repeat' (first |rfl |(simp only[jX,jG,xJ,je];done) |(rw[jX];refine qS λ_=>?_) |(rw[jG];refine qt ?_ ?_) |split)
theorem qk9 (z:List AV) (vs:List (Nat×Nat×AV)) (h:AH) (k:AV→AH→R):cn (yR z vs λz=>some (z,h)) k=yR z vs λz=>k z h:=by unfold yR;repeat' (first |rfl |(simp only[jX,je];done) |(rw[jX];refine qS λ_=>?_) |(rw[jG];refine qt ?_ ?_) |split)
theorem Bg (h0:AH) (e:TypeId) (a:AV) (k:AV→AH→R):cn (AG h0 e a λz h=>some (z,h)) k=AG h0 e a k:=by unfold AG;repeat' (first |rfl |(simp only[jG,xJ,je];done) |(rw[jX];refine qS λ_=>?_) |(rw[jG];refine qt ?_ ?_) |split)
theorem Bh (h0:AH) (e:TypeId) (a:AV) (k:AV→AH→R):cn (gc h0 e a λz h=>some (z,h)) k=gc h0 e a k:=by unfold gc;repeat' (first |rfl |(simp only[jG,xJ,je];done) |(rw[jX];refine qS λ_=>?_) |(rw[jG];refine qt ?_ ?_) |split)
theorem qG3 (h0:AH) (e:TypeId) (z:List AV) (n:Nat) (vs:List (Nat×Nat×AV)) (k:AV→AH→R):cn (yZ h0 e z n vs λz h=>some (z,h)) k=yZ h0 e z n vs k:=by unfold yZ;repeat' (first |rfl |(simp only[jX,jG,xJ,je];done) |(rw[jX];refine qS λ_=>?_) |(rw[jG];refine qt ?_ ?_) |split)
theorem qge (h0:AH) (e:TypeId) (z:List AV) (a b:AV) (k:AV→AH→R):cn (Qv h0 e z a b λz h=>some (z,h)) k=Qv h0 e z a b k:=by unfold Qv;repeat' (first |rfl |(simp only[jG,xJ,je];done) |(rw[jX];refine qS λ_=>?_) |(rw[jG];refine qt ?_ ?_) |split)
theorem qJb (h0:AH) (e:TypeId) (sz:Nat) (a:AV) (n:Nat) (new:CT) (k:AV→AH→R):cn (yN h0 e sz a n new λz h=>some (z,h)) k=yN h0 e sz a n new k:=by unfold yN;repeat' (first |rfl |(simp only[jX,jG,xJ,je];done) |(rw[jX];refine qS λ_=>?_) |(rw[jG];refine qt ?_ ?_) |split)
theorem qjn (h0:AH) (e:TypeId) (sz:Nat) (a b:AV) (k:AV→AH→R):cn (vC h0 e sz a b λz h=>some (z,h)) k=vC h0 e sz a b k:=by unfold vC;repeat' (first |rfl |(simp only[jX,jG,xJ];done) |exact qJb _ _ _ _ _ _ _ |(rw[jX];refine qS λ_=>?_) |(rw[jG];refine qt ?_ ?_) |split)
theorem qg7 (h0:AH) (a:AV) (k:AV→AH→R):cn (O8 h0 a λz h=>some (z,h)) k=O8 h0 a k:=by unfold O8;repeat' (first |rfl |(simp only[jG,je];done) |(rw[jX];refine qS λ_=>?_) |(rw[jG];refine qt ?_ ?_) |split)
theorem I8 (f:AV) (a:List AV) (h0:AH) (k:AV→AH→R):cn (ju c f a h0 λz h=>some (z,h)) k=ju c f a h0 k:=by simp only[QQ];repeat' (first |rfl |(simp only[];done) |(rw[jX];refine qS λ_=>?_) |(rw[jG];refine qt ?_ ?_) |split)
theorem qWN (l:List (Nat×Nat)) (v:AV) (a:List AV) (h0:AH) (k:AV→AH→R):cn (yj c l v a h0 λz h=>some (z,h)) k=yj c l v a h0 k:=by
 unfold yj;cases v<;>first |rfl |skip
 rename_i t x;simp only[];cases KJ l t with
 |none=>rfl
 |some f=>exact I8 _ _ _ _
theorem qg9 (h0 h1:AH) (v:AV) (k:AV→AH→R):cn (Z8 h0 v λz=>some (z,h1)) k=Z8 h0 v λz=>k z h1:=by
 unfold Z8
 repeat' (first |rfl |split)
theorem qxb (h0 h1:AH) (v i:AV) (k:AV→AH→R):cn (Up h0 v i λz=>some (z,h1)) k=Up h0 v i λz=>k z h1:=by
 unfold Up
 repeat' (first |rfl |split)
theorem qwN (h0:AH) (v i:AV) (k:AV→AH→R):cn (OB h0 v i λz h=>some (z,h)) k=OB h0 v i k:=by
 unfold OB
 repeat' (first |rfl |split)
theorem Bi (h0:AH) (v i y:AV) (k:AV→AH→R):cn (AJ h0 v i y λh=>some (.undef,h)) k=AJ h0 v i y λh=>k .undef h:=by
 unfold AJ
 repeat' (first |rfl |split)
theorem qwI (h0:AH) (v i y:AV) (k:AV→AH→R):cn (Zg h0 v i y λh=>some (.undef,h)) k=Zg h0 v i y λh=>k .undef h:=by
 unfold Zg
 repeat' (first |rfl |split)
theorem qk1 (h0:AH) (a b:AV) (n:Nat) (k:AV→AH→R):cn (jP h0 a b n λh=>some (.undef,h)) k=jP h0 a b n λh=>k .undef h:=by simp only[GM];repeat' (first |rfl |(simp only[jX,jG,xJ,je];done) |(rw[jX];refine qS λ_=>?_) |(rw[jG];refine qt ?_ ?_) |split)
theorem Bj (op:BinOp) (t:TypeId) (a b:AV) (h:AH) (k:AV→AH→R):cn (AK P op t a b λz=>some (z,h)) k=AK P op t a b λz=>k z h:=by
 cases op<;>simp only[AK,jX,qz7]<;>refine qS λd=>?_
 all_goals cases d<;>simp only[Bc,Bd,EE,Be,jX,JT,xJ]
theorem qwd (s d:TypeId) (v:AV) (h:AH) (k:AV→AH→R):cn (Xs P s d v h λz h=>some (z,h)) k=Xs P s d v h k:=by
 simp only[Xs,jX];refine qS λds=>qS λdd=>?_;cases dd<;>cases ds<;>simp only[qvm,qkc,xJ,jX]<;>refine qS λe=>?_
 all_goals
  cases e<;>first |rfl |skip
  rename_i q;cases q<;>simp only[xJ,Bf]
theorem I9 (o:Op) (r:Operand→Option AV) (h:AH) (k:AV→AH→R):bh P c o r h k=cn (ch P c o r h) k:=by
 unfold ch;cases o
 case convert s d x=>show(ob (r x) λv=>Xs P s d v h k)=cn (ob (r x) λv=>Xs P s d v h λv h'=>some (v,h')) k;rw[jX];exact qS λv=>(qwd s d v h k).symm
 all_goals simp only[bh,jX,xJ,je,qwf,Bh,qk1,Bb,Bj,EF,qW0,qK1]
 case slice t x lo hi mx=>
  cases mx<;>simp only[jX,xJ]
  refine qS λ_=>qS λ_=>qS λ_=>qS λd=>?_;cases d<;>(first |rfl |simp only[jX,qja,N9,qYI])
 case build=>refine qS λ_=>qS λd=>?_;cases d<;>(first |rfl |simp only[jX,qk9])
 case buildSlice=>refine qS λd=>?_;cases d<;>(first |rfl |simp only[jX,xJ,JT,qG3])
 case load=>refine qS λ_=>qS λd=>?_;cases d<;>(first |rfl |simp only[qxp,qvB])
 case makeInterface=>refine qS λd=>?_;cases d<;>(first |rfl |simp only[jX,je])
 case makeFunc fn _ _=>cases fn<;>(first |rfl |simp only[jX,je])
 case makeSlice=>refine qS λd=>?_;cases d<;>(first |rfl |simp only[jX,qge])
 case field=>refine qS λ_=>qS λd=>?_;obtain⟨d,e⟩:=d;cases e<;>(first |rfl |simp only[qkm,qkB])
 case indexAddr=>refine qS λ_=>qS λ_=>qS λd=>?_;cases d<;>(first |rfl |simp only[jX,xJ,JT,qgR,qgS])
 case index=>refine qS λ_=>qS λ_=>qS λd=>?_;cases d<;>(first |rfl |simp only[jX,JT,qWn,qx6,qxN])
 case typeAssert=>refine qS λ_=>qS λd=>?_;cases d<;>(first |rfl |simp only[jX,JT,qqC,qZD])
 case call cl=>
  cases cl.callee with
  |value f=>(first |rfl |simp only[jX,I8])
  |invoke _ _=>(first |rfl |simp only[jX,qWN])
  |builtin b=>
   cases b<;>first |rfl |(simp only[jX,EG];done) |skip
   case len=>
    generalize cl.args.toList=xs;generalize cl.argTypes.toList=ts;cases xs<;>cases ts<;>first |rfl |skip
    simp only[jX];refine qS λ_=>qS λd=>?_;cases d<;>(first |rfl |simp only[qj9,qgO])
   case append=>
    generalize cl.args.toList=xs;generalize cl.argTypes.toList=ts;rcases xs with _ |⟨s,_ |⟨x,_ |⟨y,xs⟩⟩⟩<;>rcases ts with _ |⟨t,_ |⟨u,ts⟩⟩<;>first |rfl |skip
    simp only[jX];refine qS λdu=>?_;cases du<;>first |rfl |skip
    all_goals
     simp only[jX];refine qS λd=>?_;cases d<;>(first |rfl |simp only[jX,qjn])
theorem Jc {o:Op} {r:Operand→Option AV} {h:AH} {k:AV→AH→R} {q:AV×AH} (e:bh P c o r h k=some q) :
  ∃v h',ch P c o r h=some (v,h')∧k v h'=some q:=by
 rw[I9]at e;cases hs:ch P c o r h with
 |none=>rw[hs]at e;cases e
 |some z=>rw[hs]at e;exact⟨z.1,z.2,rfl,e⟩
end Go.Ae
namespace Go.Ae
open Go
variable {P:Program} {m:Mp} {D:Nat→Prop} {h h':AH} {w:World} {c:CV} {o:Oper} {v:AV}
theorem qv2 (hc:xu P c) {rd:Option Nat} {n nn:Nat} {ops:Array Oper} {Q:Exit→Act→World→Prop} {g:Option (Nat×Bool)} {p:Oper} {d:Tmp} {r:AV×AH} :
  ∀(l:List Oper) (j:Nat) (rest:List Nat) (m:Mp) (D:Nat→Prop) (h:AH) (w:World) (a:Act) (tm:PT AV) (k:PT AV→AH→R),
   (∀i o,l[i]? =some o→ops[j+i]? =some o∧o.guard=g)→
   (∀q,g=some q→ops[q.1]? =some p∧p.dst=some d∧writes d l=false∧yielded ops a.tmps q.1=some q.2)→
   Rel P m D h w→dL m D n a tm→uM P c n l tm h k=some r→
   (∀m' D' h' w' a' tm',ZE P m D h w n a.defers a' tm' m' D' h' w'→k tm' h'=some r→wpOpsIn (FW rd) nn P ops Q rest a' w')→
   wpOpsIn (FW rd) nn P ops Q (List.range' j l.length++rest) a w:=by
 intro l
 induction l with
 |nil=>intro j rest m D h w a tm k _ _ R T e hk;exact hk m D h w a tm ⟨Ext.refl ..,R,T,rfl⟩ e
 |cons o l ih=>
  intro j rest m D h w a tm k hl hg R T e hk;obtain⟨ho,ey⟩:=hl 0 o rfl;simp only[List.length_cons,List.range'_succ,List.cons_append];simp only[wpOpsIn];rw[show ops[j]? =some o from ho];have hw:Region.wanted o (yielded ops a.tmps)=true:=by
   unfold Region.wanted;rw[ey];cases g with
   |none=>rfl
   |some q=>obtain⟨_,_,_,hy⟩:=hg q rfl;simp[hy]
  simp only[hw,if_true];simp only[uM]at e;obtain⟨v,h1,e1,e⟩:=Jc e;refine OT hc T.ev R e1 ?_;intro m1 D1 w1 X R1 EH;obtain⟨cu,e2,T1⟩:=(T.mono X).put EH e;refine ih (j+1) rest m1 D1 h1 w1 _ cu k ?_ ?_ R1 T1 e2 ?_
  ·intro i o' hi;have:=hl (i+1) o' hi
   rwa [show j+(i+1)=j+1+i by omega]at this
  ·intro q hq;obtain⟨k1,k2,k3,k4⟩:=hg q hq;have EI:=XH k3;refine⟨k1,k2,?_,?_⟩
   ·simp only[writes,Bool.or_eq_false_iff]at k3;exact k3.2
   ·rw[G1 k1 k2 (EI o (iK ..))];exact k4
  ·intro m' D' h' w' a' tm' O e';refine hk m' D' h' w' a' tm' ⟨X.trans O.ext,O.rel,O.tm,?_⟩ e';rw[O.defers,g9]
end Go.Ae
namespace Go.Ae
open Go
variable {P:Program} {m:Mp} {D:Nat→Prop} {h h':AH} {w:World} {c:CV} {o:Oper} {v:AV}
theorem qxR {q:Nat×Bool} {y:Nat→Option Bool} (hg:o.guard=some q) (hy:y q.1=some q.2):Region.wanted o y=true:=by unfold Region.wanted;rw[hg];simp[hy]
theorem MX {q:Nat×Bool} {y:Nat→Option Bool} (hg:o.guard=some q) (hy:y q.1≠some q.2):Region.wanted o y=false:=by unfold Region.wanted;rw[hg];simp[hy]
theorem qG8 {rd:Option Nat} {n nn:Nat} {ops:Array Oper} {Q:Exit→Act→World→Prop} {q:Nat×Bool} {p:Oper} {d:Tmp} {r:AV×AH} :
  ∀(l:List Oper) (j:Nat) (rest:List Nat) (a:Act) (tm:PT AV) (k:PT AV→R),
   (∀i o,l[i]? =some o→ops[j+i]? =some o∧o.guard=some q)→
   ops[q.1]? =some p→p.dst=some d→writes d l=false→yielded ops a.tmps q.1≠some q.2→
   dL m D n a tm→UW n l tm k=some r→
   (∀a' tm',dL m D n a' tm'→a'.defers=a.defers→k tm'=some r→wpOpsIn (FW rd) nn P ops Q rest a' w)→
   wpOpsIn (FW rd) nn P ops Q (List.range' j l.length++rest) a w:=by
 intro l
 induction l with
 |nil=>intro j rest a tm k _ _ _ _ _ T e hk;exact hk a tm T rfl e
 |cons o l ih=>
  intro j rest a tm k hl hp hd hw hy T e hk;obtain⟨ho,ey⟩:=hl 0 o rfl;simp only[List.length_cons,List.range'_succ,List.cons_append];simp only[wpOpsIn];rw[show ops[j]? =some o from ho];simp only[MX ey hy,Bool.false_eq_true,if_false];refine⟨λ_ _=>trivial,?_⟩;simp only[UW]at e;obtain⟨cu,e2,T1⟩:=T.put (v:=.undef) trivial e;rw[ZM]at T1;have EI:=XH hw;refine ih (j+1) rest _ cu k ?_ hp hd ?_ ?_ T1 e2 ?_
  ·intro i o' hi;have:=hl (i+1) o' hi
   rwa [show j+(i+1)=j+1+i by omega]at this
  ·simp only[writes,Bool.or_eq_false_iff]at hw;exact hw.2
  ·rw[G1 hp hd (EI o (iK ..))];exact hy
  ·intro a' tm' T' n6 e';exact hk a' tm' T' (by rw[n6,g9]) e'
theorem dL.bM {n:Nat} {a:Act} {tm:PT AV} (T:dL m D n a tm):∀(L:List Nat) (acc:PT AV),dL m D n a acc→xA tm L=true→dL m D n a (gn L (vr L tm) acc):=by
 intro L
 induction L with
 |nil=>intro acc A _;exact A
 |cons t L ih=>
  intro acc A hh;simp only[xA,Bool.and_eq_true]at hh;simp only[vr,gn];refine ih _ ?_ hh.2;have h1:=hh.1;unfold has at h1
  split at h1
  ·rename_i v hv;refine⟨A.size,?_⟩;intro s u hs;rw[PT.bF]at hs;by_cases e:t=s
   ·subst e;rw[iJ rfl]at hs;cases hs;exact T.at_ t v hv
   ·rw[iQ e]at hs;exact A.at_ s u hs
  ·cases h1
theorem Vc {b:Bool} {x:R} {r:AV×AH}:cx b none x=some r↔b=false∧x=some r:=by cases b<;>simp[cx]
theorem PT.eo {α:Type} (i:Nat):(PT.e:PT α).get i=none:=rfl
theorem dL.join {n:Nat} {a:Act} {tm:PT AV} (T:dL m D n a tm) (L:List Nat) (hh:xA tm L=true):dL m D n a (gn L (vr L tm) .e) :=
 T.bM L .e ⟨T.size,λt v hv=>by rw[PT.eo]at hv;cases hv⟩ hh
theorem MM (g:Nat×Bool) (l:List Oper):(zy g l).1++(zy g l).2=l:=by
 induction l with
 |nil=>rfl
 |cons o l ih=>simp only[zy];cases C9 g o<;>simp[ih]
theorem La (g:Nat×Bool) (l:List Oper):∀o∈(zy g l).1,o.guard=some g:=by
 induction l with
 |nil=>intro o ho;cases ho
 |cons x l ih=>
  intro o ho;simp only[zy]at ho;cases hs:C9 g x<;>simp only[hs,cond_false,cond_true]at ho
  ·cases ho
  ·rcases List.mem_cons.1 ho with rfl |ho
   ·unfold C9 at hs
    split at hs
    ·rename_i g' EJ;simp only[Bool.and_eq_true,beq_iff_eq]at hs;rw[EJ];have:=jf hs.1;obtain⟨g1,g2⟩:=g;obtain⟨g3,g4⟩:=g';simp only at this hs;rw[this,hs.2]
    ·cases hs
   ·exact ih o ho
theorem qvN (hc:xu P c) {rd:Option Nat} {n nn:Nat} {ops:Array Oper} {Q:Exit→Act→World→Prop} {r:AV×AH} {ds:List Deferred} :
  ∀(f:Nat) (l:List Oper) (j:Nat) (Ls:List (List Nat)) (m:Mp) (D:Nat→Prop) (h:AH) (w:World) (a:Act) (tm:PT AV) (k:PT AV→AH→R),
   (∀i o,l[i]? =some o→ops[j+i]? =some o)→
   Rel P m D h w→dL m D n a tm→a.defers=ds→YZ P c n ops.toList f l Ls tm h k=some r→
   (∀m' D' h' w' a' tm',ZE P m D h w n ds a' tm' m' D' h' w'→k tm' h'=some r→Q .normal a' w')→
   wpOpsIn (FW rd) nn P ops Q (List.range' j l.length) a w:=by
 intro f
 induction f with
 |zero=>
  intro l j Ls m D h w a tm k hl R T n6 e hk;cases l with
  |nil=>exact hk m D h w a tm ⟨Ext.refl ..,R,T,n6⟩ e
  |cons o l=>simp only[YZ,reduceCtorEq]at e
 |succ f ih=>
  intro l j Ls m D h w a tm k hl R T n6 e hk;cases l with
  |nil=>exact hk m D h w a tm ⟨Ext.refl ..,R,T,n6⟩ e
  |cons o l=>
   cases hg:o.guard with
   |none=>
    simp only[YZ,hg]at e;obtain⟨v,h1,e1,e⟩:=Jc e;simp only[List.length_cons,List.range'_succ,wpOpsIn];rw[show ops[j]? =some o from hl 0 o rfl];have hw:Region.wanted o (yielded ops a.tmps)=true:=by unfold Region.wanted;rw[hg]
    simp only[hw,if_true];refine OT hc T.ev R e1 ?_;intro m1 D1 w1 X R1 EH;obtain⟨cu,e2,T1⟩:=(T.mono X).put EH e;refine ih l (j+1) Ls m1 D1 h1 w1 _ cu k ?_ R1 T1 (by rw[g9];exact n6) e2 ?_
    ·intro i o' hi;have:=hl (i+1) o' hi
     rwa [show j+(i+1)=j+1+i by omega]at this
    ·intro m' D' h' w' a' tm' O e';exact hk m' D' h' w' a' tm' ⟨X.trans O.ext,O.rel,O.tm,O.defers⟩ e'
   |some g=>
    simp only[YZ,hg,qC]at e;obtain⟨d,hd,vg,rD,e⟩:=e;cases Ls with
    |nil=>cases e
    |cons L sf=>
     simp only[Vc]at e;obtain⟨Bk,e⟩:=e;unfold wn at hd;rw[hg]at hd;simp only[Option.bind_some,xR,Array.getElem?_toList,Option.bind_eq_some_iff]at hd;obtain⟨p,hp,Bl⟩:=hd;have EL:=T.at_ d vg rD;have fC:o::l=(o::(zy g l).1)++(zy g l).2:=by rw[List.cons_append,MM]
     have hlen:List.range' j (o::l).length=List.range' j (o::(zy g l).1).length++List.range' (j+(o::(zy g l).1).length) (zy g l).2.length:=by rw[List.range'_append_1,← List.length_append,← fC]
     rw[hlen];have pT:∀i o',(o::(zy g l).1)[i]? =some o'→ops[j+i]? =some o'∧o'.guard=some g:=by
      intro i o' hi;refine⟨hl i o' ?_,?_⟩
      ·rw[fC,List.getElem?_append_left (List.getElem?_eq_some_iff.1 hi).1];exact hi
      ·rcases List.mem_cons.1 (List.mem_of_getElem? hi)with rfl |hm
       ·exact hg
       ·exact La g l o' hm
     have lq:∀i o',(zy g l).2[i]? =some o'→ops[j+(o::(zy g l).1).length+i]? =some o':=by intro i o' hi;rw[Nat.add_assoc];refine hl _ o' ?_;rw[fC,List.getElem?_append_right omQ];rw[show(o::(zy g l).1).length+i-(o::(zy g l).1).length=i by omega];exact hi
     have eU:yielded ops a.tmps g.1=(match cv m vg with | .bool b=>some b |_=>none):=by unfold yielded;simp only[hp,Option.bind_some,Bl,EL.1];generalize cv m vg=z;cases z<;>rfl
     have fin:∀m1 D1 h1 w1 a1 cu,ZE P m D h w n ds a1 cu m1 D1 h1 w1→
       cx (xA cu L) (YZ P c n ops.toList f (zy g l).2 sf (gn L (vr L cu) .e) h1 k) none=some r→
       wpOpsIn (FW rd) nn P ops Q (List.range' (j+(o::(zy g l).1).length) (zy g l).2.length) a1 w1:=by
      intro m1 D1 h1 w1 a1 cu O e1;rw[xv]at e1;obtain⟨cw,e1⟩:=e1;refine ih (zy g l).2 _ sf m1 D1 h1 w1 a1 _ k lq O.rel (O.tm.join L cw) O.defers e1 ?_;intro m' D' h' w' a' tm' O' e';exact hk m' D' h' w' a' tm' ⟨O.ext.trans O'.ext,O'.rel,O'.tm,O'.defers⟩ e'
     simp only[xd]at e;rw[K9]at e;have go:∀(e:UW n (o::(zy g l).1) tm (λtm'=>cx (xA tm' L) (YZ P c n ops.toList f (zy g l).2 sf (gn L (vr L tm') .e) h k) none)=some r)
       (hy:yielded ops a.tmps g.1≠some g.2),wpOpsIn (FW rd) nn P ops Q (List.range' j (o::(zy g l).1).length++List.range' (j+(o::(zy g l).1).length) (zy g l).2.length) a w:=by
      intro e hy;refine qG8 (o::(zy g l).1) j _ a tm _ pT hp Bl Bk hy T e ?_;intro a' tm' T' EM e';exact fin m D h w a' tm' ⟨Ext.refl ..,R,T',by rw[EM,n6]⟩ e'
     split at e
     ·rename_i t;simp only[cv]at eU;cases ht:(t==g.2)
      rotate_left
      ·rw[ht]at e;refine qv2 (p:=p) (d:=d) hc (o::(zy g l).1) j _ m D h w a tm _ pT ?_ R T e ?_
       ·intro q hq;cases hq;exact⟨hp,Bl,Bk,by rw[eU];simpa using ht⟩
       ·intro m' D' h' w' a' tm' O e';exact fin m' D' h' w' a' tm' ⟨O.ext,O.rel,O.tm,by rw[O.defers,n6]⟩ e'
      ·rw[ht]at e;refine go e ?_;rw[eU];simpa using ht
     ·rename_i hnb;refine go e ?_;rw[eU];cases vg<;>simp only[cv]<;>first |(intro hh;cases hh;done) |exact absurd rfl (hnb _) |skip
end Go.Ae
namespace Go.Ae
open Go
variable {P:Program} {c:CV}
def Bm:AX→Exit
 | .normal=>.normal
 | .exit i=>.exit i
 | .goto l=>.goto l
 | .ret=>.ret
def Gm (b:Nat):Deferred:={ target:=.collected b,args:=#[] }
def nB (m:Mp) (D:Nat→Prop) (ds:List Nat) (l:List Deferred):Prop:=(∀d∈ds,D d)∧l=ds.map λd=>Gm (m d).1
def oJ (m:Mp) (D:Nat→Prop) (rd rc:Option Nat):Prop:=match rd with
 |none=>rc=none
 |some l=>D l∧rc=some (m l).1
theorem nB.mono {m m':Mp} {D D':Nat→Prop} {h h':AH} {w w':World} {ds:List Nat} {l:List Deferred} (d:nB m D ds l) (e:Ext m D h w m' D' h' w'):nB m' D' ds l :=
 ⟨λb hb=>e.oz b (d.1 b hb),by rw[d.2];exact List.map_congr_left λb hb=>by rw[e.map b (d.1 b hb)]⟩
theorem oJ.mono {m m':Mp} {D D':Nat→Prop} {h h':AH} {w w':World} {rd rc:Option Nat} (d:oJ m D rd rc) (e:Ext m D h w m' D' h' w'):oJ m' D' rd rc:=by
 cases rd with
 |none=>exact d
 |some l=>exact⟨e.oz l d.1,by rw[e.map l d.1];exact d.2⟩
structure St (P:Program) (m:Mp) (D:Nat→Prop) (h:AH) (w:World) (n:Nat) (ds:List Nat) (a:Act) (tm:PT AV) (rd rc:Option Nat):Prop where
  rel:Rel P m D h w
  tm:dL m D n a tm
  df:nB m D ds a.defers
  rd:oJ m D rd rc
theorem St.sA {m m':Mp} {D D':Nat→Prop} {h h':AH} {w w':World} {n:Nat} {ds:List Nat} {a a':Act} {tm tm':PT AV} {rd rc:Option Nat} (s:St P m D h w n ds a tm rd rc)
  (o:ZE P m D h w n a.defers a' tm' m' D' h' w'):St P m' D' h' w' n ds a' tm' rd rc :=
 ⟨o.rel,o.tm,by rw[o.defers];exact s.df.mono o.ext,s.rd.mono o.ext⟩
def Ur (P:Program) (c:CV):Prop:=∀(n nn:Nat) (ops:Array Oper) (Ls:List (List Nat)) (rc:Option Nat) (Q:Exit→Act→World→Prop) (r:AV×AH) (id:Nat)
 (m:Mp) (D:Nat→Prop) (h:AH) (w:World) (a:Act) (tm:PT AV) (k:PT AV→AH→R),Rel P m D h w→dL m D n a tm→Eg P c n ops Ls tm h k=some r→
 (∀m' D' h' w' a' tm',ZE P m D h w n a.defers a' tm' m' D' h' w'→k tm' h'=some r→Q .normal a' w')→(Code.region id ops true).wpIn (FW rc) nn P Q a w
def wk (P:Program) (N:Nat) (c:CV) (f n:Nat) (rd:Option Nat) (code:Code):Prop :=
 ∀(rc:Option Nat) (nn:Nat) (Q:Exit→Act→World→Prop) (r:AV×AH) (pos:List Nat) (pl:Pl) (tm:PT AV) (h:AH) (ds:List Nat) (k:AX→PT AV→AH→List Nat→R)
  (m:Mp) (D:Nat→Prop) (w:World) (a:Act),St P m D h w n ds a tm rd rc→
  (∃fn bd,P.funcs[f]? =some fn∧fn.body=some bd∧fn.ntmps=n∧ze bd pos=some code)→
  vS P N c f n rd code pos pl tm h ds k=some r→
  (∀x m' D' h' w' a' tm' Bn,Ext m D h w m' D' h' w'→St P m' D' h' w' n Bn a' tm' rd rc→k x tm' h' Bn=some r→Q (Bm x) a' w')→
  code.wpIn (FW rc) nn P Q a w
theorem qJ9 (c:Code) (p q:List Nat) (s:Code) (h:ze c p=some s):ze c (p++q)=ze s q:=by
 induction p generalizing c with
 |nil=>simp only[ze]at h;cases h;rfl
 |cons i p ih=>
  cases c<;>simp only[ze,reduceCtorEq,List.cons_append]at h ⊢
  case seq a b=>cases hi:Nat.beq i 0<;>simp only[hi,cond_true,cond_false]at h ⊢ <;>exact ih _ h
  case cond a b=>cases hi:Nat.beq i 0<;>simp only[hi,cond_true,cond_false]at h ⊢ <;>exact ih _ h
  case block a=>exact ih _ h
  case loop a=>exact ih _ h
  case rangeFunc a b=>cases hi:Nat.beq i 0<;>simp only[hi,cond_true,cond_false]at h ⊢ <;>exact ih _ h
theorem J2 {f n:Nat} {code s:Code} {pos q:List Nat} (h:∃fn bd,P.funcs[f]? =some fn∧fn.body=some bd∧fn.ntmps=n∧ze bd pos=some code) (hs:ze code q=some s) :
  ∃fn bd,P.funcs[f]? =some fn∧fn.body=some bd∧fn.ntmps=n∧ze bd (pos++q)=some s:=by
 obtain⟨fn,bd,h1,h2,h3,h4⟩:=h;exact⟨fn,bd,h1,h2,h3,by rw[qJ9 _ _ _ _ h4,hs]⟩
end Go.Ae
namespace Go.Ae
open Go
variable {P:Program} {c:CV}
theorem St.join {m:Mp} {D:Nat→Prop} {h:AH} {w:World} {n:Nat} {ds:List Nat} {a:Act} {tm:PT AV} {rd rc:Option Nat} (s:St P m D h w n ds a tm rd rc) {L:List Nat} (hh:xA tm L=true) :
  St P m D h w n ds a (gn L (vr L tm) .e) rd rc:=⟨s.rel,s.tm.join L hh,s.df,s.rd⟩
theorem Zp (hc:xu P c) (hd:Ur P c) {f n:Nat} {rd:Option Nat} {N id:Nat} {ops:Array Oper} {d:Bool}:wk P N c f n rd (.region id ops d):=by
 intro rc nn Q r pos pl tm h ds k m D w a S _ e hk;simp only[vS]at e;cases d with
 |true=>simp only[cx]at e;refine hd n nn ops (Dc pl) rc Q r id m D h w a tm _ S.rel S.tm e ?_;intro m' D' h' w' a' tm' O e';exact hk .normal m' D' h' w' a' tm' ds O.ext (S.sA O) e'
 |false=>
  simp only[cx]at e;refine wpIn_region ?_;have hr:List.range ops.size=List.range' 0 ops.toList.length:=by simp[List.range_eq_range']
  rw[hr];refine qvN (ds:=a.defers) hc _ ops.toList 0 (Dc pl) m D h w a tm _ (λi o hi=>by simpa using hi) S.rel S.tm rfl e ?_;intro m' D' h' w' a' tm' O e';exact hk .normal m' D' h' w' a' tm' ds O.ext (S.sA O) e'
theorem qjO {f n N:Nat} {rd:Option Nat} {x y:Code} (hx:wk P N c f n rd x) (hy:wk P N c f n rd y):wk P N c f n rd (.seq x y):=by
 intro rc nn Q r pos pl tm h ds k m D w a S dF e hk;simp only[vS]at e;have oC:=J2 (q:=[0]) dF (s:=x) (by simp only[ze];rfl);have Dm:=J2 (q:=[1]) dF (s:=y) (by simp only[ze];rfl);refine wpIn_seq ?_;cases hL:sh pl with
 |some L=>
  simp only[hL,xd]at e;refine hx rc nn _ r (pos++[0]) (mn pl) tm h ds _ m D w a S oC e ?_;intro z m1 D1 h1 w1 a1 cu ds1 X1 S1 e1;cases z with
  |normal=>simp only[xv]at e1;obtain⟨cw,e1⟩:=e1;refine hy rc nn Q r (pos++[1]) (sg pl) _ h1 ds1 k m1 D1 w1 a1 (S1.join cw) Dm e1 ?_;intro z2 m2 D2 h2 w2 a2 tH sB X2 S2 e2;exact hk z2 m2 D2 h2 w2 a2 tH sB (X1.trans X2) S2 e2
  |exit i=>exact hk (.exit i) m1 D1 h1 w1 a1 cu ds1 X1 S1 e1
  |goto i=>exact hk (.goto i) m1 D1 h1 w1 a1 cu ds1 X1 S1 e1
  |ret=>exact hk .ret m1 D1 h1 w1 a1 cu ds1 X1 S1 e1
 |none=>
  simp only[hL]at e;refine hx rc nn _ r (pos++[0]) (mn pl) tm h ds _ m D w a S oC e ?_;intro z m1 D1 h1 w1 a1 cu ds1 X1 S1 e1;cases z with
  |normal=>refine hy rc nn Q r (pos++[1]) (sg pl) _ h1 ds1 k m1 D1 w1 a1 S1 Dm e1 ?_;intro z2 m2 D2 h2 w2 a2 tH sB X2 S2 e2;exact hk z2 m2 D2 h2 w2 a2 tH sB (X1.trans X2) S2 e2
  |exit i=>exact hk (.exit i) m1 D1 h1 w1 a1 cu ds1 X1 S1 e1
  |goto i=>exact hk (.goto i) m1 D1 h1 w1 a1 cu ds1 X1 S1 e1
  |ret=>exact hk .ret m1 D1 h1 w1 a1 cu ds1 X1 S1 e1
theorem qKh {f n N:Nat} {rd:Option Nat} {o:Operand} {x y:Code} (hx:wk P N c f n rd x) (hy:wk P N c f n rd y):wk P N c f n rd (.cond o x y):=by
 intro rc nn Q r pos pl tm h ds k m D w a S dF e hk;simp only[vS,qC]at e;obtain⟨v,hv,e⟩:=e;have oC:=J2 (q:=[0]) dF (s:=x) (by simp only[ze];rfl);have Dm:=J2 (q:=[1]) dF (s:=y) (by simp only[ze];rfl);obtain⟨h1,h2⟩:=S.tm.ev _ _ hv;rw[O3]at e
 split at e
 ·rename_i t;refine wpIn_cond (t:=t) (by rw[h1];rfl) ?_;cases t with
  |true=>exact hx rc nn Q r (pos++[0]) (mn pl) tm h ds k m D w a S oC e hk
  |false=>exact hy rc nn Q r (pos++[1]) (sg pl) tm h ds k m D w a S Dm e hk
 ·cases e
theorem qQP {f n N id:Nat} {rd:Option Nat} {x:Code} (hx:wk P N c f n rd x):wk P N c f n rd (.block id x):=by
 intro rc nn Q r pos pl tm h ds k m D w a S dF e hk;simp only[vS]at e;have oC:=J2 (q:=[0]) dF (s:=x) (by simp only[ze]);refine wpIn_block ?_;cases hL:sh pl with
 |some L=>
  simp only[hL,xd]at e;refine hx rc nn _ r (pos++[0]) (mn pl) tm h ds _ m D w a S oC e ?_;intro z m1 D1 h1 w1 a1 cu ds1 X1 S1 e1;cases z with
  |normal=>simp only[xv]at e1;obtain⟨cw,e1⟩:=e1;exact hk .normal m1 D1 h1 w1 a1 _ ds1 X1 (S1.join cw) e1
  |exit i=>
   simp only[Bm,Exit.inBlock];by_cases hi:i=id
   ·subst hi;simp only[Nat.beq_refl,cx,if_true]at e1 ⊢;cases cw:xA cu L
    ·rw[cw]at e1;cases e1
    ·rw[cw]at e1;exact hk .normal m1 D1 h1 w1 a1 _ ds1 X1 (S1.join cw) e1
   ·rw[iQ hi];simp only[yG hi,cx]at e1;exact hk (.exit i) m1 D1 h1 w1 a1 cu ds1 X1 S1 e1
  |goto i=>exact hk (.goto i) m1 D1 h1 w1 a1 cu ds1 X1 S1 e1
  |ret=>exact hk .ret m1 D1 h1 w1 a1 cu ds1 X1 S1 e1
 |none=>
  simp only[hL]at e;refine hx rc nn _ r (pos++[0]) (mn pl) tm h ds _ m D w a S oC e ?_;intro z m1 D1 h1 w1 a1 cu ds1 X1 S1 e1;cases z with
  |normal=>exact hk .normal m1 D1 h1 w1 a1 _ ds1 X1 S1 e1
  |exit i=>
   simp only[Bm,Exit.inBlock];by_cases hi:i=id
   ·subst hi;simp only[Nat.beq_refl,cx,if_true]at e1 ⊢;exact hk .normal m1 D1 h1 w1 a1 _ ds1 X1 S1 e1
   ·rw[iQ hi];simp only[yG hi,cx]at e1;exact hk (.exit i) m1 D1 h1 w1 a1 cu ds1 X1 S1 e1
  |goto i=>exact hk (.goto i) m1 D1 h1 w1 a1 cu ds1 X1 S1 e1
  |ret=>exact hk .ret m1 D1 h1 w1 a1 cu ds1 X1 S1 e1
theorem qX2 {f n N:Nat} {rd:Option Nat} {x:Code} (hx:wk P N c f n rd x):wk P N c f n rd (.loop x):=by
 intro rc nn Q r pos pl tm h ds k m D w a S dF e hk;simp only[vS]at e;have oC:=J2 (q:=[0]) dF (s:=x) (by simp only[ze]);cases hL:sh pl with
 |none=>rw[hL]at e;cases e
 |some L=>
  simp only[hL,xv]at e;obtain⟨cw,e⟩:=e;refine wpIn_loop_rounds N ?_;have key:∀(j:Nat) (s:pR L) (h1:AH) (ds1:List Nat) (m1:Mp) (D1:Nat→Prop) (w1:World) (a1:Act),Ext m D h w m1 D1 h1 w1→St P m1 D1 h1 w1 n ds1 a1 (gn L s .e) rd rc→
    Xi (σ:=pR L) j (λih s h ds=>vS P N c f n rd x (pos++[0]) (mn pl) (gn L s .e) h ds λx tm' h ds=>match x with
     | .normal=>cx (xA tm' L) (ih (vr L tm') h ds) none |x=>k x tm' h ds) s h1 ds1=some r→
    Code.roundsIn (FW rc) nn P x Q j a1 w1:=by
   intro j
   induction j with
   |zero=>intro s h1 ds1 m1 D1 w1 a1 _ _ e1;cases e1
   |succ j ih=>
    intro s h1 ds1 m1 D1 w1 a1 X1 S1 e1;rw[roundsIn_succ];refine hx rc nn _ r (pos++[0]) (mn pl) _ h1 ds1 _ m1 D1 w1 a1 S1 oC e1 ?_;intro z m2 D2 h2 w2 a2 tH sB X2 S2 e2;cases z with
    |normal=>simp only[xv]at e2;obtain⟨Bo,e2⟩:=e2;exact ih _ h2 sB m2 D2 w2 a2 (X1.trans X2) (S2.join Bo) e2
    |exit i=>exact hk (.exit i) m2 D2 h2 w2 a2 tH sB (X1.trans X2) S2 e2
    |goto i=>exact hk (.goto i) m2 D2 h2 w2 a2 tH sB (X1.trans X2) S2 e2
    |ret=>exact hk .ret m2 D2 h2 w2 a2 tH sB (X1.trans X2) S2 e2
  exact key N _ h ds m D w a (Ext.refl ..) (S.join cw) e
end Go.Ae
namespace Go.Ae
open Go
variable {P:Program} {c:CV}
theorem qxr {F:Fence} {n:Nat} {Q:Exit→Act→World→Prop} {a:Act} {w:World} (x:AX) (h:Q (Bm x) a w):(gL x).wpIn F n P Q a w:=by
 cases x with
 |normal=>exact wpIn_skip h
 |exit i=>exact wpIn_exit h
 |goto l=>exact wpIn_goto h
 |ret=>exact wpIn_ret h
theorem qwL {x y:AX} (h:uN x y=true):x=y:=by
 cases x<;>cases y<;>simp only[uN,Bool.false_eq_true]at h ⊢ <;>exact congrArg _ (jf h)
theorem qZA {y:AX} {k:AX→R} {r:AV×AH}:∀{l:List AX},KU (some y) k l=some r→k y=some r:=by
 intro l
 induction l with
 |nil=>intro e;cases e
 |cons x l ih=>
  intro e;simp only[KU,uO]at e;cases hb:uN y x
  ·rw[hb]at e;exact ih e
  ·rw[hb]at e;have:=qwL hb;subst this;exact e
theorem qQu (L:List Nat) (tm:PT AV):(wX L tm).length=L.length:=by
 induction L with
 |nil=>rfl
 |cons t L ih=>simp[wX,ih]
theorem qK9 {m:Mp} {D:Nat→Prop} {n:Nat} {a:Act} {tm:PT AV} (T:dL m D n a tm):∀{L:List Nat},xA tm L=true→aW D (wX L tm)∧∀p∈L.zip (wX L tm),a.tmps[p.1]? =some (cv m p.2):=by
 intro L
 induction L with
 |nil=>intro _;exact⟨trivial,λp hp=>by cases hp⟩
 |cons t L ih=>
  intro h;simp only[xA,Bool.and_eq_true]at h;obtain⟨h1,h2⟩:=ih h.2;have h0:=h.1;unfold has at h0
  split at h0
  ·rename_i v hv;obtain⟨g1,g2⟩:=T.at_ t v hv;simp only[wX,hv,aW,List.zip_cons_cons,List.mem_cons];refine⟨⟨g2,h1⟩,?_⟩;rintro p (rfl |hp)
   ·exact g1
   ·exact h2 p hp
  ·cases h0
theorem Us (hc:xu P c) {f n nn:Nat} {rd rc:Option Nat} {g:Operand} {ps:Array Tmp} {assign body:Code} {Q:Exit→Act→World→Prop} {r:AV×AH} {pos:List Nat}
  {tm:PT AV} {h:AH} {ds:List Nat} {k:AX→PT AV→AH→List Nat→R} {m:Mp} {D:Nat→Prop} {w:World} {a:Act} (S:St P m D h w n ds a tm rd rc)
  (dF:∃fn bd,P.funcs[f]? =some fn∧fn.body=some bd∧fn.ntmps=n∧ze bd pos=some (.rangeFunc g ps assign body))
  {vf:AV} (sy:ev tm g=some vf) {L:List Nat} (cw:xA tm L=true)
  (hk:∀x m' D' h' w' a' tm' Bn,Ext m D h w m' D' h' w'→St P m' D' h' w' n Bn a' tm' rd rc→k x tm' h' Bn=some r→Q (Bm x) a' w')
  {d:Nat} {h1:AH} {ds1:List Nat} {m1:Mp} {D1:Nat→Prop} {w1:World} {mark:List Deferred}
  (X1:Ext m D h w m1 D1 h1 w1) (R1:Rel P m1 D1 h1 w1) (hd:D1 d) (n6:nB m1 D1 ds1 (mark++a.defers))
  (Lb:∀fn,(Instr.enterLoop fn a.tmps ps assign body rc).run P w=.ok (w1.heap.size,mark) (w1.alloc (.loop { state:=.ready,pending:=none,fn,tmps:=a.tmps,params:=ps,assign,body,defers:=(m1 d).1 })))
  (e:J9 c vf [.yield h1.nx] (h1.new (.loop .ready none f pos L (wX L tm) d)) (λ_ h2=>
    vY h2 h1.nx λp h3=>Xl p (k .normal tm h3 ds1) (KU p (λx=>k x tm h3 ds1) (Jf body [])))=some r) :
  (Code.rangeFunc g ps assign body).wpIn (FW rc) nn P Q a w:=by
 refine wpIn_rangeFunc ?_;intro fn _;obtain⟨fnn,bd,Lc,Ld,Le,hf4⟩:=dF;have T1:=S.tm.mono X1;obtain⟨l1,l2⟩:=qK9 T1 cw;obtain⟨o,ho⟩:∃o,o=Obj.loop { state:=.ready,pending:=none,fn,tmps:=a.tmps,params:=ps,assign,body,defers:=(m1 d).1 }:=⟨_,rfl⟩;have oK:cR P m1 (.loop .ready none f pos L (wX L tm) d) (w1.heap.size,0) (w1.alloc o):=by
  refine⟨fn,a.tmps,ps,g,assign,body,fnn,bd,?_,Lc,Ld,hf4,?_,(qQu L tm).symm,l2⟩
  ·rw[ho];exact World.alloc_heap_new _ _
  ·rw[Le];exact S.tm.size
 obtain⟨m2,D2,X2,R2,sC,EN⟩:∃(m2:Mp) (D2:Nat→Prop),Ext m1 D1 h1 w1 m2 D2 (h1.new (.loop .ready none f pos L (wX L tm) d)) (w1.alloc o)∧
   Rel P m2 D2 (h1.new (.loop .ready none f pos L (wX L tm) d)) (w1.alloc o)∧(m2 h1.nx).1=w1.heap.size∧D2 h1.nx:=by
  have hn:=R1.new (w0:=w1.alloc o) (.loop .ready none f pos L (wX L tm) d) o 0 rfl rfl rfl rfl ⟨l1,hd⟩ oK;exact⟨_,_,hn.1,hn.2,by simp,.inl rfl⟩
 generalize h1.new (.loop .ready none f pos L (wX L tm) d)=hh at*;unfold J9 at e
 split at e
 rotate_left
 ·cases e
 rename_i f0 first cap
 rw[QQ]at e
 split at e
 rotate_left
 ·cases e
 rename_i q hq;have T2:=T1.mono X2;obtain⟨v1,v2⟩:=T2.ev _ _ sy;have dv:=hc _ _ _ q hq m2 D2 (w1.alloc o) R2 v2 ⟨EN,trivial⟩;obtain⟨k1,k2⟩:=dv;simp only[cv]at v1;have hy:aS m2 [.yield h1.nx]=[.func (.yield w1.heap.size) #[] #[]]:=by simp[aS,cv,sC]
 refine⟨w1.heap.size,mark,w1.alloc o,{ target:=.fn (.func f0) (aS m2 cap).toArray,args:=(aS m2 first).toArray++ #[.func (.yield w1.heap.size) #[] #[]] },w1.alloc o,f0,
  (aS m2 (first++[.yield h1.nx]++cap)).toArray,w1.alloc o,?_,?_,λ_ _=>trivial,?_,(λhh=>by cases hh),?_⟩
 ·rw[ho];exact Lb fn
 ·unfold resolve rangeCall;simp only[v1];simp[Act.eval,go_sem]
 ·show(callFunc f0 ((aS m2 first).toArray++ #[.func (.yield w1.heap.size) #[] #[]]++(aS m2 cap).toArray)).run P _=_;have hy1:=hy;rw[k1,Xv,Xv,hy];simp
 ·refine CallsIn.mono (show CallsIn (FW rc) (nn-1) P f0 _ _ _ from k2 (nn-1)) ?_;rintro ee w3 ⟨m3,D3,rfl,X3,R3,hd3⟩
  replace e:vY q.2 h1.nx (λp h3=>Xl p (k .normal tm h3 ds1) (KU p (λx=>k x tm h3 ds1) (Jf body [])))=some r:=e
  unfold vY at e
  split at e
  rotate_left
  ·cases e
  rename_i st bQ f' pos' L' Bp d' cJ;have lx:D3 h1.nx:=X3.oz _ EN;obtain⟨x3,Lf,hr3,EO⟩:=R3.bp _ lx;rw[cJ]at Lf;cases Lf;obtain⟨fq,tq,pq,gq,aq,bq,Lg,Lh,lL,q1,q2,q3,q4,q5,q6⟩:=hr3;have sD:(m3 h1.nx).1=w1.heap.size:=by rw[X3.map _ EN];exact sC
  rw[sD]at lL;have cC:st≠.busy:=by intro hs;subst hs;cases e
  have e':Xl bQ (k .normal tm (q.2.put h1.nx (.loop .exhausted bQ f' pos' L' Bp d')) ds1) (KU bQ (λx=>k x tm (q.2.put h1.nx (.loop .exhausted bQ f' pos' L' Bp d')) ds1) (Jf body []))=some r:=by
   cases st<;>first |exact e |exact absurd rfl cC
  clear e;have bx:=(Array.getElem?_eq_some_iff.1 lL).1;obtain⟨X4,R4⟩:=R3.put (w0:=w3.putObj w1.heap.size (.loop { state:=.exhausted,pending:=bQ.map gL,fn:=fq,tmps:=tq,params:=pq,assign:=aq,body:=bq,defers:=(m3 d').1 })) h1.nx (.loop .exhausted bQ f' pos' L' Bp d') lx
   ⟨_,cJ,trivial⟩ aN (λcc rB=>World.putObj_heap_other (by rw[sD]at rB;exact rB)) rfl rfl rfl EO
   ⟨fq,tq,pq,gq,aq,bq,Lg,Lh,by rw[sD];exact World.putObj_heap_same bx,q1,q2,q3,q4,q5,q6⟩
  refine⟨bQ.map gL,_,run_endLoop lL cC,?_⟩;have XX:=((X1.trans X2).trans X3).trans X4;have SS:St P m3 D3 (q.2.put h1.nx (.loop .exhausted bQ f' pos' L' Bp d')) (w3.putObj w1.heap.size (.loop { state:=.exhausted,pending:=bQ.map gL,fn:=fq,tmps:=tq,params:=pq,assign:=aq,body:=bq,defers:=(m3 d').1 })) n ds1
    { a with defers:=mark++a.defers } tm rd rc:=⟨R4,⟨(T2.mono (X3.trans X4)).size,(T2.mono (X3.trans X4)).at_⟩,((n6.mono X2).mono X3).mono X4,S.rd.mono XX⟩
  cases bQ with
  |none=>exact hk .normal _ _ _ _ _ _ _ XX SS e'
  |some y=>exact qxr y (hk y _ _ _ _ _ _ _ XX SS (qZA e'))
theorem qJU (hc:xu P c) {f n N:Nat} {rd:Option Nat} {g:Operand} {ps:Array Tmp} {assign body:Code}:wk P N c f n rd (.rangeFunc g ps assign body):=by
 intro rc nn Q r pos pl tm h ds k m D w a S dF e hk;simp only[vS,qC]at e;obtain⟨vf,sy,e⟩:=e;cases hL:sh pl with
 |none=>rw[hL]at e;cases e
 |some L=>
  simp only[hL,xv]at e;obtain⟨cw,e⟩:=e;cases rd with
  |none=>
   have Dn:=S.rd;simp only[oJ]at Dn;subst Dn;have hn:=S.rel.new (w0:=w.alloc (.deferred (some []))) .hZ (.deferred (some [])) 0 rfl rfl rfl rfl trivial (World.alloc_heap_new _ _);obtain⟨X,R⟩:=hn;refine Us hc S dF sy cw hk X R (d:=h.nx) (.inl rfl) (ds1:=h.nx::ds) (mark:=[Gm w.heap.size]) ?_ ?_ e
   ·have:=S.df.mono X;refine⟨λb hb=>?_,?_⟩
    ·rcases List.mem_cons.1 hb with rfl |hb
     ·exact .inl rfl
     ·exact this.1 b hb
    ·rw[this.2];simp[Gm]
   ·intro fn;simpa[Gm]using run_enterLoop_outer fn a.tmps ps assign body
  |some l0=>
   obtain⟨my,Dn⟩:=S.rd;subst Dn;unfold Nb at e;simp only at e
   split at e
   rotate_left
   ·cases e
   rename_i st bQ f' pos' L' Bp d cJ;obtain⟨x,hx,lH,n8⟩:=S.rel.bp _ my;rw[cJ]at hx;cases hx;obtain⟨fq,tq,pq,gq,aq,bq,Lg,Lh,lL,_⟩:=lH;refine Us hc S dF sy cw hk (Ext.refl ..) S.rel (d:=d) n8.2 (ds1:=ds) (mark:=[]) S.df ?_ e;intro fn;exact run_enterLoop_inner lL fn a.tmps ps assign body
theorem NF (hc:xu P c) (hd:Ur P c) (N f n:Nat) (rd:Option Nat) (code:Code):wk P N c f n rd code:=by
 induction code with
 |skip=>intro rc nn Q r pos pl tm h ds k m D w a S _ e hk;exact wpIn_skip (hk .normal m D h w a tm ds (Ext.refl ..) S e)
 |region id ops d=>exact Zp hc hd
 |seq x y hx hy=>exact qjO hx hy
 |cond o x y hx hy=>exact qKh hx hy
 |block id x hx=>exact qQP hx
 |loop x hx=>exact qX2 hx
 |exit id=>intro rc nn Q r pos pl tm h ds k m D w a S _ e hk;exact wpIn_exit (hk (.exit id) m D h w a tm ds (Ext.refl ..) S e)
 |label l=>intro rc nn Q r pos pl tm h ds k m D w a S _ e hk;exact wpIn_label (hk .normal m D h w a tm ds (Ext.refl ..) S e)
 |goto l=>intro rc nn Q r pos pl tm h ds k m D w a S _ e hk;exact wpIn_goto (hk (.goto l) m D h w a tm ds (Ext.refl ..) S e)
 |ret=>intro rc nn Q r pos pl tm h ds k m D w a S _ e hk;exact wpIn_ret (hk .ret m D h w a tm ds (Ext.refl ..) S e)
 |rangeFunc g ps x y hx hy=>exact qJU hc
 |_=>intro rc nn Q r pos pl tm h ds k m D w a S _ e hk;cases e
end Go.Ae
namespace Go.Ae
open Go
variable {P:Program} {c:CV} {m:Mp} {D:Nat→Prop} {h h':AH} {w:World}
def J3 (tmps:Array Value):ResultVar→Sem Value
 | .tmp t=>pure (tmps.getD t undef)
 | .cell a t=>do loadVar t (← asAddr (tmps.getD a undef))
theorem qXu (RR:Rel P m D h w) {t:TypeId} {v:AV} (hd:bm D v) (hi:wL P t=some none) {k:AV→R} {r:AV×AH} (e:jj h v k=some r) :
  ∃z,k z=some r∧bm D z∧(do loadVar t (← asAddr (cv m v)):Sem Value).run P w=.ok (cv m z) w:=by
 rcases wA hi with⟨_,lr⟩ |⟨n,hn,_,_⟩
 rotate_left
 ·cases hn
 simp only[y7]at e
 split at e
 ·rename_i b off
  split at e
  ·rename_i cs t' op' hg;simp only[qC]at e;obtain⟨z,hz,e⟩:=e;obtain⟨z1,z2⟩:=RR.sq hd hg hz;refine⟨z,e,z2,?_⟩;simp only[cv];rw[qY (show(asAddr (.pointer (some ⟨(m b).1,off,none⟩))).run P w=.ok ⟨(m b).1,off,none⟩ w from rfl)];unfold loadVar;rw[qY (vi lr)];exact z1
  ·rename_i ti hg;simp only[qC]at e;obtain⟨z,hz,e⟩:=e;obtain⟨z1,z2⟩:=RR.oB hd hg hz;refine⟨z,e,z2,?_⟩;simp only[cv];rw[qY (show(asAddr (.pointer (some ⟨(m b).1,off,none⟩))).run P w=.ok ⟨(m b).1,off,none⟩ w from rfl)];unfold loadVar;rw[qY (vi lr)];exact z1
  ·cases e
 ·cases e
theorem qKf (RR:Rel P m D h w) {t:TypeId} {v:AV} {n:Nat} (hd:bm D v) (hi:wL P t=some (some n)) {k:AV→R} {r:AV×AH} (e:zi h v n k=some r) :
  ∃z,k z=some r∧bm D z∧(do loadVar t (← asAddr (cv m v)):Sem Value).run P w=.ok (cv m z) w:=by
 rcases wA hi with⟨hn,_⟩ |⟨n',hn,lr,bx⟩
 ·cases hn
 cases hn;simp only[wz]at e
 split at e
 ·rename_i b off;simp only[qC]at e;obtain⟨z,hz,e⟩:=e;obtain⟨z1,z2,z3⟩:=RR.read hd hz;refine⟨.agg z,e,z2,?_⟩;simp only[cv];rw[qY (show(asAddr (.pointer (some ⟨(m b).1,off,none⟩))).run P w=.ok ⟨(m b).1,off,none⟩ w from rfl)];unfold loadVar;rw[qY (vi lr)];simp only[if_true];rw[qY (run_sizeOf bx),qY z1];rfl
 ·cases e
theorem qgo (RR:Rel P m D h w) {n:Nat} {a:Act} {tm:PT AV} (T:dL m D n a tm) {r:AV×AH}:∀(l:List ResultVar) (k:List AV→R),K4 P tm h l k=some r→
  ∃vs,k vs=some r∧aW D vs∧(l.mapM (J3 a.tmps)).run P w=.ok (aS m vs) w:=by
 intro l
 induction l with
 |nil=>intro k e;exact⟨[],e,trivial,by rw[List.mapM_nil];rfl⟩
 |cons x l ih=>
  intro k e;cases x with
  |tmp t=>
   simp only[K4,qC]at e;obtain⟨v,hv,e⟩:=e;obtain⟨vs,e1,e2,e3⟩:=ih _ e;obtain⟨h1,h2⟩:=T.at_ t v hv;refine⟨v::vs,e1,⟨h2,e2⟩,?_⟩;rw[List.mapM_cons];have:(J3 a.tmps (.tmp t)).run P w=.ok (cv m v) w:=by simp only[J3,Array.getD_eq_getD_getElem?,h1,Option.getD_some];rfl
   rw[qY this,qY e3];rfl
  |cell x t=>
   simp only[K4,qC]at e;obtain⟨v,hv,i,hi,e⟩:=e;obtain⟨h1,h2⟩:=T.at_ x v hv;have key:∃z,K4 P tm h l (λl=>k (z::l))=some r∧bm D z∧(J3 a.tmps (.cell x t)).run P w=.ok (cv m z) w:=by
    simp only[J3,Array.getD_eq_getD_getElem?,h1,Option.getD_some];cases i with
    |none=>exact qXu RR h2 hi e
    |some n=>exact qKf RR h2 hi e
   obtain⟨z,e,z1,z2⟩:=key;obtain⟨vs,e1,e2,e3⟩:=ih _ e;refine⟨z::vs,e1,⟨z1,e2⟩,?_⟩;rw[List.mapM_cons,qY z2,qY e3];rfl
theorem qwm (m:Mp) (l:List AV):(if h:(aS m l).toArray.size=1 then(aS m l).toArray[0]else .tuple (aS m l).toArray)=cv m (ig l):=by
 match l with
 |[]=>simp[ig,aS,cv]
 |[v]=>simp[ig,aS]
 |v::u::l=>simp[ig,aS,cv]
theorem qJF (RR:Rel P m D h w) {fn:Func} {n:Nat} {a:Act} {tm:PT AV} (T:dL m D n a tm) {r:AV×AH} (e:K4 P tm h fn.results.toList (λl=>some (ig l,h))=some r) :
  ∃v,r=(v,h)∧bm D v∧(results fn a.tmps).run P w=.ok (cv m v) w:=by
 obtain⟨vs,e1,e2,e3⟩:=qgo RR T _ _ e;simp only[Option.some.injEq]at e1;refine⟨ig vs,e1.symm,?_,?_⟩
 ·unfold ig
  split
  ·exact e2.1
  ·exact e2
 ·have hm:(fn.results.mapM (J3 a.tmps)).run P w=.ok (aS m vs).toArray w:=by
   rw[Array.mapM_eq_mapM_toList];show((fn.results.toList.mapM (J3 a.tmps))>>=λl=>pure l.toArray).run P w=_;rw[qY e3];rfl
  show((fn.results.mapM (J3 a.tmps))>>=λvs=>pure (if h:vs.size=1 then vs[0]else .tuple vs)).run P w=_;rw[qY hm];show Result.ok _ w=_;rw[qwm]
end Go.Ae
namespace Go.Ae
open Go
variable {P:Program} {c:CV} {m:Mp} {D:Nat→Prop} {h h':AH} {w:World}
theorem Zx {fn:Func} {a:Act} {tm:PT AV} {m0:Mp} {D0:Nat→Prop} {h0:AH} {w0:World} {r:AV×AH} {nn n:Nat} :
  ∀(ds:List Nat) (l:List Deferred) (m:Mp) (D:Nat→Prop) (h:AH) (w:World),Rel P m D h w→Ext m0 D0 h0 w0 m D h w→dL m D n a tm→nB m D ds l→
   zl ds h (λh'=>K4 P tm h' fn.results.toList λl=>some (ig l,h'))=some r→
   LeavesInM Fence.wide nn P fn a.tmps (kR P m0 D0 h0 w0 r) l .returning w:=by
 intro ds
 induction ds with
 |nil=>
  intro l m D h w RR X T df e;have:l=[]:=by rw[df.2];rfl
  subst this;obtain⟨v,rfl,v1,v2⟩:=qJF RR T e;exact⟨cv m v,v2,m,D,rfl,X,RR,v1⟩
 |cons d ds ih=>
  intro l m D h w RR X T df e;have hl:l=Gm (m d).1::ds.map (λd=>Gm (m d).1):=df.2;subst hl;have hd:=df.1 d (iK ..);simp only[zl]at e
  split at e
  rotate_left
  ·cases e
  rename_i hg;obtain⟨x,hx,lH,n8⟩:=RR.bp d hd;rw[hg]at hx;cases hx;have hb:w.heap[(m d).1]? =some (.deferred (some [])):=lH;have bx:=(Array.getElem?_eq_some_iff.1 hb).1;obtain⟨X2,R2⟩:=RR.put (w0:=w.putObj (m d).1 (.deferred none)) d .np hd ⟨_,hg,trivial⟩ aN (λc hc=>World.putObj_heap_other hc) rfl rfl rfl trivial
   ⟨_,World.putObj_heap_same bx⟩
  refine⟨by simp,.inl ⟨(m d).1,_,rfl,run_takeDeferred hb,?_⟩⟩;exact ih _ m D _ _ R2 (X.trans X2) (T.mono X2) ⟨λb hb=>df.1 b (iX _ hb),rfl⟩ e
theorem qWE:∀(l:List AV) (i:Nat) (t:PT AV) (j:Nat),(uP l i t).get j=if i≤j∧j<i+l.length then l[j-i]? else t.get j:=by
 intro l
 induction l with
 |nil=>intro i t j;simp only[uP,List.length_nil];rw[iQ omQ]
 |cons a l ih=>
  intro i t j;simp only[uP,ih,List.length_cons];by_cases h1:i+1≤j∧j<i+1+l.length
  ·rw[iJ h1,iJ omQ,show j-i=(j-(i+1))+1 by omega];simp
  ·rw[iQ h1,PT.bF];by_cases h2:i=j
   ·subst h2;rw[iJ rfl,iJ omQ];simp
   ·rw[iQ h2,iQ omQ]
theorem qzA (hc:xu P c) (hd:Ur P c) {N:Nat} {pl:Pl} {f:FuncId} {args:List AV} {r:AV×AH} (e:z8 P N pl c f args h=some r) (RR:Rel P m D h w) (ha:aW D args) (nn:Nat) :
  CallsIn Fence.wide nn P f (aS m args).toArray w (kR P m D h w r):=by
 simp only[z8,qC]at e;obtain⟨fn,hf,b,hb,e⟩:=e;refine callsIn_of_wp_marks hf hb trivial ?_;have T:dL m D fn.ntmps { tmps:=(aS m args).toArray++Array.replicate (fn.ntmps-(aS m args).toArray.size) undef,defers:=[] } (uP args 0 .e):=by
  refine⟨by simp;omega,?_⟩;intro t v hv;rw[qWE]at hv
  split at hv
  ·rename_i ht;simp only[Nat.sub_zero]at hv;have hm:=List.mem_of_getElem? hv;refine⟨?_,(xx D args).1 ha v hm⟩;have au:t<args.length:=by omega
   simp only[];rw[Array.getElem?_append_left (by simp;omega)];simp only[List.getElem?_toArray,zN,List.getElem?_map,hv,Option.map_some]
  ·rw[PT.eo]at hv;cases hv
 refine NF hc hd N f fn.ntmps none b none nn _ r [] pl _ h [] _ m D w _ ⟨RR,T,⟨λb hb=>(by cases hb),rfl⟩,rfl⟩ ⟨fn,b,hf,hb,rfl,by simp[ze]⟩ e ?_;intro x m1 D1 h1 w1 a1 cu ds1 X1 S1 e1;cases x with
 |normal=>exact Zx ds1 _ m1 D1 h1 w1 S1.rel X1 S1.tm S1.df e1
 |ret=>exact Zx ds1 _ m1 D1 h1 w1 S1.rel X1 S1.tm S1.df e1
 |exit i=>cases e1
 |goto l=>cases e1
theorem qxT {m:Mp} {D:Nat→Prop} {n:Nat} {a:Act} {k:PT AV→R} {r:AV×AH}:∀(L:List Nat) (vs:List AV) (t:PT AV),dL m D n a t→(∀p∈L.zip vs,a.tmps[p.1]? =some (cv m p.2))→aW D vs→
  rk L vs t k=some r→∃t',k t'=some r∧dL m D n a t':=by
 intro L
 induction L with
 |nil=>
  intro vs t T hz hd e;cases vs with
  |nil=>exact⟨t,e,T⟩
  |cons v vs=>cases e
 |cons x L ih=>
  intro vs t T hz hd e;cases vs with
  |nil=>cases e
  |cons v vs=>
   simp only[rk]at e;refine ih vs _ ?_ (λp hp=>hz p (iX _ hp)) hd.2 e;refine⟨T.size,?_⟩;intro s u hs;rw[PT.bF]at hs;by_cases hx:x=s
   ·subst hx;rw[iJ rfl]at hs;cases hs;exact⟨hz (x,v) (iK ..),hd.1⟩
   ·rw[iQ hx]at hs;exact T.at_ s u hs
theorem qqN {m:Mp} {D:Nat→Prop} {n:Nat} {k:PT AV→R} {r:AV×AH}:∀(ps:List Tmp) (vs:List AV) (t:PT AV) (tmps:Array Value),dL m D n { tmps,defers:=[] } t→aW D vs→
  Dd ps vs n t k=some r→ps.length=vs.length∧∃t',k t'=some r∧dL m D n { tmps:=(ps.zip (aS m vs)).foldl (λtmps (p:Tmp×Value)=>tmps.setIfInBounds p.1 p.2) tmps,defers:=[] } t':=by
 intro ps
 induction ps with
 |nil=>
  intro vs t tmps T hd e;cases vs with
  |nil=>exact⟨rfl,t,e,T⟩
  |cons v vs=>cases e
 |cons p ps ih=>
  intro vs t tmps T hd e;cases vs with
  |nil=>cases e
  |cons v vs=>
   simp only[Dd,xv]at e;obtain⟨hp,e⟩:=e;have hp:=jh hp;have T':dL m D n { tmps:=tmps.setIfInBounds p (cv m v),defers:=[] } (t.set p v):=by
    refine⟨by simpa using T.size,?_⟩;intro s u hs;rw[PT.bF]at hs;by_cases hx:p=s
    ·subst hx;rw[iJ rfl]at hs;cases hs;have:=T.size;simp only[]at this;refine⟨?_,hd.1⟩;simp[Array.getElem?_setIfInBounds_self];omega
    ·rw[iQ hx]at hs;obtain⟨h1,h2⟩:=T.at_ s u hs;exact⟨by simp[Array.getElem?_setIfInBounds_ne hx];exact h1,h2⟩
   obtain⟨h1,t',h2,h3⟩:=ih vs _ _ T' hd.2 e;exact⟨by simp[h1],t',h2,h3⟩
end Go.Ae
namespace Go.Ae
open Go
variable {P:Program} {c:CV} {m:Mp} {D:Nat→Prop} {h h':AH} {w:World}
theorem NW {m0:Mp} {D0:Nat→Prop} {h0:AH} {w0:World} {r:AV×AH} {l:Nat} {lc:Nat} {rd rc:Option Nat} {n:Nat} {ds:List Nat} {a:Act} {tm:PT AV} {j:Option AX}
  (S:St P m D h w n ds a tm rd rc) (X:Ext m0 D0 h0 w0 m D h w) (hl:D l) (EP:(m l).1=lc) (e:xL h l j=some r) :
  ∃v w',(Instr.endRound lc (j.map gL)).run P w=.ok v w'∧kR P m0 D0 h0 w0 r (.returned v) w':=by
 subst EP;unfold xL at e
 split at e
 rotate_left
 ·cases e
 rename_i st bQ f p L vs d hg;obtain⟨x,hx,lH,n8⟩:=S.rel.bp l hl;rw[hg]at hx;cases hx;obtain⟨f',tmps,ps,g,assign,body,fn,bd,q1,q2,q3,q4,q5,q6,q7⟩:=lH;have bx:=(Array.getElem?_eq_some_iff.1 q1).1;have he:=run_endRound (P:=P) (j.map gL) q1;refine⟨_,_,he,?_⟩;cases j with
 |none=>
  simp only[Option.some.injEq]at e;obtain⟨X2,R2⟩:=S.rel.put (w0:=w.putObj (m l).1 (.loop { state:=.ready,pending:=none,fn:=f',tmps:=tmps,params:=ps,assign:=assign,body:=body,defers:=(m d).1 })) l
   (.loop .ready none f p L vs d) hl ⟨_,hg,trivial⟩ aN (λc hc=>World.putObj_heap_other hc) rfl rfl rfl n8
   ⟨f',tmps,ps,g,assign,body,fn,bd,World.putObj_heap_same bx,q2,q3,q4,q5,q6,q7⟩
  subst e;exact⟨m,D,rfl,X.trans X2,R2,trivial⟩
 |some y=>
  simp only[Option.some.injEq]at e;obtain⟨X2,R2⟩:=S.rel.put (w0:=w.putObj (m l).1 (.loop { state:=.done,pending:=some (gL y),fn:=f',tmps:=tmps,params:=ps,assign:=assign,body:=body,defers:=(m d).1 })) l
   (.loop .done (some y) f p L vs d) hl ⟨_,hg,trivial⟩ aN (λc hc=>World.putObj_heap_other hc) rfl rfl rfl n8
   ⟨f',tmps,ps,g,assign,body,fn,bd,World.putObj_heap_same bx,q2,q3,q4,q5,q6,q7⟩
  subst e;exact⟨m,D,rfl,X.trans X2,R2,trivial⟩
theorem qW3 (hc:xu P c) (hd:Ur P c) {N:Nat} {pl:Pl} {f:FuncId} {pos L:List Nat} {l:Nat} {vs args:List AV} {r:AV×AH} {st:LoopState} {bQ:Option AX} {d:Nat}
  (hg:h.get l=some (.loop st bQ f pos L vs d)) (e:VW P N pl c f pos L l vs args h=some r) (RR:Rel P m D h w) (hl:D l) (ha:aW D args):Ns P m D h w args r (.yield l):=by
 obtain⟨x,hx,lH,n8⟩:=RR.bp l hl;rw[hg]at hx;cases hx;obtain⟨f',tmps,ps,g,assign,body,fn,bd,q1,q2,q3,q4,q5,q6,q7⟩:=lH;simp only[VW,qC]at e;obtain⟨Dp,Li,EQ,bB,s,hs,e⟩:=e;rw[q2]at Li;cases Li;rw[q3]at bB;cases bB;rw[q4]at hs;cases hs;simp only[]at e;have T0:dL m D fn.ntmps { tmps:=tmps,defers:=[] } .e:=⟨q5,λt v hv=>by rw[PT.eo]at hv;cases hv⟩;obtain⟨Eh,e,T1⟩:=qxT L vs .e T0 q7 n8.1 e;obtain⟨hlen,cu,e,T2⟩:=qqN ps.toList args Eh tmps T1 ha e;have bx:(aS m args).toArray.size=ps.size:=by simp only[List.size_toArray,dK];rw[← hlen];simp
 have hy:=run_yield (P:=P) (args:=(aS m args).toArray) q1 bx;refine⟨f',_,assign,body,hy,?_⟩;intro nn;have Bq:(ps.zip (aS m args).toArray).foldl (λtmps (x:Tmp×Value)=>tmps.setIfInBounds x.1 x.2) tmps=(ps.toList.zip (aS m args)).foldl (λtmps (x:Tmp×Value)=>tmps.setIfInBounds x.1 x.2) tmps:=by rw[← Array.foldl_toList,Array.toList_zip]
 refine roundIn_of_wpIn trivial ?_;simp only[];have tI:(ps.zip (aS m args).toArray).foldl (λtmps (x:Tmp×Value)=>match x with |(t,a)=>tmps.setIfInBounds t a) tmps=(ps.toList.zip (aS m args)).foldl (λtmps (x:Tmp×Value)=>tmps.setIfInBounds x.1 x.2) tmps:=Bq;rw[tI];have dF:∃Dp EQ,P.funcs[f]? =some Dp∧Dp.body=some EQ∧Dp.ntmps=fn.ntmps∧ze EQ pos=some (.rangeFunc g ps assign body):=⟨fn,bd,q2,q3,rfl,q4⟩;have ER:=J2 (q:=[0]) dF (s:=assign) (by simp only[ze];rfl);have ET:=J2 (q:=[1]) dF (s:=body) (by simp only[ze];rfl);refine NF hc hd N f fn.ntmps (some l) assign (some (m l).1) nn _ r (pos++[0]) (mn pl) _ h [] _ m D w _ ⟨RR,T2,⟨λb hb=>(by cases hb),rfl⟩,⟨hl,rfl⟩⟩ ER e ?_;intro x m1 D1 h1 w1 a1 cu ds1 X1 S1 e1;cases x with
 |exit i=>cases e1
 |goto i=>cases e1
 |ret=>cases e1
 |normal=>
  simp only[]at e1;unfold Jr at e1
  split at e1
  rotate_left
  ·cases e1
  rename_i sE f1 EU L1 vs1 d1 tJ;have pT:=X1.oz l hl;have ly:(m1 l).1=(m l).1:=by rw[X1.map l hl]
  obtain⟨x,hx,lH,EV⟩:=S1.rel.bp l pT;rw[tJ]at hx;cases hx;obtain⟨f2,sF,Lj,g2,mU,sG,fn2,bd2,p1,p2,p3,p4,p5,p6,p7⟩:=lH;rw[ly]at p1;have EW:=(Array.getElem?_eq_some_iff.1 p1).1;refine⟨_,run_beginRound p1 rfl,?_⟩;obtain⟨X2,R2⟩:=S1.rel.put (w0:=w1.putObj (m l).1 (.loop { state:=.busy,pending:=sE.map gL,fn:=f2,tmps:=sF,params:=Lj,assign:=mU,body:=sG,defers:=(m1 d1).1 })) l
   (.loop .busy sE f1 EU L1 vs1 d1) pT ⟨_,tJ,trivial⟩ aN (λc hc=>World.putObj_heap_other (by rw[ly]at hc;exact hc)) rfl rfl rfl EV
   ⟨f2,sF,Lj,g2,mU,sG,fn2,bd2,by rw[ly];exact World.putObj_heap_same EW,p2,p3,p4,p5,p6,p7⟩
  refine NF hc hd N f fn.ntmps (some l) body (some (m l).1) nn _ r (pos++[1]) (sg pl) _ _ ds1 _ m1 D1 _ _ ⟨R2,S1.tm.mono X2,S1.df.mono X2,S1.rd.mono X2⟩ ET e1 ?_;intro y m3 D3 h3 w3 a3 tm3 ds3 X3 S3 e3;have XX:=(X1.trans X2).trans X3;have Dq:=XX.oz l hl;have sD:(m3 l).1=(m l).1:=by rw[XX.map l hl]
  cases y with
  |normal=>exact NW S3 XX Dq sD e3
  |exit i=>exact NW (j:=some (.exit i)) S3 XX Dq sD e3
  |goto i=>exact NW (j:=some (.goto i)) S3 XX Dq sD e3
  |ret=>exact NW (j:=some .ret) S3 XX Dq sD e3
def nC (P:Program) (f:Nat) (w:WF):Prop:=∀c l h r,w c l h=some r→∀m D W,Rel P m D h W→aW D l→∀n,CallsIn Fence.wide n P f (aS m l).toArray W (kR P m D h W r)
def WX (P:Program) (f:Nat) (w:WF):Prop:=fc P f w∨nC P f w
structure TabOk (P:Program) (tab:BT) (rt:List RT):Prop where
  w:∀f g,tab.get f=some g→WX P f g
  enter:∀f g,tab.get f=some g→∀(as:Array Value) (W:World),(callFunc f as).run P W=.ok (.enter f as) W
  r:∀p∈rt,AO P p.f p.pos p.L p.run
theorem ZZ:∀{a b:List Nat},YC a b=true→a=b:=by
 intro a
 induction a with
 |nil=>intro b h;cases b<;>first |rfl |cases h
 |cons x a ih=>
  intro b h;cases b with
  |nil=>cases h
  |cons y b=>simp only[YC,Bool.and_eq_true]at h;rw[jf h.1,ih h.2]
theorem Zq:∀{rt:List RT} {f:Nat} {pos L:List Nat} {g:VF},X6 rt f pos L=some g→∃p∈rt,p.f=f∧p.pos=pos∧p.L=L∧p.run=g:=by
 intro rt
 induction rt with
 |nil=>intro f pos L g h;cases h
 |cons x rt ih=>
  intro f pos L g h;simp only[X6]at h;cases hb:Nat.beq x.f f&&(YC x.pos pos&&YC x.L L)
  ·rw[hb]at h;obtain⟨p,hp,hh⟩:=ih h;exact⟨p,iX _ hp,hh⟩
  ·rw[hb]at h;simp only[Bool.and_eq_true]at hb;simp only[cond_true,Option.some.injEq]at h;exact⟨x,iK ..,jf hb.1,ZZ hb.2.1,ZZ hb.2.2,h⟩
theorem WX.call {f:Nat} {g:WF} {args:List AV} {r:AV×AH} (x:WX P f g) (hc:xu P c) (hd:Ur P c) (e:g c args h=some r) (RR:Rel P m D h w) (ha:aW D args) (n:Nat):CallsIn Fence.wide n P f (aS m args).toArray w (kR P m D h w r):=by
 rcases x with x |x
 ·obtain⟨pl,e⟩:=x _ _ _ _ e;exact qzA hc hd e RR ha n
 ·exact x _ _ _ _ e m D w RR ha n
theorem qG6 {tab:BT} {rt:List RT} (ht:TabOk P tab rt) (hd:∀c,xu P c→Ur P c):∀k,xu P (callT tab rt k):=by
 intro k
 induction k with
 |zero=>intro vf args h r e;cases e
 |succ k ih=>
  intro vf args h r e m D w RR hv ha;cases vf with
  |fn f first cap=>
   have e:Option.rec (motive:=λ_=>R) none (λg=>g (callT tab rt k) (first++args++cap) h) (BT.get tab f)=some r:=e;cases hg:BT.get tab f with
   |some g=>rw[hg]at e;refine⟨ht.enter f g hg,λn=>(ht.w f g hg).call ih (hd _ ih) e RR ?_ n⟩;exact yp.2 ⟨yp.2 ⟨hv.1,ha⟩,hv.2⟩
   |none=>rw[hg]at e;cases e
  |yield l=>
   have e:(match h.get l with
    |some (.loop .ready _ f pos L vs _)=>(match X6 rt f pos L with |some g=>g (callT tab rt k) l vs args h |none=>none)
    |_=>none)=some r:=e
   split at e
   ·rename_i bQ f pos L vs d hg
    split at e
    ·rename_i g hgr;obtain⟨p,hp,rfl,rfl,rfl,rfl⟩:=Zq hgr;obtain⟨pl,e⟩:=ht.r p hp _ _ _ _ _ _ e;exact qW3 ih (hd _ ih) hg e RR hv ha
    ·cases e
   ·cases e
  |_=>cases e
end Go.Ae
