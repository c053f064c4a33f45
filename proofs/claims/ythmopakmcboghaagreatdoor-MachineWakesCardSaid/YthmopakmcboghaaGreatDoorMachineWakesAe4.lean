/- The abstract executor of the program's form in Lean, shown sound: operations one behind the other; code; functions; rounds; tables. -/
import Derived.Test.YthmopakmcboghaaGreatDoorMachineWakesAe3
import Derived.LoopNIn
import Derived.RangeFuncRecord
import Derived.RangeFuncNested
namespace Go.Ae
open Go
variable {P:Program} {c:CV}
abbrev ch (x:R) (k:AV→AH→R):R:=x.bind λq=>k q.1 q.2
theorem q8 {α:Type} {x:Option α} {f:α→R} {k:AV→AH→R}:ch (ob x f) k=ob x λa=>ch (f a) k:=by cases x<;>rfl
theorem Qx {b:Bool} {x y:R} {k:AV→AH→R}:ch (cj b x y) k=cj b (ch x k) (ch y k):=by cases b<;>rfl
theorem jV {b:Bool} {x y:R} {k:AV→AH→R}:ch (bif b then x else y) k=bif b then ch x k else ch y k:=by cases b<;>rfl
theorem zR {k:AV→AH→R}:ch none k=none:=rfl
theorem je {v:AV} {h:AH} {k:AV→AH→R}:ch (some (v,h)) k=k v h:=rfl
theorem qP {α:Type} {x:Option α} {f g:α→R} (h:∀a,f a=g a):ob x f=ob x g:=by cases x<;>simp only[ob,h]
theorem qo {b:Bool} {x y x' y':R} (h:x=x') (h':y=y'):(bif b then x else y)=(bif b then x' else y'):=by rw[h,h']
theorem qgB (a b d:AV) (h:AH) (k:AV→AH→R):ch (kV a b d λz=>some (z,h)) k=kV a b d λz=>k z h:=by simp only[N9];repeat' (first |rfl |(simp only[Qx,je];done) |(rw[q8];refine qP λ_=>?_) |(rw[jV];refine qo ?_ ?_) |split)
theorem A8 (a:AV) (h:AH) (k:AV→AH→R):ch (xM a λz=>some (z,h)) k=xM a λz=>k z h:=by unfold xM;repeat' (first |rfl |(simp only[];done) |(rw[q8];refine qP λ_=>?_) |(rw[jV];refine qo ?_ ?_) |split)
theorem qGc (a:AV) (n:Nat) (h:AH) (k:AV→AH→R):ch (qn a n λz=>some (z,h)) k=qn a n λz=>k z h:=by simp only[Uy];repeat' (first |rfl |(simp only[];done) |(rw[q8];refine qP λ_=>?_) |(rw[jV];refine qo ?_ ?_) |split)
theorem qxH (a:AV) (n:Nat) (h:AH) (k:AV→AH→R):ch (Y9 a n λz=>some (z,h)) k=Y9 a n λz=>k z h:=by simp only[Mj];repeat' (first |rfl |(simp only[q8,je];done) |(rw[q8];refine qP λ_=>?_) |(rw[jV];refine qo ?_ ?_) |split)
theorem qzf (a:AV) (n m:Nat) (h:AH) (k:AV→AH→R):ch (YJ a n m λz=>some (z,h)) k=YJ a n m λz=>k z h:=by unfold YJ;repeat' (first |rfl |(simp only[q8,je];done) |(rw[q8];refine qP λ_=>?_) |(rw[jV];refine qo ?_ ?_) |split)
theorem qk4 (a b:AV) (n:Nat) (h:AH) (k:AV→AH→R):ch (vt a b n λz=>some (z,h)) k=vt a b n λz=>k z h:=by simp only[Kw];repeat' (first |rfl |(simp only[jV,zR,je];done) |(rw[q8];refine qP λ_=>?_) |(rw[jV];refine qo ?_ ?_) |split)
theorem qk5 (a b:AV) (n m:Nat) (h:AH) (k:AV→AH→R):ch (QJ a b n m λz=>some (z,h)) k=QJ a b n m λz=>k z h:=by unfold QJ;repeat' (first |rfl |(simp only[jV,zR,je];done) |(rw[q8];refine qP λ_=>?_) |(rw[jV];refine qo ?_ ?_) |split)
theorem qza (a b:AV) (n m:Nat) (h:AH) (k:AV→AH→R):ch (Xp a b n m λz=>some (z,h)) k=Xp a b n m λz=>k z h:=by unfold Xp;repeat' (first |rfl |(simp only[q8,jV,zR,je];done) |(rw[q8];refine qP λ_=>?_) |(rw[jV];refine qo ?_ ?_) |split)
theorem qj1 (a b:AV) (n m:Nat) (h:AH) (k:AV→AH→R):ch (Xs a b n m λz=>some (z,h)) k=Xs a b n m λz=>k z h:=by unfold Xs;repeat' (first |rfl |(simp only[q8,jV,zR,je];done) |(rw[q8];refine qP λ_=>?_) |(rw[jV];refine qo ?_ ?_) |split)
theorem qGP (a b:AV) (h:AH) (k:AV→AH→R):ch (gA a b λz=>some (z,h)) k=gA a b λz=>k z h:=by unfold gA;repeat' (first |rfl |(simp only[q8,je];done) |(rw[q8];refine qP λ_=>?_) |(rw[jV];refine qo ?_ ?_) |split)
theorem qzI (h0:AH) (a:AV) (h:AH) (k:AV→AH→R):ch (jB h0 a λz=>some (z,h)) k=jB h0 a λz=>k z h:=by simp only[y5];repeat' (first |rfl |(simp only[q8,je];done) |(rw[q8];refine qP λ_=>?_) |(rw[jV];refine qo ?_ ?_) |split)
theorem qxl (h0:AH) (a:AV) (n:Nat) (h:AH) (k:AV→AH→R):ch (zc h0 a n λz=>some (z,h)) k=zc h0 a n λz=>k z h:=by simp only[gt];repeat' (first |rfl |(simp only[q8,je];done) |(rw[q8];refine qP λ_=>?_) |(rw[jV];refine qo ?_ ?_) |split)
theorem A9 (op:BinOp) (a b:AV) (h:AH) (k:AV→AH→R):ch (jo op a b λz=>some (z,h)) k=jo op a b λz=>k z h:=by simp only[Ms];repeat' (first |rfl |(simp only[q8,jV,zR,je];done) |(rw[q8];refine qP λ_=>?_) |(rw[jV];refine qo ?_ ?_) |split)
theorem qji (op:BinOp) (a b:AV) (h:AH) (k:AV→AH→R):ch (wL op a b λz=>some (z,h)) k=wL op a b λz=>k z h:=by unfold wL;repeat' (first |rfl |(simp only[q8,je];done) |(rw[q8];refine qP λ_=>?_) |(rw[jV];refine qo ?_ ?_) |split)
theorem Ba (op:BinOp) (a b:AV) (h:AH) (k:AV→AH→R):ch (M6 op a b λz=>some (z,h)) k=M6 op a b λz=>k z h:=by unfold M6;repeat' (first |rfl |(simp only[q8,je];done) |(rw[q8];refine qP λ_=>?_) |(rw[jV];refine qo ?_ ?_) |split)
theorem Ex (d:EK) (n:Bool) (a b:AV) (h:AH) (k:AV→AH→R):ch (mM d n a b λz=>some (z,h)) k=mM d n a b λz=>k z h:=by unfold mM;repeat' (first |rfl |(simp only[q8,je];done) |(rw[q8];refine qP λ_=>?_) |(rw[jV];refine qo ?_ ?_) |split)
theorem Bb (d:List ES) (n:Bool) (a b:AV) (h:AH) (k:AV→AH→R):ch (GG d n a b λz=>some (z,h)) k=GG d n a b λz=>k z h:=by unfold GG;repeat' (first |rfl |(simp only[q8,je];done) |(rw[q8];refine qP λ_=>?_) |(rw[jV];refine qo ?_ ?_) |split)
theorem Ey (op:UnOp) (a:AV) (h:AH) (k:AV→AH→R):ch (ow op a λz=>some (z,h)) k=ow op a λz=>k z h:=by unfold ow;repeat' (first |rfl |(simp only[];done) |(rw[q8];refine qP λ_=>?_) |(rw[jV];refine qo ?_ ?_) |split)
theorem qkE (d:IntKind) (a:AV) (h:AH) (k:AV→AH→R):ch (vH d a λz=>some (z,h)) k=vH d a λz=>k z h:=by unfold vH;repeat' (first |rfl |(simp only[];done) |(rw[q8];refine qP λ_=>?_) |(rw[jV];refine qo ?_ ?_) |split)
theorem qz5 (a:AV) (h:AH) (k:AV→AH→R):ch (Xc a λz=>some (z,h)) k=Xc a λz=>k z h:=by unfold Xc;repeat' (first |rfl |(simp only[];done) |(rw[q8];refine qP λ_=>?_) |(rw[jV];refine qo ?_ ?_) |split)
theorem Bc (h0:AH) (a:AV) (h:AH) (k:AV→AH→R):ch (Xx h0 a λz=>some (z,h)) k=Xx h0 a λz=>k z h:=by unfold Xx;repeat' (first |rfl |(simp only[q8,je];done) |(rw[q8];refine qP λ_=>?_) |(rw[jV];refine qo ?_ ?_) |split)
theorem qY4 (a:AV) (lo hi:Option AV) (h:AH) (k:AV→AH→R):ch (vp a lo hi λz=>some (z,h)) k=vp a lo hi λz=>k z h:=by unfold vp;repeat' (first |rfl |(simp only[q8,je];done) |(rw[q8];refine qP λ_=>?_) |(rw[jV];refine qo ?_ ?_) |split)
theorem NS (h0:AH) (e:TypeId) (n:Nat) (a:AV) (lo hi:Option AV) (h:AH) (k:AV→AH→R):ch (yQ h0 e n a lo hi λz=>some (z,h)) k=yQ h0 e n a lo hi λz=>k z h:=by unfold yQ;repeat' (first |rfl |(simp only[q8,jV,zR,je];done) |(rw[q8];refine qP λ_=>?_) |(rw[jV];refine qo ?_ ?_) |split)
theorem qG2 (n m:Nat) (a:AV) (lo hi:Option AV) (h:AH) (k:AV→AH→R):ch (gD n m a lo hi λz=>some (z,h)) k=gD n m a lo hi λz=>k z h:=by unfold gD;repeat' (first |rfl |(simp only[q8,je];done) |(rw[q8];refine qP λ_=>?_) |(rw[jV];refine qo ?_ ?_) |split)
theorem qJH (t:TypeId) (z a:AV) (h:AH) (k:AV→AH→R):ch (xu t z a λz=>some (z,h)) k=xu t z a λz=>k z h:=by unfold xu;repeat' (first |rfl |(simp only[jV,je];done) |(rw[q8];refine qP λ_=>?_) |(rw[jV];refine qo ?_ ?_) |split)
theorem qWn (t:TypeId) (a:AV) (h:AH) (k:AV→AH→R):ch (kp t a λz=>some (z,h)) k=kp t a λz=>k z h:=by unfold kp;repeat' (first |rfl |(simp only[jV,zR,je];done) |(rw[q8];refine qP λ_=>?_) |(rw[jV];refine qo ?_ ?_) |split)
theorem qXm (a:AV) (n:Nat) (h:AH) (k:AV→AH→R):ch (xv a n λz=>some (z,h)) k=xv a n λz=>k z h:=by simp only[JY];repeat' (first |rfl |(simp only[q8,je];done) |(rw[q8];refine qP λ_=>?_) |(rw[jV];refine qo ?_ ?_) |split)
theorem qk0 (a:AV) (h:AH) (k:AV→AH→R):ch (JJ a λz=>some (z,h)) k=JJ a λz=>k z h:=by unfold JJ;repeat' (first |rfl |(simp only[];done) |(rw[q8];refine qP λ_=>?_) |(rw[jV];refine qo ?_ ?_) |split)
theorem qqi (a:AV) (h:AH) (k:AV→AH→R):ch (Q8 a λz=>some (z,h)) k=Q8 a λz=>k z h:=by unfold Q8;repeat' (first |rfl |(simp only[];done) |(rw[q8];refine qP λ_=>?_) |(rw[jV];refine qo ?_ ?_) |split)
theorem Ez (b:Bool) (l:List AV) (h:AH) (k:AV→AH→R):ch (nt b l λz=>some (z,h)) k=nt b l λz=>k z h:=by unfold nt;repeat' (first |rfl |(simp only[q8,jV,zR,je];done) |(rw[q8];refine qP λ_=>?_) |(rw[jV];refine qo ?_ ?_) |split)
theorem qxh (z:List AV) (vs:List (Nat×Nat×AV)) (h:AH) (k:AV→AH→R):ch (vJ z vs λz=>some (z,h)) k=vJ z vs λz=>k z h:=by unfold vJ;repeat' (first |rfl |(simp only[q8,je];done) |(rw[q8];refine qP λ_=>?_) |(rw[jV];refine qo ?_ ?_) |split)
theorem Bd (h0:AH) (e:TypeId) (a:AV) (k:AV→AH→R):ch (Gn h0 e a λz h=>some (z,h)) k=Gn h0 e a k:=by unfold Gn;repeat' (first |rfl |(simp only[jV,zR,je];done) |(rw[q8];refine qP λ_=>?_) |(rw[jV];refine qo ?_ ?_) |split)
theorem Be (h0:AH) (e:TypeId) (a:AV) (k:AV→AH→R):ch (gF h0 e a λz h=>some (z,h)) k=gF h0 e a k:=by unfold gF;repeat' (first |rfl |(simp only[jV,zR,je];done) |(rw[q8];refine qP λ_=>?_) |(rw[jV];refine qo ?_ ?_) |split)
theorem qVf (h0:AH) (e:TypeId) (z:List AV) (n:Nat) (vs:List (Nat×Nat×AV)) (k:AV→AH→R):ch (yC h0 e z n vs λz h=>some (z,h)) k=yC h0 e z n vs k:=by unfold yC;repeat' (first |rfl |(simp only[q8,jV,zR,je];done) |(rw[q8];refine qP λ_=>?_) |(rw[jV];refine qo ?_ ?_) |split)
theorem qvB (h0:AH) (e:TypeId) (z:List AV) (a b:AV) (k:AV→AH→R):ch (kr h0 e z a b λz h=>some (z,h)) k=kr h0 e z a b k:=by unfold kr;repeat' (first |rfl |(simp only[jV,zR,je];done) |(rw[q8];refine qP λ_=>?_) |(rw[jV];refine qo ?_ ?_) |split)
theorem qQi (h0:AH) (e:TypeId) (sz:Nat) (a:AV) (n:Nat) (new:CT) (k:AV→AH→R):ch (yO h0 e sz a n new λz h=>some (z,h)) k=yO h0 e sz a n new k:=by unfold yO;repeat' (first |rfl |(simp only[q8,jV,zR,je];done) |(rw[q8];refine qP λ_=>?_) |(rw[jV];refine qo ?_ ?_) |split)
theorem qqH (h0:AH) (e:TypeId) (sz:Nat) (a b:AV) (k:AV→AH→R):ch (vB h0 e sz a b λz h=>some (z,h)) k=vB h0 e sz a b k:=by unfold vB;repeat' (first |rfl |(simp only[q8,jV,zR];done) |exact qQi _ _ _ _ _ _ _ |(rw[q8];refine qP λ_=>?_) |(rw[jV];refine qo ?_ ?_) |split)
theorem qvR (h0:AH) (sz:Nat) (a b:AV) (k:AV→AH→R):ch (Uz h0 sz a b λz h=>some (z,h)) k=Uz h0 sz a b k:=by unfold Uz;repeat' (first |rfl |(simp only[q8,jV,je];done) |(rw[q8];refine qP λ_=>?_) |(rw[jV];refine qo ?_ ?_) |split)
theorem qkP (h0:AH) (a:AV) (k:AV→AH→R):ch (YW h0 a λz h=>some (z,h)) k=YW h0 a k:=by unfold YW;repeat' (first |rfl |(simp only[];done) |(rw[q8];refine qP λ_=>?_) |(rw[jV];refine qo ?_ ?_) |split)
theorem qve (h0:AH) (a:AV) (k:AV→AH→R):ch (Kf h0 a λz h=>some (z,h)) k=Kf h0 a k:=by unfold Kf;repeat' (first |rfl |(simp only[jV,je];done) |(rw[q8];refine qP λ_=>?_) |(rw[jV];refine qo ?_ ?_) |split)
theorem Is (f:AV) (a:List AV) (h0:AH) (k:AV→AH→R):ch (zA c f a h0 λz h=>some (z,h)) k=zA c f a h0 k:=by simp only[kR];repeat' (first |rfl |(simp only[];done) |(rw[q8];refine qP λ_=>?_) |(rw[jV];refine qo ?_ ?_) |split)
theorem qV5 (l:List (Nat×Nat)) (v:AV) (a:List AV) (h0:AH) (k:AV→AH→R):ch (yz c l v a h0 λz h=>some (z,h)) k=yz c l v a h0 k:=by
 unfold yz;cases v<;>first |rfl |skip
 rename_i t x;simp only[];cases GS l t with
 |none=>rfl
 |some f=>exact Is _ _ _ _
theorem qvh (h0 h1:AH) (v:AV) (k:AV→AH→R):ch (Uc h0 v λz=>some (z,h1)) k=Uc h0 v λz=>k z h1:=by
 unfold Uc
 repeat' (first |rfl |split)
theorem qXh (h0:AH) (k:AV→AH→R):ch (QH h0 λz h=>some (z,h)) k=QH h0 k:=rfl
theorem qj9 (h0 h1:AH) (v i:AV) (k:AV→AH→R):ch (X5 h0 v i λz=>some (z,h1)) k=X5 h0 v i λz=>k z h1:=by
 unfold X5
 repeat' (first |rfl |split)
theorem qv0 (h0:AH) (v i:AV) (k:AV→AH→R):ch (Kk h0 v i λz h=>some (z,h)) k=Kk h0 v i k:=by
 unfold Kk
 repeat' (first |rfl |split)
theorem Bf (h0:AH) (v i y:AV) (k:AV→AH→R):ch (Z7 h0 v i y λh=>some (.undef,h)) k=Z7 h0 v i y λh=>k .undef h:=by
 unfold Z7
 repeat' (first |rfl |split)
theorem qvt (h0:AH) (v i y:AV) (k:AV→AH→R):ch (UX h0 v i y λh=>some (.undef,h)) k=UX h0 v i y λh=>k .undef h:=by
 unfold UX
 repeat' (first |rfl |split)
theorem qgD (h0:AH) (v i:AV) (k:AV→AH→R):ch (Ub h0 v i λz h=>some (z,h)) k=Ub h0 v i k:=by
 unfold Ub
 repeat' (first |rfl |split)
theorem qxT (h0:AH) (a b:AV) (n:Nat) (k:AV→AH→R):ch (jU h0 a b n λh=>some (.undef,h)) k=jU h0 a b n λh=>k .undef h:=by simp only[GY];repeat' (first |rfl |(simp only[q8,jV,zR,je];done) |(rw[q8];refine qP λ_=>?_) |(rw[jV];refine qo ?_ ?_) |split)
theorem Bg (op:BinOp) (t:TypeId) (a b:AV) (h:AH) (k:AV→AH→R):ch (Ay P op t a b λz=>some (z,h)) k=Ay P op t a b λz=>k z h:=by
 cases op<;>simp only[Ay,q8,qji]<;>refine qP λd=>?_
 all_goals cases d<;>simp only[A9,Ba,Ex,Bb,q8,Qx,zR]
theorem qv8 (s d:TypeId) (v:AV) (h:AH) (k:AV→AH→R):ch (XM P s d v h λz h=>some (z,h)) k=XM P s d v h k:=by
 simp only[XM,q8];refine qP λds=>qP λdd=>?_;cases dd<;>cases ds<;>simp only[qkE,qz5,zR,q8]<;>refine qP λe=>?_
 all_goals
  cases e<;>first |rfl |skip
  rename_i q;cases q<;>simp only[zR,Bc,q8,Qx,Bd]
theorem It (o:Op) (r:Operand→Option AV) (h:AH) (k:AV→AH→R):aX P c o r h k=ch (cg P c o r h) k:=by
 unfold cg;cases o
 case convert s d x=>show(ob (r x) λv=>XM P s d v h k)=ch (ob (r x) λv=>XM P s d v h λv h'=>some (v,h')) k;rw[q8];exact qP λv=>(qv8 s d v h k).symm
 all_goals simp only[aX,q8,zR,je,Qx,qgB,Be,qxT,A8,Bg,Ey,qGc,qXm,qve,qj9,qv0,qvt,Bf]
 case slice t x lo hi mx=>
  cases mx<;>simp only[q8,zR]
  refine qP λ_=>qP λ_=>qP λ_=>qP λd=>?_;cases d<;>(first |rfl |simp only[q8,qY4,NS,qG2])
 case build=>refine qP λ_=>qP λd=>?_;cases d<;>(first |rfl |simp only[q8,qxh])
 case buildSlice=>refine qP λd=>?_;cases d<;>(first |rfl |simp only[q8,zR,Qx,qVf])
 case load=>refine qP λ_=>qP λd=>?_;cases d<;>(first |rfl |simp only[qzI,qxl])
 case makeInterface=>refine qP λd=>?_;cases d<;>(first |rfl |simp only[q8,je])
 case makeFunc fn _ _=>cases fn<;>(first |rfl |simp only[q8,je])
 case makeSlice=>refine qP λd=>?_;cases d<;>(first |rfl |simp only[q8,qvB])
 case field=>refine qP λ_=>qP λd=>?_;obtain⟨d,e⟩:=d;cases e<;>(first |rfl |simp only[qxH,qzf])
 case indexAddr=>refine qP λ_=>qP λ_=>qP λd=>?_;cases d<;>(first |rfl |simp only[q8,zR,Qx,qk4,qk5])
 case index=>refine qP λ_=>qP λ_=>qP λd=>?_;cases d<;>(first |rfl |simp only[q8,Qx,qGP,qza,qj1])
 case makeMap t hint=>cases hint<;>simp only[zR,Qx,qXh]
 case range=>refine qP λd=>?_;cases d<;>(first |rfl |simp only[q8,qkP])
 case typeAssert=>refine qP λ_=>qP λd=>?_;cases d<;>(first |rfl |simp only[q8,Qx,qWn,qJH])
 case call cl=>
  cases cl.callee with
  |value f=>(first |rfl |simp only[q8,Is])
  |invoke _ _=>(first |rfl |simp only[q8,qV5])
  |builtin b=>
   cases b<;>first |rfl |(simp only[q8,Ez];done) |skip
   case len=>
    generalize cl.args.toList=xs;generalize cl.argTypes.toList=ts;cases xs<;>cases ts<;>first |rfl |skip
    simp only[q8];refine qP λ_=>qP λd=>?_;cases d<;>(first |rfl |simp only[qqi,qk0,qvh])
   case append=>
    generalize cl.args.toList=xs;generalize cl.argTypes.toList=ts;rcases xs with _ |⟨s,_ |⟨x,_ |⟨y,xs⟩⟩⟩<;>rcases ts with _ |⟨t,_ |⟨u,ts⟩⟩<;>first |rfl |skip
    simp only[q8];refine qP λdu=>?_;cases du<;>first |rfl |skip
    all_goals
     simp only[q8];refine qP λd=>?_;cases d<;>(first |rfl |simp only[q8,qqH])
   case copy=>
    generalize cl.args.toList=xs;generalize cl.argTypes.toList=ts;rcases xs with _ |⟨s,_ |⟨x,_ |⟨y,xs⟩⟩⟩<;>rcases ts with _ |⟨t,ts⟩<;>first |rfl |skip
    simp only[q8];refine qP λd=>?_;cases d<;>(first |rfl |simp only[q8,qvR])
   case delete=>
    generalize cl.args.toList=xs;generalize cl.argTypes.toList=ts;rcases xs with _ |⟨s,_ |⟨x,_ |⟨y,xs⟩⟩⟩<;>rcases ts with _ |⟨t,ts⟩<;>first |rfl |skip
    simp only[q8,Qx,zR,qgD]
theorem Jw {o:Op} {r:Operand→Option AV} {h:AH} {k:AV→AH→R} {q:AV×AH} (e:aX P c o r h k=some q) :
  ∃v h',cg P c o r h=some (v,h')∧k v h'=some q:=by
 rw[It]at e;cases hs:cg P c o r h with
 |none=>rw[hs]at e;cases e
 |some z=>rw[hs]at e;exact⟨z.1,z.2,rfl,e⟩
end Go.Ae
namespace Go.Ae
open Go
variable {P:Program} {m:Mp} {D:Nat→Prop} {h h':AH} {w:World} {c:CV} {o:Oper} {v:AV}
theorem qkS (hc:x7 P c) {rd:Option Nat} {n nn:Nat} {ops:Array Oper} {Q:Exit→Act→World→Prop} {g:Option (Nat×Bool)} {p:Oper} {d:Tmp} {r:AV×AH} :
  ∀(l:List Oper) (j:Nat) (rest:List Nat) (m:Mp) (D:Nat→Prop) (h:AH) (w:World) (a:Act) (tm:PT AV) (k:PT AV→AH→R),
   (∀i o,l[i]? =some o→ops[j+i]? =some o∧o.guard=g)→
   (∀q,g=some q→ops[q.1]? =some p∧p.dst=some d∧writes d l=false∧yielded ops a.tmps q.1=some q.2)→
   Rel P m D h w→dO m D n a tm→uM P c n l tm h k=some r→
   (∀m' D' h' w' a' tm',O4 P m D h w n a.defers a' tm' m' D' h' w'→k tm' h'=some r→wpOpsIn (FW rd) nn P ops Q rest a' w')→
   wpOpsIn (FW rd) nn P ops Q (List.range' j l.length++rest) a w:=by
 intro l
 induction l with
 |nil=>intro j rest m D h w a tm k _ _ R T e hk;exact hk m D h w a tm ⟨Ext.refl ..,R,T,rfl⟩ e
 |cons o l ih=>
  intro j rest m D h w a tm k hl hg R T e hk;obtain⟨ho,eG⟩:=hl 0 o rfl;simp only[List.length_cons,List.range'_succ,List.cons_append];simp only[wpOpsIn];rw[show ops[j]? =some o from ho];have hw:Region.wanted o (yielded ops a.tmps)=true:=by
   unfold Region.wanted;rw[eG];cases g with
   |none=>rfl
   |some q=>obtain⟨_,_,_,hy⟩:=hg q rfl;simp[hy]
  simp only[hw,if_true];simp only[uM]at e;obtain⟨v,h1,e1,e⟩:=Jw e;refine Oq hc T.ev R e1 ?_;intro m1 D1 w1 X R1 EA;obtain⟨cA,e2,T1⟩:=(T.mono X).put EA e;refine ih (j+1) rest m1 D1 h1 w1 _ cA k ?_ ?_ R1 T1 e2 ?_
  ·intro i o' hi;have:=hl (i+1) o' hi
   rwa [show j+(i+1)=j+1+i by omega]at this
  ·intro q hq;obtain⟨k1,k2,k3,k4⟩:=hg q hq;have Bh:=J7 k3;refine⟨k1,k2,?_,?_⟩
   ·simp only[writes,Bool.or_eq_false_iff]at k3;exact k3.2
   ·rw[GH k1 k2 (Bh o (iK ..))];exact k4
  ·intro m' D' h' w' a' tm' O e';refine hk m' D' h' w' a' tm' ⟨X.trans O.ext,O.rel,O.tm,?_⟩ e';rw[O.defers,gS]
end Go.Ae
namespace Go.Ae
open Go
variable {P:Program} {m:Mp} {D:Nat→Prop} {h h':AH} {w:World} {c:CV} {o:Oper} {v:AV}
theorem qj4 {q:Nat×Bool} {y:Nat→Option Bool} (hg:o.guard=some q) (hy:y q.1=some q.2):Region.wanted o y=true:=by unfold Region.wanted;rw[hg];simp[hy]
theorem Vc {q:Nat×Bool} {y:Nat→Option Bool} (hg:o.guard=some q) (hy:y q.1≠some q.2):Region.wanted o y=false:=by unfold Region.wanted;rw[hg];simp[hy]
theorem qVo {rd:Option Nat} {n nn:Nat} {ops:Array Oper} {Q:Exit→Act→World→Prop} {q:Nat×Bool} {p:Oper} {d:Tmp} {r:AV×AH} :
  ∀(l:List Oper) (j:Nat) (rest:List Nat) (a:Act) (tm:PT AV) (k:PT AV→R),
   (∀i o,l[i]? =some o→ops[j+i]? =some o∧o.guard=some q)→
   ops[q.1]? =some p→p.dst=some d→writes d l=false→yielded ops a.tmps q.1≠some q.2→
   dO m D n a tm→Km n l tm k=some r→
   (∀a' tm',dO m D n a' tm'→a'.defers=a.defers→k tm'=some r→wpOpsIn (FW rd) nn P ops Q rest a' w)→
   wpOpsIn (FW rd) nn P ops Q (List.range' j l.length++rest) a w:=by
 intro l
 induction l with
 |nil=>intro j rest a tm k _ _ _ _ _ T e hk;exact hk a tm T rfl e
 |cons o l ih=>
  intro j rest a tm k hl hp hd hw hy T e hk;obtain⟨ho,eG⟩:=hl 0 o rfl;simp only[List.length_cons,List.range'_succ,List.cons_append];simp only[wpOpsIn];rw[show ops[j]? =some o from ho];simp only[Vc eG hy,Bool.false_eq_true,if_false];refine⟨λ_ _=>trivial,?_⟩;simp only[Km]at e;obtain⟨cA,e2,T1⟩:=T.put (v:=.undef) trivial e;rw[O9]at T1;have Bh:=J7 hw;refine ih (j+1) rest _ cA k ?_ hp hd ?_ ?_ T1 e2 ?_
  ·intro i o' hi;have:=hl (i+1) o' hi
   rwa [show j+(i+1)=j+1+i by omega]at this
  ·simp only[writes,Bool.or_eq_false_iff]at hw;exact hw.2
  ·rw[GH hp hd (Bh o (iK ..))];exact hy
  ·intro a' tm' T' oa e';exact hk a' tm' T' (by rw[oa,gS]) e'
theorem dO.bJ {n:Nat} {a:Act} {tm:PT AV} (T:dO m D n a tm):∀(L:List Nat) (acc:PT AV),dO m D n a acc→xA tm L=true→dO m D n a (gL L (vi L tm) acc):=by
 intro L
 induction L with
 |nil=>intro acc A _;exact A
 |cons t L ih=>
  intro acc A hh;simp only[xA,Bool.and_eq_true]at hh;simp only[vi,gL];refine ih _ ?_ hh.2;have h1:=hh.1;unfold has at h1
  split at h1
  ·rename_i v hv;refine⟨A.size,?_⟩;intro s u hs;rw[PT.bE]at hs;by_cases e:t=s
   ·subst e;rw[iJ rfl]at hs;cases hs;exact T.at_ t v hv
   ·rw[iQ e]at hs;exact A.at_ s u hs
  ·cases h1
theorem Vj {b:Bool} {x:R} {r:AV×AH}:cj b none x=some r↔b=false∧x=some r:=by cases b<;>simp[cj]
theorem PT.ey {α:Type} (i:Nat):(PT.e:PT α).get i=none:=rfl
theorem dO.join {n:Nat} {a:Act} {tm:PT AV} (T:dO m D n a tm) (L:List Nat) (hh:xA tm L=true):dO m D n a (gL L (vi L tm) .e) :=
 T.bJ L .e ⟨T.size,λt v hv=>by rw[PT.ey]at hv;cases hv⟩ hh
theorem MQ (g:Nat×Bool) (l:List Oper):(zw g l).1++(zw g l).2=l:=by
 induction l with
 |nil=>rfl
 |cons o l ih=>simp only[zw];cases C6 g o<;>simp[ih]
theorem Iu (g:Nat×Bool) (l:List Oper):∀o∈(zw g l).1,o.guard=some g:=by
 induction l with
 |nil=>intro o ho;cases ho
 |cons x l ih=>
  intro o ho;simp only[zw]at ho;cases hs:C6 g x<;>simp only[hs,cond_false,cond_true]at ho
  ·cases ho
  ·rcases List.mem_cons.1 ho with rfl |ho
   ·unfold C6 at hs
    split at hs
    ·rename_i g' EB;simp only[Bool.and_eq_true,beq_iff_eq]at hs;rw[EB];have:=jd hs.1;obtain⟨g1,g2⟩:=g;obtain⟨g3,g4⟩:=g';simp only at this hs;rw[this,hs.2]
    ·cases hs
   ·exact ih o ho
theorem qxu (hc:x7 P c) {rd:Option Nat} {n nn:Nat} {ops:Array Oper} {Q:Exit→Act→World→Prop} {r:AV×AH} {ds:List Deferred} :
  ∀(f:Nat) (l:List Oper) (j:Nat) (Ls:List (List Nat)) (m:Mp) (D:Nat→Prop) (h:AH) (w:World) (a:Act) (tm:PT AV) (k:PT AV→AH→R),
   (∀i o,l[i]? =some o→ops[j+i]? =some o)→
   Rel P m D h w→dO m D n a tm→a.defers=ds→Xf P c n ops.toList f l Ls tm h k=some r→
   (∀m' D' h' w' a' tm',O4 P m D h w n ds a' tm' m' D' h' w'→k tm' h'=some r→Q .normal a' w')→
   wpOpsIn (FW rd) nn P ops Q (List.range' j l.length) a w:=by
 intro f
 induction f with
 |zero=>
  intro l j Ls m D h w a tm k hl R T oa e hk;cases l with
  |nil=>exact hk m D h w a tm ⟨Ext.refl ..,R,T,oa⟩ e
  |cons o l=>simp only[Xf,reduceCtorEq]at e
 |succ f ih=>
  intro l j Ls m D h w a tm k hl R T oa e hk;cases l with
  |nil=>exact hk m D h w a tm ⟨Ext.refl ..,R,T,oa⟩ e
  |cons o l=>
   cases hg:o.guard with
   |none=>
    simp only[Xf,hg]at e;obtain⟨v,h1,e1,e⟩:=Jw e;simp only[List.length_cons,List.range'_succ,wpOpsIn];rw[show ops[j]? =some o from hl 0 o rfl];have hw:Region.wanted o (yielded ops a.tmps)=true:=by unfold Region.wanted;rw[hg]
    simp only[hw,if_true];refine Oq hc T.ev R e1 ?_;intro m1 D1 w1 X R1 EA;obtain⟨cA,e2,T1⟩:=(T.mono X).put EA e;refine ih l (j+1) Ls m1 D1 h1 w1 _ cA k ?_ R1 T1 (by rw[gS];exact oa) e2 ?_
    ·intro i o' hi;have:=hl (i+1) o' hi
     rwa [show j+(i+1)=j+1+i by omega]at this
    ·intro m' D' h' w' a' tm' O e';exact hk m' D' h' w' a' tm' ⟨X.trans O.ext,O.rel,O.tm,O.defers⟩ e'
   |some g=>
    simp only[Xf,hg,qg]at e;obtain⟨d,hd,vg,rM,e⟩:=e;cases Ls with
    |nil=>cases e
    |cons L sq=>
     simp only[Vj]at e;obtain⟨Bi,e⟩:=e;unfold wM at hd;rw[hg]at hd;simp only[Option.bind_some,xh,Array.getElem?_toList,Option.bind_eq_some_iff]at hd;obtain⟨p,hp,Bj⟩:=hd;have EC:=T.at_ d vg rM;have fA:o::l=(o::(zw g l).1)++(zw g l).2:=by rw[List.cons_append,MQ]
     have hlen:List.range' j (o::l).length=List.range' j (o::(zw g l).1).length++List.range' (j+(o::(zw g l).1).length) (zw g l).2.length:=by rw[List.range'_append_1,← List.length_append,← fA]
     rw[hlen];have rf:∀i o',(o::(zw g l).1)[i]? =some o'→ops[j+i]? =some o'∧o'.guard=some g:=by
      intro i o' hi;refine⟨hl i o' ?_,?_⟩
      ·rw[fA,List.getElem?_append_left (List.getElem?_eq_some_iff.1 hi).1];exact hi
      ·rcases List.mem_cons.1 (List.mem_of_getElem? hi)with rfl |hm
       ·exact hg
       ·exact Iu g l o' hm
     have lF:∀i o',(zw g l).2[i]? =some o'→ops[j+(o::(zw g l).1).length+i]? =some o':=by intro i o' hi;rw[Nat.add_assoc];refine hl _ o' ?_;rw[fA,List.getElem?_append_right omQ];rw[show(o::(zw g l).1).length+i-(o::(zw g l).1).length=i by omega];exact hi
     have eU:yielded ops a.tmps g.1=(match cv m vg with | .bool b=>some b |_=>none):=by unfold yielded;simp only[hp,Option.bind_some,Bj,EC.1];generalize cv m vg=z;cases z<;>rfl
     have fin:∀m1 D1 h1 w1 a1 cA,O4 P m D h w n ds a1 cA m1 D1 h1 w1→
       cj (xA cA L) (Xf P c n ops.toList f (zw g l).2 sq (gL L (vi L cA) .e) h1 k) none=some r→
       wpOpsIn (FW rd) nn P ops Q (List.range' (j+(o::(zw g l).1).length) (zw g l).2.length) a1 w1:=by
      intro m1 D1 h1 w1 a1 cA O e1;rw[jO]at e1;obtain⟨cF,e1⟩:=e1;refine ih (zw g l).2 _ sq m1 D1 h1 w1 a1 _ k lF O.rel (O.tm.join L cF) O.defers e1 ?_;intro m' D' h' w' a' tm' O' e';exact hk m' D' h' w' a' tm' ⟨O.ext.trans O'.ext,O'.rel,O'.tm,O'.defers⟩ e'
     simp only[yH]at e;rw[Ka]at e;have go:∀(e:Km n (o::(zw g l).1) tm (λtm'=>cj (xA tm' L) (Xf P c n ops.toList f (zw g l).2 sq (gL L (vi L tm') .e) h k) none)=some r)
       (hy:yielded ops a.tmps g.1≠some g.2),wpOpsIn (FW rd) nn P ops Q (List.range' j (o::(zw g l).1).length++List.range' (j+(o::(zw g l).1).length) (zw g l).2.length) a w:=by
      intro e hy;refine qVo (o::(zw g l).1) j _ a tm _ rf hp Bj Bi hy T e ?_;intro a' tm' T' ED e';exact fin m D h w a' tm' ⟨Ext.refl ..,R,T',by rw[ED,oa]⟩ e'
     split at e
     ·rename_i t;simp only[cv]at eU;cases ht:(t==g.2)
      rotate_left
      ·rw[ht]at e;refine qkS (p:=p) (d:=d) hc (o::(zw g l).1) j _ m D h w a tm _ rf ?_ R T e ?_
       ·intro q hq;cases hq;exact⟨hp,Bj,Bi,by rw[eU];simpa using ht⟩
       ·intro m' D' h' w' a' tm' O e';exact fin m' D' h' w' a' tm' ⟨O.ext,O.rel,O.tm,by rw[O.defers,oa]⟩ e'
      ·rw[ht]at e;refine go e ?_;rw[eU];simpa using ht
     ·rename_i hnb;refine go e ?_;rw[eU];cases vg<;>simp only[cv]<;>first |(intro hh;cases hh;done) |exact absurd rfl (hnb _) |skip
end Go.Ae
namespace Go.Ae
open Go
variable {P:Program} {c:CV}
def Bk:AX→Exit
 | .normal=>.normal
 | .exit i=>.exit i
 | .goto l=>.goto l
 | .ret=>.ret
def Gw (b:Nat):Deferred:={ target:=.collected b,args:=#[] }
def nG (m:Mp) (D:Nat→Prop) (ds:List Nat) (l:List Deferred):Prop:=(∀d∈ds,D d)∧l=ds.map λd=>Gw (m d).1
def oR (m:Mp) (D:Nat→Prop) (rd rc:Option Nat):Prop:=match rd with
 |none=>rc=none
 |some l=>D l∧rc=some (m l).1
theorem nG.mono {m m':Mp} {D D':Nat→Prop} {h h':AH} {w w':World} {ds:List Nat} {l:List Deferred} (d:nG m D ds l) (e:Ext m D h w m' D' h' w'):nG m' D' ds l :=
 ⟨λb hb=>e.oD b (d.1 b hb),by rw[d.2];exact List.map_congr_left λb hb=>by rw[e.map b (d.1 b hb)]⟩
theorem oR.mono {m m':Mp} {D D':Nat→Prop} {h h':AH} {w w':World} {rd rc:Option Nat} (d:oR m D rd rc) (e:Ext m D h w m' D' h' w'):oR m' D' rd rc:=by
 cases rd with
 |none=>exact d
 |some l=>exact⟨e.oD l d.1,by rw[e.map l d.1];exact d.2⟩
structure St (P:Program) (m:Mp) (D:Nat→Prop) (h:AH) (w:World) (n:Nat) (ds:List Nat) (a:Act) (tm:PT AV) (rd rc:Option Nat):Prop where
  rel:Rel P m D h w
  tm:dO m D n a tm
  df:nG m D ds a.defers
  rd:oR m D rd rc
theorem St.sH {m m':Mp} {D D':Nat→Prop} {h h':AH} {w w':World} {n:Nat} {ds:List Nat} {a a':Act} {tm tm':PT AV} {rd rc:Option Nat} (s:St P m D h w n ds a tm rd rc)
  (o:O4 P m D h w n a.defers a' tm' m' D' h' w'):St P m' D' h' w' n ds a' tm' rd rc :=
 ⟨o.rel,o.tm,by rw[o.defers];exact s.df.mono o.ext,s.rd.mono o.ext⟩
def UH (P:Program) (c:CV):Prop:=∀(n nn:Nat) (ops:Array Oper) (Ls:List (List Nat)) (rc:Option Nat) (Q:Exit→Act→World→Prop) (r:AV×AH) (id:Nat)
 (m:Mp) (D:Nat→Prop) (h:AH) (w:World) (a:Act) (tm:PT AV) (k:PT AV→AH→R),Rel P m D h w→dO m D n a tm→Ea P c n ops Ls tm h k=some r→
 (∀m' D' h' w' a' tm',O4 P m D h w n a.defers a' tm' m' D' h' w'→k tm' h'=some r→Q .normal a' w')→(Code.region id ops true).wpIn (FW rc) nn P Q a w
def g9 (P:Program) (N:Nat) (c:CV) (f n:Nat) (rd:Option Nat) (code:Code):Prop :=
 ∀(rc:Option Nat) (nn:Nat) (Q:Exit→Act→World→Prop) (r:AV×AH) (pos:List Nat) (pl:Pl) (tm:PT AV) (h:AH) (ds:List Nat) (k:AX→PT AV→AH→List Nat→R)
  (m:Mp) (D:Nat→Prop) (w:World) (a:Act),St P m D h w n ds a tm rd rc→
  (∃fn bd,P.funcs[f]? =some fn∧fn.body=some bd∧fn.ntmps=n∧zT bd pos=some code)→
  vN P N c f n rd code pos pl tm h ds k=some r→
  (∀x m' D' h' w' a' tm' Bl,Ext m D h w m' D' h' w'→St P m' D' h' w' n Bl a' tm' rd rc→k x tm' h' Bl=some r→Q (Bk x) a' w')→
  code.wpIn (FW rc) nn P Q a w
theorem qJD (c:Code) (p q:List Nat) (s:Code) (h:zT c p=some s):zT c (p++q)=zT s q:=by
 induction p generalizing c with
 |nil=>simp only[zT]at h;cases h;rfl
 |cons i p ih=>
  cases c<;>simp only[zT,reduceCtorEq,List.cons_append]at h ⊢
  case seq a b=>cases hi:Nat.beq i 0<;>simp only[hi,cond_true,cond_false]at h ⊢ <;>exact ih _ h
  case cond a b=>cases hi:Nat.beq i 0<;>simp only[hi,cond_true,cond_false]at h ⊢ <;>exact ih _ h
  case block a=>exact ih _ h
  case loop a=>exact ih _ h
  case rangeFunc a b=>cases hi:Nat.beq i 0<;>simp only[hi,cond_true,cond_false]at h ⊢ <;>exact ih _ h
theorem JM {f n:Nat} {code s:Code} {pos q:List Nat} (h:∃fn bd,P.funcs[f]? =some fn∧fn.body=some bd∧fn.ntmps=n∧zT bd pos=some code) (hs:zT code q=some s) :
  ∃fn bd,P.funcs[f]? =some fn∧fn.body=some bd∧fn.ntmps=n∧zT bd (pos++q)=some s:=by
 obtain⟨fn,bd,h1,h2,h3,h4⟩:=h;exact⟨fn,bd,h1,h2,h3,by rw[qJD _ _ _ _ h4,hs]⟩
end Go.Ae
namespace Go.Ae
open Go
variable {P:Program} {c:CV}
theorem St.join {m:Mp} {D:Nat→Prop} {h:AH} {w:World} {n:Nat} {ds:List Nat} {a:Act} {tm:PT AV} {rd rc:Option Nat} (s:St P m D h w n ds a tm rd rc) {L:List Nat} (hh:xA tm L=true) :
  St P m D h w n ds a (gL L (vi L tm) .e) rd rc:=⟨s.rel,s.tm.join L hh,s.df,s.rd⟩
theorem ZA (hc:x7 P c) (hd:UH P c) {f n:Nat} {rd:Option Nat} {N id:Nat} {ops:Array Oper} {d:Bool}:g9 P N c f n rd (.region id ops d):=by
 intro rc nn Q r pos pl tm h ds k m D w a S _ e hk;simp only[vN]at e;cases d with
 |true=>simp only[cj]at e;refine hd n nn ops (C9 pl) rc Q r id m D h w a tm _ S.rel S.tm e ?_;intro m' D' h' w' a' tm' O e';exact hk .normal m' D' h' w' a' tm' ds O.ext (S.sH O) e'
 |false=>
  simp only[cj]at e;refine wpIn_region ?_;have hr:List.range ops.size=List.range' 0 ops.toList.length:=by simp[List.range_eq_range']
  rw[hr];refine qxu (ds:=a.defers) hc _ ops.toList 0 (C9 pl) m D h w a tm _ (λi o hi=>by simpa using hi) S.rel S.tm rfl e ?_;intro m' D' h' w' a' tm' O e';exact hk .normal m' D' h' w' a' tm' ds O.ext (S.sH O) e'
theorem qYu {f n N:Nat} {rd:Option Nat} {x y:Code} (hx:g9 P N c f n rd x) (hy:g9 P N c f n rd y):g9 P N c f n rd (.seq x y):=by
 intro rc nn Q r pos pl tm h ds k m D w a S dv e hk;simp only[vN]at e;have oJ:=JM (q:=[0]) dv (s:=x) (by simp only[zT];rfl);have Dj:=JM (q:=[1]) dv (s:=y) (by simp only[zT];rfl);refine wpIn_seq ?_;cases hL:ss pl with
 |some L=>
  simp only[hL,yH]at e;refine hx rc nn _ r (pos++[0]) (mj pl) tm h ds _ m D w a S oJ e ?_;intro z m1 D1 h1 w1 a1 cA ds1 X1 S1 e1;cases z with
  |normal=>simp only[jO]at e1;obtain⟨cF,e1⟩:=e1;refine hy rc nn Q r (pos++[1]) (sr pl) _ h1 ds1 k m1 D1 w1 a1 (S1.join cF) Dj e1 ?_;intro z2 m2 D2 h2 w2 a2 tK sI X2 S2 e2;exact hk z2 m2 D2 h2 w2 a2 tK sI (X1.trans X2) S2 e2
  |exit i=>exact hk (.exit i) m1 D1 h1 w1 a1 cA ds1 X1 S1 e1
  |goto i=>exact hk (.goto i) m1 D1 h1 w1 a1 cA ds1 X1 S1 e1
  |ret=>exact hk .ret m1 D1 h1 w1 a1 cA ds1 X1 S1 e1
 |none=>
  simp only[hL]at e;refine hx rc nn _ r (pos++[0]) (mj pl) tm h ds _ m D w a S oJ e ?_;intro z m1 D1 h1 w1 a1 cA ds1 X1 S1 e1;cases z with
  |normal=>refine hy rc nn Q r (pos++[1]) (sr pl) _ h1 ds1 k m1 D1 w1 a1 S1 Dj e1 ?_;intro z2 m2 D2 h2 w2 a2 tK sI X2 S2 e2;exact hk z2 m2 D2 h2 w2 a2 tK sI (X1.trans X2) S2 e2
  |exit i=>exact hk (.exit i) m1 D1 h1 w1 a1 cA ds1 X1 S1 e1
  |goto i=>exact hk (.goto i) m1 D1 h1 w1 a1 cA ds1 X1 S1 e1
  |ret=>exact hk .ret m1 D1 h1 w1 a1 cA ds1 X1 S1 e1
theorem qXR {f n N:Nat} {rd:Option Nat} {o:Operand} {x y:Code} (hx:g9 P N c f n rd x) (hy:g9 P N c f n rd y):g9 P N c f n rd (.cond o x y):=by
 intro rc nn Q r pos pl tm h ds k m D w a S dv e hk;simp only[vN,qg]at e;obtain⟨v,hv,e⟩:=e;have oJ:=JM (q:=[0]) dv (s:=x) (by simp only[zT];rfl);have Dj:=JM (q:=[1]) dv (s:=y) (by simp only[zT];rfl);obtain⟨h1,h2⟩:=S.tm.ev _ _ hv;rw[OE]at e
 split at e
 ·rename_i t;refine wpIn_cond (t:=t) (by rw[h1];rfl) ?_;cases t with
  |true=>exact hx rc nn Q r (pos++[0]) (mj pl) tm h ds k m D w a S oJ e hk
  |false=>exact hy rc nn Q r (pos++[1]) (sr pl) tm h ds k m D w a S Dj e hk
 ·cases e
theorem Ze {f n N id:Nat} {rd:Option Nat} {x:Code} (hx:g9 P N c f n rd x):g9 P N c f n rd (.block id x):=by
 intro rc nn Q r pos pl tm h ds k m D w a S dv e hk;simp only[vN]at e;have oJ:=JM (q:=[0]) dv (s:=x) (by simp only[zT]);refine wpIn_block ?_;cases hL:ss pl with
 |some L=>
  simp only[hL,yH]at e;refine hx rc nn _ r (pos++[0]) (mj pl) tm h ds _ m D w a S oJ e ?_;intro z m1 D1 h1 w1 a1 cA ds1 X1 S1 e1;cases z with
  |normal=>simp only[jO]at e1;obtain⟨cF,e1⟩:=e1;exact hk .normal m1 D1 h1 w1 a1 _ ds1 X1 (S1.join cF) e1
  |exit i=>
   simp only[Bk,Exit.inBlock];by_cases hi:i=id
   ·subst hi;simp only[Nat.beq_refl,cj,if_true]at e1 ⊢;cases cF:xA cA L
    ·rw[cF]at e1;cases e1
    ·rw[cF]at e1;exact hk .normal m1 D1 h1 w1 a1 _ ds1 X1 (S1.join cF) e1
   ·rw[iQ hi];simp only[xp hi,cj]at e1;exact hk (.exit i) m1 D1 h1 w1 a1 cA ds1 X1 S1 e1
  |goto i=>exact hk (.goto i) m1 D1 h1 w1 a1 cA ds1 X1 S1 e1
  |ret=>exact hk .ret m1 D1 h1 w1 a1 cA ds1 X1 S1 e1
 |none=>
  simp only[hL]at e;refine hx rc nn _ r (pos++[0]) (mj pl) tm h ds _ m D w a S oJ e ?_;intro z m1 D1 h1 w1 a1 cA ds1 X1 S1 e1;cases z with
  |normal=>exact hk .normal m1 D1 h1 w1 a1 _ ds1 X1 S1 e1
  |exit i=>
   simp only[Bk,Exit.inBlock];by_cases hi:i=id
   ·subst hi;simp only[Nat.beq_refl,cj,if_true]at e1 ⊢;exact hk .normal m1 D1 h1 w1 a1 _ ds1 X1 S1 e1
   ·rw[iQ hi];simp only[xp hi,cj]at e1;exact hk (.exit i) m1 D1 h1 w1 a1 cA ds1 X1 S1 e1
  |goto i=>exact hk (.goto i) m1 D1 h1 w1 a1 cA ds1 X1 S1 e1
  |ret=>exact hk .ret m1 D1 h1 w1 a1 cA ds1 X1 S1 e1
theorem qZs {f n N:Nat} {rd:Option Nat} {x:Code} (hx:g9 P N c f n rd x):g9 P N c f n rd (.loop x):=by
 intro rc nn Q r pos pl tm h ds k m D w a S dv e hk;simp only[vN]at e;have oJ:=JM (q:=[0]) dv (s:=x) (by simp only[zT]);cases hL:ss pl with
 |none=>rw[hL]at e;cases e
 |some L=>
  simp only[hL,jO]at e;obtain⟨cF,e⟩:=e;refine wpIn_loop_rounds N ?_;have key:∀(j:Nat) (s:rb L) (h1:AH) (ds1:List Nat) (m1:Mp) (D1:Nat→Prop) (w1:World) (a1:Act),Ext m D h w m1 D1 h1 w1→St P m1 D1 h1 w1 n ds1 a1 (gL L s .e) rd rc→
    YI (σ:=rb L) j (λih s h ds=>vN P N c f n rd x (pos++[0]) (mj pl) (gL L s .e) h ds λx tm' h ds=>match x with
     | .normal=>cj (xA tm' L) (ih (vi L tm') h ds) none |x=>k x tm' h ds) s h1 ds1=some r→
    Code.roundsIn (FW rc) nn P x Q j a1 w1:=by
   intro j
   induction j with
   |zero=>intro s h1 ds1 m1 D1 w1 a1 _ _ e1;cases e1
   |succ j ih=>
    intro s h1 ds1 m1 D1 w1 a1 X1 S1 e1;rw[roundsIn_succ];refine hx rc nn _ r (pos++[0]) (mj pl) _ h1 ds1 _ m1 D1 w1 a1 S1 oJ e1 ?_;intro z m2 D2 h2 w2 a2 tK sI X2 S2 e2;cases z with
    |normal=>simp only[jO]at e2;obtain⟨Bm,e2⟩:=e2;exact ih _ h2 sI m2 D2 w2 a2 (X1.trans X2) (S2.join Bm) e2
    |exit i=>exact hk (.exit i) m2 D2 h2 w2 a2 tK sI (X1.trans X2) S2 e2
    |goto i=>exact hk (.goto i) m2 D2 h2 w2 a2 tK sI (X1.trans X2) S2 e2
    |ret=>exact hk .ret m2 D2 h2 w2 a2 tK sI (X1.trans X2) S2 e2
  exact key N _ h ds m D w a (Ext.refl ..) (S.join cF) e
end Go.Ae
namespace Go.Ae
open Go
variable {P:Program} {c:CV}
theorem qzL {F:Fence} {n:Nat} {Q:Exit→Act→World→Prop} {a:Act} {w:World} (x:AX) (h:Q (Bk x) a w):(gk x).wpIn F n P Q a w:=by
 cases x with
 |normal=>exact wpIn_skip h
 |exit i=>exact wpIn_exit h
 |goto l=>exact wpIn_goto h
 |ret=>exact wpIn_ret h
theorem qvu {x y:AX} (h:uN x y=true):x=y:=by
 cases x<;>cases y<;>simp only[uN,Bool.false_eq_true]at h ⊢ <;>exact congrArg _ (jd h)
theorem qJE {y:AX} {k:AX→R} {r:AV×AH}:∀{l:List AX},KY (some y) k l=some r→k y=some r:=by
 intro l
 induction l with
 |nil=>intro e;cases e
 |cons x l ih=>
  intro e;simp only[KY,uO]at e;cases hb:uN y x
  ·rw[hb]at e;exact ih e
  ·rw[hb]at e;have:=qvu hb;subst this;exact e
theorem Z8 (L:List Nat) (tm:PT AV):(ga L tm).length=L.length:=by
 induction L with
 |nil=>rfl
 |cons t L ih=>simp[ga,ih]
theorem qX0 {m:Mp} {D:Nat→Prop} {n:Nat} {a:Act} {tm:PT AV} (T:dO m D n a tm):∀{L:List Nat},xA tm L=true→aY D (ga L tm)∧∀p∈L.zip (ga L tm),a.tmps[p.1]? =some (cv m p.2):=by
 intro L
 induction L with
 |nil=>intro _;exact⟨trivial,λp hp=>by cases hp⟩
 |cons t L ih=>
  intro h;simp only[xA,Bool.and_eq_true]at h;obtain⟨h1,h2⟩:=ih h.2;have h0:=h.1;unfold has at h0
  split at h0
  ·rename_i v hv;obtain⟨g1,g2⟩:=T.at_ t v hv;simp only[ga,hv,aY,List.zip_cons_cons,List.mem_cons];refine⟨⟨g2,h1⟩,?_⟩;rintro p (rfl |hp)
   ·exact g1
   ·exact h2 p hp
  ·cases h0
theorem UI (hc:x7 P c) {f n nn:Nat} {rd rc:Option Nat} {g:Operand} {ps:Array Tmp} {assign body:Code} {Q:Exit→Act→World→Prop} {r:AV×AH} {pos:List Nat}
  {tm:PT AV} {h:AH} {ds:List Nat} {k:AX→PT AV→AH→List Nat→R} {m:Mp} {D:Nat→Prop} {w:World} {a:Act} (S:St P m D h w n ds a tm rd rc)
  (dv:∃fn bd,P.funcs[f]? =some fn∧fn.body=some bd∧fn.ntmps=n∧zT bd pos=some (.rangeFunc g ps assign body))
  {vf:AV} (sG:ev tm g=some vf) {L:List Nat} (cF:xA tm L=true)
  (hk:∀x m' D' h' w' a' tm' Bl,Ext m D h w m' D' h' w'→St P m' D' h' w' n Bl a' tm' rd rc→k x tm' h' Bl=some r→Q (Bk x) a' w')
  {d:Nat} {h1:AH} {ds1:List Nat} {m1:Mp} {D1:Nat→Prop} {w1:World} {mark:List Deferred}
  (X1:Ext m D h w m1 D1 h1 w1) (R1:Rel P m1 D1 h1 w1) (hd:D1 d) (oa:nG m1 D1 ds1 (mark++a.defers))
  (Iv:∀fn,(Instr.enterLoop fn a.tmps ps assign body rc).run P w=.ok (w1.heap.size,mark) (w1.alloc (.loop { state:=.ready,pending:=none,fn,tmps:=a.tmps,params:=ps,assign,body,defers:=(m1 d).1 })))
  (e:JT c vf [.yield h1.nx] (h1.new (.loop .ready none f pos L (ga L tm) d)) (λ_ h2=>
    vK h2 h1.nx λp h3=>Xw p (k .normal tm h3 ds1) (KY p (λx=>k x tm h3 ds1) (JB body [])))=some r) :
  (Code.rangeFunc g ps assign body).wpIn (FW rc) nn P Q a w:=by
 refine wpIn_rangeFunc ?_;intro fn _;obtain⟨fnn,bd,Iw,Ix,Iy,hf4⟩:=dv;have T1:=S.tm.mono X1;obtain⟨l1,l2⟩:=qX0 T1 cF;obtain⟨o,ho⟩:∃o,o=Obj.loop { state:=.ready,pending:=none,fn,tmps:=a.tmps,params:=ps,assign,body,defers:=(m1 d).1 }:=⟨_,rfl⟩;have oT:cK P m1 (.loop .ready none f pos L (ga L tm) d) (w1.heap.size,0) (w1.alloc o):=by
  refine⟨fn,a.tmps,ps,g,assign,body,fnn,bd,?_,Iw,Ix,hf4,?_,(Z8 L tm).symm,l2⟩
  ·rw[ho];exact World.alloc_heap_new _ _
  ·rw[Iy];exact S.tm.size
 obtain⟨m2,D2,X2,R2,Bn,EE⟩:∃(m2:Mp) (D2:Nat→Prop),Ext m1 D1 h1 w1 m2 D2 (h1.new (.loop .ready none f pos L (ga L tm) d)) (w1.alloc o)∧
   Rel P m2 D2 (h1.new (.loop .ready none f pos L (ga L tm) d)) (w1.alloc o)∧(m2 h1.nx).1=w1.heap.size∧D2 h1.nx:=by
  have hn:=R1.new (w0:=w1.alloc o) (.loop .ready none f pos L (ga L tm) d) o 0 rfl rfl rfl rfl ⟨l1,hd⟩ oT;exact⟨_,_,hn.1,hn.2,by simp,.inl rfl⟩
 generalize h1.new (.loop .ready none f pos L (ga L tm) d)=hh at*;unfold JT at e
 split at e
 rotate_left
 ·cases e
 rename_i f0 first cap
 rw[kR]at e
 split at e
 rotate_left
 ·cases e
 rename_i q hq;have T2:=T1.mono X2;obtain⟨v1,v2⟩:=T2.ev _ _ sG;have dB:=hc _ _ _ q hq m2 D2 (w1.alloc o) R2 v2 ⟨EE,trivial⟩;obtain⟨k1,k2⟩:=dB;simp only[cv]at v1;have hy:aT m2 [.yield h1.nx]=[.func (.yield w1.heap.size) #[] #[]]:=by simp[aT,cv,Bn]
 refine⟨w1.heap.size,mark,w1.alloc o,{ target:=.fn (.func f0) (aT m2 cap).toArray,args:=(aT m2 first).toArray++ #[.func (.yield w1.heap.size) #[] #[]] },w1.alloc o,f0,
  (aT m2 (first++[.yield h1.nx]++cap)).toArray,w1.alloc o,?_,?_,λ_ _=>trivial,?_,(λhh=>by cases hh),?_⟩
 ·rw[ho];exact Iv fn
 ·unfold resolve rangeCall;simp only[v1];simp[Act.eval,go_sem]
 ·show(callFunc f0 ((aT m2 first).toArray++ #[.func (.yield w1.heap.size) #[] #[]]++(aT m2 cap).toArray)).run P _=_;have hy1:=hy;rw[k1,Jr,Jr,hy];simp
 ·refine CallsIn.mono (show CallsIn (FW rc) (nn-1) P f0 _ _ _ from k2 (nn-1)) ?_;rintro ee w3 ⟨m3,D3,rfl,X3,R3,hd3⟩
  replace e:vK q.2 h1.nx (λp h3=>Xw p (k .normal tm h3 ds1) (KY p (λx=>k x tm h3 ds1) (JB body [])))=some r:=e
  unfold vK at e
  split at e
  rotate_left
  ·cases e
  rename_i st bO f' pos' L' Bo d' cD;have lu:D3 h1.nx:=X3.oD _ EE;obtain⟨x3,Iz,hr3,hi3⟩:=R3.br _ lu;rw[cD]at Iz;cases Iz;obtain⟨fq,tq,pq,gq,aq,bq,IA,IB,bx,q1,q2,q3,q4,q5,q6⟩:=hr3;have sJ:(m3 h1.nx).1=w1.heap.size:=by rw[X3.map _ EE];exact Bn
  rw[sJ]at bx;have cP:st≠.busy:=by intro hs;subst hs;cases e
  have e':Xw bO (k .normal tm (q.2.put h1.nx (.loop .exhausted bO f' pos' L' Bo d')) ds1) (KY bO (λx=>k x tm (q.2.put h1.nx (.loop .exhausted bO f' pos' L' Bo d')) ds1) (JB body []))=some r:=by
   cases st<;>first |exact e |exact absurd rfl cP
  clear e;have bw:=(Array.getElem?_eq_some_iff.1 bx).1;obtain⟨X4,R4⟩:=R3.put (w0:=w3.putObj w1.heap.size (.loop { state:=.exhausted,pending:=bO.map gk,fn:=fq,tmps:=tq,params:=pq,assign:=aq,body:=bq,defers:=(m3 d').1 })) h1.nx (.loop .exhausted bO f' pos' L' Bo d') lu
   ⟨_,cD,trivial⟩ aN (λcc tJ=>World.putObj_heap_other (by rw[sJ]at tJ;exact tJ)) rfl rfl rfl hi3
   ⟨fq,tq,pq,gq,aq,bq,IA,IB,by rw[sJ];exact World.putObj_heap_same bw,q1,q2,q3,q4,q5,q6⟩
  refine⟨bO.map gk,_,run_endLoop bx cP,?_⟩;have XX:=((X1.trans X2).trans X3).trans X4;have SS:St P m3 D3 (q.2.put h1.nx (.loop .exhausted bO f' pos' L' Bo d')) (w3.putObj w1.heap.size (.loop { state:=.exhausted,pending:=bO.map gk,fn:=fq,tmps:=tq,params:=pq,assign:=aq,body:=bq,defers:=(m3 d').1 })) n ds1
    { a with defers:=mark++a.defers } tm rd rc:=⟨R4,⟨(T2.mono (X3.trans X4)).size,(T2.mono (X3.trans X4)).at_⟩,((oa.mono X2).mono X3).mono X4,S.rd.mono XX⟩
  cases bO with
  |none=>exact hk .normal _ _ _ _ _ _ _ XX SS e'
  |some y=>exact qzL y (hk y _ _ _ _ _ _ _ XX SS (qJE e'))
theorem qQf (hc:x7 P c) {f n N:Nat} {rd:Option Nat} {g:Operand} {ps:Array Tmp} {assign body:Code}:g9 P N c f n rd (.rangeFunc g ps assign body):=by
 intro rc nn Q r pos pl tm h ds k m D w a S dv e hk;simp only[vN,qg]at e;obtain⟨vf,sG,e⟩:=e;cases hL:ss pl with
 |none=>rw[hL]at e;cases e
 |some L=>
  simp only[hL,jO]at e;obtain⟨cF,e⟩:=e;cases rd with
  |none=>
   have Dk:=S.rd;simp only[oR]at Dk;subst Dk;have hn:=S.rel.new (w0:=w.alloc (.deferred (some []))) .ij (.deferred (some [])) 0 rfl rfl rfl rfl trivial (World.alloc_heap_new _ _);obtain⟨X,R⟩:=hn;refine UI hc S dv sG cF hk X R (d:=h.nx) (.inl rfl) (ds1:=h.nx::ds) (mark:=[Gw w.heap.size]) ?_ ?_ e
   ·have:=S.df.mono X;refine⟨λb hb=>?_,?_⟩
    ·rcases List.mem_cons.1 hb with rfl |hb
     ·exact .inl rfl
     ·exact this.1 b hb
    ·rw[this.2];simp[Gw]
   ·intro fn;simpa[Gw]using run_enterLoop_outer fn a.tmps ps assign body
  |some l0=>
   obtain⟨lI,Dk⟩:=S.rd;subst Dk;unfold Ng at e;simp only at e
   split at e
   rotate_left
   ·cases e
   rename_i st bO f' pos' L' Bo d cD;obtain⟨x,hx,lE,og⟩:=S.rel.br _ lI;rw[cD]at hx;cases hx;obtain⟨fq,tq,pq,gq,aq,bq,IA,IB,bx,_⟩:=lE;refine UI hc S dv sG cF hk (Ext.refl ..) S.rel (d:=d) og.2 (ds1:=ds) (mark:=[]) S.df ?_ e;intro fn;exact run_enterLoop_inner bx fn a.tmps ps assign body
theorem M9 (hc:x7 P c) (hd:UH P c) (N f n:Nat) (rd:Option Nat) (code:Code):g9 P N c f n rd code:=by
 induction code with
 |skip=>intro rc nn Q r pos pl tm h ds k m D w a S _ e hk;exact wpIn_skip (hk .normal m D h w a tm ds (Ext.refl ..) S e)
 |region id ops d=>exact ZA hc hd
 |seq x y hx hy=>exact qYu hx hy
 |cond o x y hx hy=>exact qXR hx hy
 |block id x hx=>exact Ze hx
 |loop x hx=>exact qZs hx
 |exit id=>intro rc nn Q r pos pl tm h ds k m D w a S _ e hk;exact wpIn_exit (hk (.exit id) m D h w a tm ds (Ext.refl ..) S e)
 |label l=>intro rc nn Q r pos pl tm h ds k m D w a S _ e hk;exact wpIn_label (hk .normal m D h w a tm ds (Ext.refl ..) S e)
 |goto l=>intro rc nn Q r pos pl tm h ds k m D w a S _ e hk;exact wpIn_goto (hk (.goto l) m D h w a tm ds (Ext.refl ..) S e)
 |ret=>intro rc nn Q r pos pl tm h ds k m D w a S _ e hk;exact wpIn_ret (hk .ret m D h w a tm ds (Ext.refl ..) S e)
 |rangeFunc g ps x y hx hy=>exact qQf hc
 |_=>intro rc nn Q r pos pl tm h ds k m D w a S _ e hk;cases e
end Go.Ae
namespace Go.Ae
open Go
variable {P:Program} {c:CV} {m:Mp} {D:Nat→Prop} {h h':AH} {w:World}
def JN (tmps:Array Value):ResultVar→Sem Value
 | .tmp t=>pure (tmps.getD t undef)
 | .cell a t=>do loadVar t (← asAddr (tmps.getD a undef))
theorem qZm (RR:Rel P m D h w) {t:TypeId} {v:AV} (hd:bm D v) (hi:wz P t=some none) {k:AV→R} {r:AV×AH} (e:jB h v k=some r) :
  ∃z,k z=some r∧bm D z∧(do loadVar t (← asAddr (cv m v)):Sem Value).run P w=.ok (cv m z) w:=by
 rcases wZ hi with⟨_,lq⟩ |⟨n,hn,_,_⟩
 rotate_left
 ·cases hn
 simp only[y5]at e
 split at e
 ·rename_i b off
  split at e
  ·rename_i cs t' op' hg;simp only[qg]at e;obtain⟨z,hz,e⟩:=e;obtain⟨z1,z2⟩:=RR.sB hd hg hz;refine⟨z,e,z2,?_⟩;simp only[cv];rw[qV (show(asAddr (.pointer (some ⟨(m b).1,off,none⟩))).run P w=.ok ⟨(m b).1,off,none⟩ w from rfl)];unfold loadVar;rw[qV (vT lq)];exact z1
  ·rename_i ti hg;simp only[qg]at e;obtain⟨z,hz,e⟩:=e;obtain⟨z1,z2⟩:=RR.oF hd hg hz;refine⟨z,e,z2,?_⟩;simp only[cv];rw[qV (show(asAddr (.pointer (some ⟨(m b).1,off,none⟩))).run P w=.ok ⟨(m b).1,off,none⟩ w from rfl)];unfold loadVar;rw[qV (vT lq)];exact z1
  ·cases e
 ·cases e
theorem qXP (RR:Rel P m D h w) {t:TypeId} {v:AV} {n:Nat} (hd:bm D v) (hi:wz P t=some (some n)) {k:AV→R} {r:AV×AH} (e:zc h v n k=some r) :
  ∃z,k z=some r∧bm D z∧(do loadVar t (← asAddr (cv m v)):Sem Value).run P w=.ok (cv m z) w:=by
 rcases wZ hi with⟨hn,_⟩ |⟨n',hn,lq,bw⟩
 ·cases hn
 cases hn;simp only[gt]at e
 split at e
 ·rename_i b off;simp only[qg]at e;obtain⟨z,hz,e⟩:=e;obtain⟨z1,z2,z3⟩:=RR.read hd hz;refine⟨.agg z,e,z2,?_⟩;simp only[cv];rw[qV (show(asAddr (.pointer (some ⟨(m b).1,off,none⟩))).run P w=.ok ⟨(m b).1,off,none⟩ w from rfl)];unfold loadVar;rw[qV (vT lq)];simp only[if_true];rw[qV (run_sizeOf bw),qV z1];rfl
 ·cases e
theorem qvI (RR:Rel P m D h w) {n:Nat} {a:Act} {tm:PT AV} (T:dO m D n a tm) {r:AV×AH}:∀(l:List ResultVar) (k:List AV→R),KR P tm h l k=some r→
  ∃vs,k vs=some r∧aY D vs∧(l.mapM (JN a.tmps)).run P w=.ok (aT m vs) w:=by
 intro l
 induction l with
 |nil=>intro k e;exact⟨[],e,trivial,by rw[List.mapM_nil];rfl⟩
 |cons x l ih=>
  intro k e;cases x with
  |tmp t=>
   simp only[KR,qg]at e;obtain⟨v,hv,e⟩:=e;obtain⟨vs,e1,e2,e3⟩:=ih _ e;obtain⟨h1,h2⟩:=T.at_ t v hv;refine⟨v::vs,e1,⟨h2,e2⟩,?_⟩;rw[List.mapM_cons];have:(JN a.tmps (.tmp t)).run P w=.ok (cv m v) w:=by simp only[JN,Array.getD_eq_getD_getElem?,h1,Option.getD_some];rfl
   rw[qV this,qV e3];rfl
  |cell x t=>
   simp only[KR,qg]at e;obtain⟨v,hv,i,hi,e⟩:=e;obtain⟨h1,h2⟩:=T.at_ x v hv;have key:∃z,KR P tm h l (λl=>k (z::l))=some r∧bm D z∧(JN a.tmps (.cell x t)).run P w=.ok (cv m z) w:=by
    simp only[JN,Array.getD_eq_getD_getElem?,h1,Option.getD_some];cases i with
    |none=>exact qZm RR h2 hi e
    |some n=>exact qXP RR h2 hi e
   obtain⟨z,e,z1,z2⟩:=key;obtain⟨vs,e1,e2,e3⟩:=ih _ e;refine⟨z::vs,e1,⟨z1,e2⟩,?_⟩;rw[List.mapM_cons,qV z2,qV e3];rfl
theorem qgH (m:Mp) (l:List AV):(if h:(aT m l).toArray.size=1 then(aT m l).toArray[0]else .tuple (aT m l).toArray)=cv m (iu l):=by
 match l with
 |[]=>simp[iu,aT,cv]
 |[v]=>simp[iu,aT]
 |v::u::l=>simp[iu,aT,cv]
theorem qQO (RR:Rel P m D h w) {fn:Func} {n:Nat} {a:Act} {tm:PT AV} (T:dO m D n a tm) {r:AV×AH} (e:KR P tm h fn.results.toList (λl=>some (iu l,h))=some r) :
  ∃v,r=(v,h)∧bm D v∧(results fn a.tmps).run P w=.ok (cv m v) w:=by
 obtain⟨vs,e1,e2,e3⟩:=qvI RR T _ _ e;simp only[Option.some.injEq]at e1;refine⟨iu vs,e1.symm,?_,?_⟩
 ·unfold iu
  split
  ·exact e2.1
  ·exact e2
 ·have hm:(fn.results.mapM (JN a.tmps)).run P w=.ok (aT m vs).toArray w:=by
   rw[Array.mapM_eq_mapM_toList];show((fn.results.toList.mapM (JN a.tmps))>>=λl=>pure l.toArray).run P w=_;rw[qV e3];rfl
  show((fn.results.mapM (JN a.tmps))>>=λvs=>pure (if h:vs.size=1 then vs[0]else .tuple vs)).run P w=_;rw[qV hm];show Result.ok _ w=_;rw[qgH]
end Go.Ae
namespace Go.Ae
open Go
variable {P:Program} {c:CV} {m:Mp} {D:Nat→Prop} {h h':AH} {w:World}
theorem Oi {fn:Func} {a:Act} {tm:PT AV} {m0:Mp} {D0:Nat→Prop} {h0:AH} {w0:World} {r:AV×AH} {nn n:Nat} :
  ∀(ds:List Nat) (l:List Deferred) (m:Mp) (D:Nat→Prop) (h:AH) (w:World),Rel P m D h w→Ext m0 D0 h0 w0 m D h w→dO m D n a tm→nG m D ds l→
   zo ds h (λh'=>KR P tm h' fn.results.toList λl=>some (iu l,h'))=some r→
   LeavesInM Fence.wide nn P fn a.tmps (kz P m0 D0 h0 w0 r) l .returning w:=by
 intro ds
 induction ds with
 |nil=>
  intro l m D h w RR X T df e;have:l=[]:=by rw[df.2];rfl
  subst this;obtain⟨v,rfl,v1,v2⟩:=qQO RR T e;exact⟨cv m v,v2,m,D,rfl,X,RR,v1⟩
 |cons d ds ih=>
  intro l m D h w RR X T df e;have hl:l=Gw (m d).1::ds.map (λd=>Gw (m d).1):=df.2;subst hl;have hd:=df.1 d (iK ..);simp only[zo]at e
  split at e
  rotate_left
  ·cases e
  rename_i hg;obtain⟨x,hx,lE,og⟩:=RR.br d hd;rw[hg]at hx;cases hx;have hb:w.heap[(m d).1]? =some (.deferred (some [])):=lE;have bw:=(Array.getElem?_eq_some_iff.1 hb).1;obtain⟨X2,R2⟩:=RR.put (w0:=w.putObj (m d).1 (.deferred none)) d .nr hd ⟨_,hg,trivial⟩ aN (λc hc=>World.putObj_heap_other hc) rfl rfl rfl trivial
   ⟨_,World.putObj_heap_same bw⟩
  refine⟨by simp,.inl ⟨(m d).1,_,rfl,run_takeDeferred hb,?_⟩⟩;exact ih _ m D _ _ R2 (X.trans X2) (T.mono X2) ⟨λb hb=>df.1 b (iX _ hb),rfl⟩ e
theorem qVu:∀(l:List AV) (i:Nat) (t:PT AV) (j:Nat),(uP l i t).get j=if i≤j∧j<i+l.length then l[j-i]? else t.get j:=by
 intro l
 induction l with
 |nil=>intro i t j;simp only[uP,List.length_nil];rw[iQ omQ]
 |cons a l ih=>
  intro i t j;simp only[uP,ih,List.length_cons];by_cases h1:i+1≤j∧j<i+1+l.length
  ·rw[iJ h1,iJ omQ,show j-i=(j-(i+1))+1 by omega];simp
  ·rw[iQ h1,PT.bE];by_cases h2:i=j
   ·subst h2;rw[iJ rfl,iJ omQ];simp
   ·rw[iQ h2,iQ omQ]
theorem qqm (hc:x7 P c) (hd:UH P c) {N:Nat} {pl:Pl} {f:FuncId} {args:List AV} {r:AV×AH} (e:xX P N pl c f args h=some r) (RR:Rel P m D h w) (ha:aY D args) (nn:Nat) :
  CallsIn Fence.wide nn P f (aT m args).toArray w (kz P m D h w r):=by
 simp only[xX,qg]at e;obtain⟨fn,hf,b,hb,e⟩:=e;refine callsIn_of_wp_marks hf hb trivial ?_;have T:dO m D fn.ntmps { tmps:=(aT m args).toArray++Array.replicate (fn.ntmps-(aT m args).toArray.size) undef,defers:=[] } (uP args 0 .e):=by
  refine⟨by simp;omega,?_⟩;intro t v hv;rw[qVu]at hv
  split at hv
  ·rename_i ht;simp only[Nat.sub_zero]at hv;have hm:=List.mem_of_getElem? hv;refine⟨?_,(xJ D args).1 ha v hm⟩;have ap:t<args.length:=by omega
   simp only[];rw[Array.getElem?_append_left (by simp;omega)];simp only[List.getElem?_toArray,zC,List.getElem?_map,hv,Option.map_some]
  ·rw[PT.ey]at hv;cases hv
 refine M9 hc hd N f fn.ntmps none b none nn _ r [] pl _ h [] _ m D w _ ⟨RR,T,⟨λb hb=>(by cases hb),rfl⟩,rfl⟩ ⟨fn,b,hf,hb,rfl,by simp[zT]⟩ e ?_;intro x m1 D1 h1 w1 a1 cA ds1 X1 S1 e1;cases x with
 |normal=>exact Oi ds1 _ m1 D1 h1 w1 S1.rel X1 S1.tm S1.df e1
 |ret=>exact Oi ds1 _ m1 D1 h1 w1 S1.rel X1 S1.tm S1.df e1
 |exit i=>cases e1
 |goto l=>cases e1
theorem qj6 {m:Mp} {D:Nat→Prop} {n:Nat} {a:Act} {k:PT AV→R} {r:AV×AH}:∀(L:List Nat) (vs:List AV) (t:PT AV),dO m D n a t→(∀p∈L.zip vs,a.tmps[p.1]? =some (cv m p.2))→aY D vs→
  rF L vs t k=some r→∃t',k t'=some r∧dO m D n a t':=by
 intro L
 induction L with
 |nil=>
  intro vs t T hz hd e;cases vs with
  |nil=>exact⟨t,e,T⟩
  |cons v vs=>cases e
 |cons x L ih=>
  intro vs t T hz hd e;cases vs with
  |nil=>cases e
  |cons v vs=>
   simp only[rF]at e;refine ih vs _ ?_ (λp hp=>hz p (iX _ hp)) hd.2 e;refine⟨T.size,?_⟩;intro s u hs;rw[PT.bE]at hs;by_cases hx:x=s
   ·subst hx;rw[iJ rfl]at hs;cases hs;exact⟨hz (x,v) (iK ..),hd.1⟩
   ·rw[iQ hx]at hs;exact T.at_ s u hs
theorem qW0 {m:Mp} {D:Nat→Prop} {n:Nat} {k:PT AV→R} {r:AV×AH}:∀(ps:List Tmp) (vs:List AV) (t:PT AV) (tmps:Array Value),dO m D n { tmps,defers:=[] } t→aY D vs→
  Da ps vs n t k=some r→ps.length=vs.length∧∃t',k t'=some r∧dO m D n { tmps:=(ps.zip (aT m vs)).foldl (λtmps (p:Tmp×Value)=>tmps.setIfInBounds p.1 p.2) tmps,defers:=[] } t':=by
 intro ps
 induction ps with
 |nil=>
  intro vs t tmps T hd e;cases vs with
  |nil=>exact⟨rfl,t,e,T⟩
  |cons v vs=>cases e
 |cons p ps ih=>
  intro vs t tmps T hd e;cases vs with
  |nil=>cases e
  |cons v vs=>
   simp only[Da,jO]at e;obtain⟨hp,e⟩:=e;have hp:=jf hp;have T':dO m D n { tmps:=tmps.setIfInBounds p (cv m v),defers:=[] } (t.set p v):=by
    refine⟨by simpa using T.size,?_⟩;intro s u hs;rw[PT.bE]at hs;by_cases hx:p=s
    ·subst hx;rw[iJ rfl]at hs;cases hs;have:=T.size;simp only[]at this;refine⟨?_,hd.1⟩;simp[Array.getElem?_setIfInBounds_self];omega
    ·rw[iQ hx]at hs;obtain⟨h1,h2⟩:=T.at_ s u hs;exact⟨by simp[Array.getElem?_setIfInBounds_ne hx];exact h1,h2⟩
   obtain⟨h1,t',h2,h3⟩:=ih vs _ _ T' hd.2 e;exact⟨by simp[h1],t',h2,h3⟩
end Go.Ae
namespace Go.Ae
open Go
variable {P:Program} {c:CV} {m:Mp} {D:Nat→Prop} {h h':AH} {w:World}
theorem Md {m0:Mp} {D0:Nat→Prop} {h0:AH} {w0:World} {r:AV×AH} {l:Nat} {lc:Nat} {rd rc:Option Nat} {n:Nat} {ds:List Nat} {a:Act} {tm:PT AV} {j:Option AX}
  (S:St P m D h w n ds a tm rd rc) (X:Ext m0 D0 h0 w0 m D h w) (hl:D l) (EF:(m l).1=lc) (e:xR h l j=some r) :
  ∃v w',(Instr.endRound lc (j.map gk)).run P w=.ok v w'∧kz P m0 D0 h0 w0 r (.returned v) w':=by
 subst EF;unfold xR at e
 split at e
 rotate_left
 ·cases e
 rename_i st bO f p L vs d hg;obtain⟨x,hx,lE,og⟩:=S.rel.br l hl;rw[hg]at hx;cases hx;obtain⟨f',tmps,ps,g,assign,body,fn,bd,q1,q2,q3,q4,q5,q6,q7⟩:=lE;have bw:=(Array.getElem?_eq_some_iff.1 q1).1;have he:=run_endRound (P:=P) (j.map gk) q1;refine⟨_,_,he,?_⟩;cases j with
 |none=>
  simp only[Option.some.injEq]at e;obtain⟨X2,R2⟩:=S.rel.put (w0:=w.putObj (m l).1 (.loop { state:=.ready,pending:=none,fn:=f',tmps:=tmps,params:=ps,assign:=assign,body:=body,defers:=(m d).1 })) l
   (.loop .ready none f p L vs d) hl ⟨_,hg,trivial⟩ aN (λc hc=>World.putObj_heap_other hc) rfl rfl rfl og
   ⟨f',tmps,ps,g,assign,body,fn,bd,World.putObj_heap_same bw,q2,q3,q4,q5,q6,q7⟩
  subst e;exact⟨m,D,rfl,X.trans X2,R2,trivial⟩
 |some y=>
  simp only[Option.some.injEq]at e;obtain⟨X2,R2⟩:=S.rel.put (w0:=w.putObj (m l).1 (.loop { state:=.done,pending:=some (gk y),fn:=f',tmps:=tmps,params:=ps,assign:=assign,body:=body,defers:=(m d).1 })) l
   (.loop .done (some y) f p L vs d) hl ⟨_,hg,trivial⟩ aN (λc hc=>World.putObj_heap_other hc) rfl rfl rfl og
   ⟨f',tmps,ps,g,assign,body,fn,bd,World.putObj_heap_same bw,q2,q3,q4,q5,q6,q7⟩
  subst e;exact⟨m,D,rfl,X.trans X2,R2,trivial⟩
theorem qGf (hc:x7 P c) (hd:UH P c) {N:Nat} {pl:Pl} {f:FuncId} {pos L:List Nat} {l:Nat} {vs args:List AV} {r:AV×AH} {st:LoopState} {bO:Option AX} {d:Nat}
  (hg:h.get l=some (.loop st bO f pos L vs d)) (e:Um P N pl c f pos L l vs args h=some r) (RR:Rel P m D h w) (hl:D l) (ha:aY D args):NM P m D h w args r (.yield l):=by
 obtain⟨x,hx,lE,og⟩:=RR.br l hl;rw[hg]at hx;cases hx;obtain⟨f',tmps,ps,g,assign,body,fn,bd,q1,q2,q3,q4,q5,q6,q7⟩:=lE;simp only[Um,qg]at e;obtain⟨Dl,IC,EG,bA,s,hs,e⟩:=e;rw[q2]at IC;cases IC;rw[q3]at bA;cases bA;rw[q4]at hs;cases hs;simp only[]at e;have T0:dO m D fn.ntmps { tmps:=tmps,defers:=[] } .e:=⟨q5,λt v hv=>by rw[PT.ey]at hv;cases hv⟩;obtain⟨Eb,e,T1⟩:=qj6 L vs .e T0 q7 og.1 e;obtain⟨hlen,cA,e,T2⟩:=qW0 ps.toList args Eb tmps T1 ha e;have bw:(aT m args).toArray.size=ps.size:=by simp only[List.size_toArray,dN];rw[← hlen];simp
 have hy:=run_yield (P:=P) (args:=(aT m args).toArray) q1 bw;refine⟨f',_,assign,body,hy,?_⟩;intro nn;have Bp:(ps.zip (aT m args).toArray).foldl (λtmps (x:Tmp×Value)=>tmps.setIfInBounds x.1 x.2) tmps=(ps.toList.zip (aT m args)).foldl (λtmps (x:Tmp×Value)=>tmps.setIfInBounds x.1 x.2) tmps:=by rw[← Array.foldl_toList,Array.toList_zip]
 refine roundIn_of_wpIn trivial ?_;simp only[];have tL:(ps.zip (aT m args).toArray).foldl (λtmps (x:Tmp×Value)=>match x with |(t,a)=>tmps.setIfInBounds t a) tmps=(ps.toList.zip (aT m args)).foldl (λtmps (x:Tmp×Value)=>tmps.setIfInBounds x.1 x.2) tmps:=Bp;rw[tL];have dv:∃Dl EG,P.funcs[f]? =some Dl∧Dl.body=some EG∧Dl.ntmps=fn.ntmps∧zT EG pos=some (.rangeFunc g ps assign body):=⟨fn,bd,q2,q3,rfl,q4⟩;have EH:=JM (q:=[0]) dv (s:=assign) (by simp only[zT];rfl);have EI:=JM (q:=[1]) dv (s:=body) (by simp only[zT];rfl);refine M9 hc hd N f fn.ntmps (some l) assign (some (m l).1) nn _ r (pos++[0]) (mj pl) _ h [] _ m D w _ ⟨RR,T2,⟨λb hb=>(by cases hb),rfl⟩,⟨hl,rfl⟩⟩ EH e ?_;intro x m1 D1 h1 w1 a1 cA ds1 X1 S1 e1;cases x with
 |exit i=>cases e1
 |goto i=>cases e1
 |ret=>cases e1
 |normal=>
  simp only[]at e1;unfold JF at e1
  split at e1
  rotate_left
  ·cases e1
  rename_i sK f1 EJ L1 vs1 d1 tM;have rf:=X1.oD l hl;have nH:(m1 l).1=(m l).1:=by rw[X1.map l hl]
  obtain⟨x,hx,lE,EL⟩:=S1.rel.br l rf;rw[tM]at hx;cases hx;obtain⟨f2,sL,ID,g2,mQ,sM,fn2,bd2,p1,p2,p3,p4,p5,p6,p7⟩:=lE;rw[nH]at p1;have oP:=(Array.getElem?_eq_some_iff.1 p1).1;refine⟨_,run_beginRound p1 rfl,?_⟩;obtain⟨X2,R2⟩:=S1.rel.put (w0:=w1.putObj (m l).1 (.loop { state:=.busy,pending:=sK.map gk,fn:=f2,tmps:=sL,params:=ID,assign:=mQ,body:=sM,defers:=(m1 d1).1 })) l
   (.loop .busy sK f1 EJ L1 vs1 d1) rf ⟨_,tM,trivial⟩ aN (λc hc=>World.putObj_heap_other (by rw[nH]at hc;exact hc)) rfl rfl rfl EL
   ⟨f2,sL,ID,g2,mQ,sM,fn2,bd2,by rw[nH];exact World.putObj_heap_same oP,p2,p3,p4,p5,p6,p7⟩
  refine M9 hc hd N f fn.ntmps (some l) body (some (m l).1) nn _ r (pos++[1]) (sr pl) _ _ ds1 _ m1 D1 _ _ ⟨R2,S1.tm.mono X2,S1.df.mono X2,S1.rd.mono X2⟩ EI e1 ?_;intro y m3 D3 h3 w3 a3 tm3 ds3 X3 S3 e3;have XX:=(X1.trans X2).trans X3;have Dm:=XX.oD l hl;have sJ:(m3 l).1=(m l).1:=by rw[XX.map l hl]
  cases y with
  |normal=>exact Md S3 XX Dm sJ e3
  |exit i=>exact Md (j:=some (.exit i)) S3 XX Dm sJ e3
  |goto i=>exact Md (j:=some (.goto i)) S3 XX Dm sJ e3
  |ret=>exact Md (j:=some .ret) S3 XX Dm sJ e3
def nI (P:Program) (f:Nat) (w:WF):Prop:=∀c l h r,w c l h=some r→∀m D W,Rel P m D h W→aY D l→∀n,CallsIn Fence.wide n P f (aT m l).toArray W (kz P m D h W r)
def WX (P:Program) (f:Nat) (w:WF):Prop:=fk P f w∨nI P f w
structure TabOk (P:Program) (tab:BT) (rt:List RT):Prop where
  w:∀f g,tab.get f=some g→WX P f g
  enter:∀f g,tab.get f=some g→∀(as:Array Value) (W:World),(callFunc f as).run P W=.ok (.enter f as) W
  r:∀p∈rt,AD P p.f p.pos p.L p.run
theorem OP:∀{a b:List Nat},YZ a b=true→a=b:=by
 intro a
 induction a with
 |nil=>intro b h;cases b<;>first |rfl |cases h
 |cons x a ih=>
  intro b h;cases b with
  |nil=>cases h
  |cons y b=>simp only[YZ,Bool.and_eq_true]at h;rw[jd h.1,ih h.2]
theorem Oe:∀{rt:List RT} {f:Nat} {pos L:List Nat} {g:VF},XU rt f pos L=some g→∃p∈rt,p.f=f∧p.pos=pos∧p.L=L∧p.run=g:=by
 intro rt
 induction rt with
 |nil=>intro f pos L g h;cases h
 |cons x rt ih=>
  intro f pos L g h;simp only[XU]at h;cases hb:Nat.beq x.f f&&(YZ x.pos pos&&YZ x.L L)
  ·rw[hb]at h;obtain⟨p,hp,hh⟩:=ih h;exact⟨p,iX _ hp,hh⟩
  ·rw[hb]at h;simp only[Bool.and_eq_true]at hb;simp only[cond_true,Option.some.injEq]at h;exact⟨x,iK ..,jd hb.1,OP hb.2.1,OP hb.2.2,h⟩
theorem WX.call {f:Nat} {g:WF} {args:List AV} {r:AV×AH} (x:WX P f g) (hc:x7 P c) (hd:UH P c) (e:g c args h=some r) (RR:Rel P m D h w) (ha:aY D args) (n:Nat):CallsIn Fence.wide n P f (aT m args).toArray w (kz P m D h w r):=by
 rcases x with x |x
 ·obtain⟨pl,e⟩:=x _ _ _ _ e;exact qqm hc hd e RR ha n
 ·exact x _ _ _ _ e m D w RR ha n
theorem qVm {tab:BT} {rt:List RT} (ht:TabOk P tab rt) (hd:∀c,x7 P c→UH P c):∀k,x7 P (callT tab rt k):=by
 intro k
 induction k with
 |zero=>intro vf args h r e;cases e
 |succ k ih=>
  intro vf args h r e m D w RR hv ha;cases vf with
  |fn f first cap=>
   have e:Option.rec (motive:=λ_=>R) none (λg=>g (callT tab rt k) (first++args++cap) h) (BT.get tab f)=some r:=e;cases hg:BT.get tab f with
   |some g=>rw[hg]at e;refine⟨ht.enter f g hg,λn=>(ht.w f g hg).call ih (hd _ ih) e RR ?_ n⟩;exact yp.2 ⟨yp.2 ⟨hv.1,ha⟩,hv.2⟩
   |none=>rw[hg]at e;cases e
  |yield l=>
   have e:(match h.get l with
    |some (.loop .ready _ f pos L vs _)=>(match XU rt f pos L with |some g=>g (callT tab rt k) l vs args h |none=>none)
    |_=>none)=some r:=e
   split at e
   ·rename_i bO f pos L vs d hg
    split at e
    ·rename_i g hgr;obtain⟨p,hp,rfl,rfl,rfl,rfl⟩:=Oe hgr;obtain⟨pl,e⟩:=ht.r p hp _ _ _ _ _ _ e;exact qGf ih (hd _ ih) hg e RR hv ha
    ·cases e
   ·cases e
  |_=>cases e
end Go.Ae
