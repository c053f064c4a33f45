/- The abstract executor of the program's form in Lean, shown sound: operations one behind the other; code; functions; rounds; tables. -/
import Derived.Test.YtbiljkdgeekpbacGreatDoorMachineOneAe3
import Derived.LoopNIn
import Derived.RangeFuncRecord
import Derived.RangeFuncNested
namespace Go.Ae
open Go
variable {P:Program} {c:CV}
abbrev bnd (x:R) (k:AV→AH→R):R:=x.bind λq=>k q.1 q.2
theorem jQ {α:Type} {x:Option α} {f:α→R} {k:AV→AH→R}:bnd (ob x f) k=ob x λa=>bnd (f a) k:=by cases x<;>rfl
theorem Q4 {b:Bool} {x y:R} {k:AV→AH→R}:bnd (cnd b x y) k=cnd b (bnd x k) (bnd y k):=by cases b<;>rfl
theorem jB {b:Bool} {x y:R} {k:AV→AH→R}:bnd (bif b then x else y) k=bif b then bnd x k else bnd y k:=by cases b<;>rfl
theorem xZ {k:AV→AH→R}:bnd none k=none:=rfl
theorem jr {v:AV} {h:AH} {k:AV→AH→R}:bnd (some (v,h)) k=k v h:=rfl
theorem qb {α:Type} {x:Option α} {f g:α→R} (h:∀a,f a=g a):ob x f=ob x g:=by cases x<;>simp only[ob,h]
theorem qu {b:Bool} {x y x' y':R} (h:x=x') (h':y=y'):(bif b then x else y)=(bif b then x' else y'):=by rw[h,h']
theorem jQ1 (a b d:AV) (h:AH) (k:AV→AH→R):bnd (ky a b d λz=>some (z,h)) k=ky a b d λz=>k z h:=by simp only[Z3];repeat' (first |rfl |(simp only[Q4,jr];done) |(rw[jQ];refine qb λ_=>?_) |(rw[jB];refine qu ?_ ?_) |split)
theorem b_nil (a:AV) (h:AH) (k:AV→AH→R):bnd (xm a λz=>some (z,h)) k=xm a λz=>k z h:=by unfold xm;repeat' (first |rfl |(simp only[];done) |(rw[jQ];refine qb λ_=>?_) |(rw[jB];refine qu ?_ ?_) |split)
theorem qq3 (a:AV) (n:Nat) (h:AH) (k:AV→AH→R):bnd (qt a n λz=>some (z,h)) k=qt a n λz=>k z h:=by simp only[Vp];repeat' (first |rfl |(simp only[];done) |(rw[jQ];refine qb λ_=>?_) |(rw[jB];refine qu ?_ ?_) |split)
theorem qg3 (a:AV) (n:Nat) (h:AH) (k:AV→AH→R):bnd (Yt a n λz=>some (z,h)) k=Yt a n λz=>k z h:=by simp only[Og];repeat' (first |rfl |(simp only[jQ,jr];done) |(rw[jQ];refine qb λ_=>?_) |(rw[jB];refine qu ?_ ?_) |split)
theorem qgH (a:AV) (n m:Nat) (h:AH) (k:AV→AH→R):bnd (Xr a n m λz=>some (z,h)) k=Xr a n m λz=>k z h:=by unfold Xr;repeat' (first |rfl |(simp only[jQ,jr];done) |(rw[jQ];refine qb λ_=>?_) |(rw[jB];refine qu ?_ ?_) |split)
theorem qyi (a b:AV) (n:Nat) (h:AH) (k:AV→AH→R):bnd (gF a b n λz=>some (z,h)) k=gF a b n λz=>k z h:=by simp only[Ut];repeat' (first |rfl |(simp only[jB,xZ,jr];done) |(rw[jQ];refine qb λ_=>?_) |(rw[jB];refine qu ?_ ?_) |split)
theorem qyl (a b:AV) (n m:Nat) (h:AH) (k:AV→AH→R):bnd (QC a b n m λz=>some (z,h)) k=QC a b n m λz=>k z h:=by unfold QC;repeat' (first |rfl |(simp only[jB,xZ,jr];done) |(rw[jQ];refine qb λ_=>?_) |(rw[jB];refine qu ?_ ?_) |split)
theorem qgA (a b:AV) (n m:Nat) (h:AH) (k:AV→AH→R):bnd (XN a b n m λz=>some (z,h)) k=XN a b n m λz=>k z h:=by unfold XN;repeat' (first |rfl |(simp only[jQ,jB,xZ,jr];done) |(rw[jQ];refine qb λ_=>?_) |(rw[jB];refine qu ?_ ?_) |split)
theorem qvU (a b:AV) (n m:Nat) (h:AH) (k:AV→AH→R):bnd (XP a b n m λz=>some (z,h)) k=XP a b n m λz=>k z h:=by unfold XP;repeat' (first |rfl |(simp only[jQ,jB,xZ,jr];done) |(rw[jQ];refine qb λ_=>?_) |(rw[jB];refine qu ?_ ?_) |split)
theorem qqp (a b:AV) (h:AH) (k:AV→AH→R):bnd (gj a b λz=>some (z,h)) k=gj a b λz=>k z h:=by unfold gj;repeat' (first |rfl |(simp only[jQ,jr];done) |(rw[jQ];refine qb λ_=>?_) |(rw[jB];refine qu ?_ ?_) |split)
theorem qv1 (h0:AH) (a:AV) (h:AH) (k:AV→AH→R):bnd (jN h0 a λz=>some (z,h)) k=jN h0 a λz=>k z h:=by simp only[vM];repeat' (first |rfl |(simp only[jQ,jr];done) |(rw[jQ];refine qb λ_=>?_) |(rw[jB];refine qu ?_ ?_) |split)
theorem qwP (h0:AH) (a:AV) (n:Nat) (h:AH) (k:AV→AH→R):bnd (zO h0 a n λz=>some (z,h)) k=zO h0 a n λz=>k z h:=by simp only[wu];repeat' (first |rfl |(simp only[jQ,jr];done) |(rw[jQ];refine qb λ_=>?_) |(rw[jB];refine qu ?_ ?_) |split)
theorem b_int (op:BinOp) (a b:AV) (h:AH) (k:AV→AH→R):bnd (zG op a b λz=>some (z,h)) k=zG op a b λz=>k z h:=by simp only[O8];repeat' (first |rfl |(simp only[jQ,jB,xZ,jr];done) |(rw[jQ];refine qb λ_=>?_) |(rw[jB];refine qu ?_ ?_) |split)
theorem qvD (op:BinOp) (a b:AV) (h:AH) (k:AV→AH→R):bnd (wM op a b λz=>some (z,h)) k=wM op a b λz=>k z h:=by unfold wM;repeat' (first |rfl |(simp only[jQ,jr];done) |(rw[jQ];refine qb λ_=>?_) |(rw[jB];refine qu ?_ ?_) |split)
theorem b_str (op:BinOp) (a b:AV) (h:AH) (k:AV→AH→R):bnd (MN op a b λz=>some (z,h)) k=MN op a b λz=>k z h:=by unfold MN;repeat' (first |rfl |(simp only[jQ,jr];done) |(rw[jQ];refine qb λ_=>?_) |(rw[jB];refine qu ?_ ?_) |split)
theorem b_eq (d:EK) (n:Bool) (a b:AV) (h:AH) (k:AV→AH→R):bnd (pEq d n a b λz=>some (z,h)) k=pEq d n a b λz=>k z h:=by unfold pEq;repeat' (first |rfl |(simp only[jQ,jr];done) |(rw[jQ];refine qb λ_=>?_) |(rw[jB];refine qu ?_ ?_) |split)
theorem b_eqS (d:List ES) (n:Bool) (a b:AV) (h:AH) (k:AV→AH→R):bnd (G4 d n a b λz=>some (z,h)) k=G4 d n a b λz=>k z h:=by unfold G4;repeat' (first |rfl |(simp only[jQ,jr];done) |(rw[jQ];refine qb λ_=>?_) |(rw[jB];refine qu ?_ ?_) |split)
theorem b_un (op:UnOp) (a:AV) (h:AH) (k:AV→AH→R):bnd (pUn op a λz=>some (z,h)) k=pUn op a λz=>k z h:=by unfold pUn;repeat' (first |rfl |(simp only[];done) |(rw[jQ];refine qb λ_=>?_) |(rw[jB];refine qu ?_ ?_) |split)
theorem qw2 (d:IntKind) (a:AV) (h:AH) (k:AV→AH→R):bnd (vi d a λz=>some (z,h)) k=vi d a λz=>k z h:=by unfold vi;repeat' (first |rfl |(simp only[];done) |(rw[jQ];refine qb λ_=>?_) |(rw[jB];refine qu ?_ ?_) |split)
theorem qgm (a:AV) (h:AH) (k:AV→AH→R):bnd (XC a λz=>some (z,h)) k=XC a λz=>k z h:=by unfold XC;repeat' (first |rfl |(simp only[];done) |(rw[jQ];refine qb λ_=>?_) |(rw[jB];refine qu ?_ ?_) |split)
theorem b_b2s (h0:AH) (a:AV) (h:AH) (k:AV→AH→R):bnd (Vv h0 a λz=>some (z,h)) k=Vv h0 a λz=>k z h:=by unfold Vv;repeat' (first |rfl |(simp only[jQ,jr];done) |(rw[jQ];refine qb λ_=>?_) |(rw[jB];refine qu ?_ ?_) |split)
theorem qxm (a:AV) (lo hi:Option AV) (h:AH) (k:AV→AH→R):bnd (gX a lo hi λz=>some (z,h)) k=gX a lo hi λz=>k z h:=by unfold gX;repeat' (first |rfl |(simp only[jQ,jr];done) |(rw[jQ];refine qb λ_=>?_) |(rw[jB];refine qu ?_ ?_) |split)
theorem ZS (h0:AH) (e:TypeId) (n:Nat) (a:AV) (lo hi:Option AV) (h:AH) (k:AV→AH→R):bnd (xY h0 e n a lo hi λz=>some (z,h)) k=xY h0 e n a lo hi λz=>k z h:=by unfold xY;repeat' (first |rfl |(simp only[jQ,jB,xZ,jr];done) |(rw[jQ];refine qb λ_=>?_) |(rw[jB];refine qu ?_ ?_) |split)
theorem qjP (n m:Nat) (a:AV) (lo hi:Option AV) (h:AH) (k:AV→AH→R):bnd (gk n m a lo hi λz=>some (z,h)) k=gk n m a lo hi λz=>k z h:=by unfold gk;repeat' (first |rfl |(simp only[jQ,jr];done) |(rw[jQ];refine qb λ_=>?_) |(rw[jB];refine qu ?_ ?_) |split)
theorem qKO (t:TypeId) (z a:AV) (h:AH) (k:AV→AH→R):bnd (x9 t z a λz=>some (z,h)) k=x9 t z a λz=>k z h:=by unfold x9;repeat' (first |rfl |(simp only[jB,jr];done) |(rw[jQ];refine qb λ_=>?_) |(rw[jB];refine qu ?_ ?_) |split)
theorem qzT (t:TypeId) (a:AV) (h:AH) (k:AV→AH→R):bnd (ki t a λz=>some (z,h)) k=ki t a λz=>k z h:=by unfold ki;repeat' (first |rfl |(simp only[jB,xZ,jr];done) |(rw[jQ];refine qb λ_=>?_) |(rw[jB];refine qu ?_ ?_) |split)
theorem qG3 (a:AV) (n:Nat) (h:AH) (k:AV→AH→R):bnd (z8 a n λz=>some (z,h)) k=z8 a n λz=>k z h:=by simp only[XZ];repeat' (first |rfl |(simp only[jQ,jr];done) |(rw[jQ];refine qb λ_=>?_) |(rw[jB];refine qu ?_ ?_) |split)
theorem qyf (a:AV) (h:AH) (k:AV→AH→R):bnd (kF a λz=>some (z,h)) k=kF a λz=>k z h:=by unfold kF;repeat' (first |rfl |(simp only[];done) |(rw[jQ];refine qb λ_=>?_) |(rw[jB];refine qu ?_ ?_) |split)
theorem qkF (a:AV) (h:AH) (k:AV→AH→R):bnd (Qu a λz=>some (z,h)) k=Qu a λz=>k z h:=by unfold Qu;repeat' (first |rfl |(simp only[];done) |(rw[jQ];refine qb λ_=>?_) |(rw[jB];refine qu ?_ ?_) |split)
theorem b_mm (b:Bool) (l:List AV) (h:AH) (k:AV→AH→R):bnd (pMM b l λz=>some (z,h)) k=pMM b l λz=>k z h:=by unfold pMM;repeat' (first |rfl |(simp only[jQ,jB,xZ,jr];done) |(rw[jQ];refine qb λ_=>?_) |(rw[jB];refine qu ?_ ?_) |split)
theorem qwM (z:List AV) (vs:List (Nat×Nat×AV)) (h:AH) (k:AV→AH→R):bnd (yg z vs λz=>some (z,h)) k=yg z vs λz=>k z h:=by unfold yg;repeat' (first |rfl |(simp only[jQ,jr];done) |(rw[jQ];refine qb λ_=>?_) |(rw[jB];refine qu ?_ ?_) |split)
theorem b_s2b (h0:AH) (e:TypeId) (a:AV) (k:AV→AH→R):bnd (ZH h0 e a λz h=>some (z,h)) k=ZH h0 e a k:=by unfold ZH;repeat' (first |rfl |(simp only[jB,xZ,jr];done) |(rw[jQ];refine qb λ_=>?_) |(rw[jB];refine qu ?_ ?_) |split)
theorem b_box (h0:AH) (e:TypeId) (a:AV) (k:AV→AH→R):bnd (gi h0 e a λz h=>some (z,h)) k=gi h0 e a k:=by unfold gi;repeat' (first |rfl |(simp only[jB,xZ,jr];done) |(rw[jQ];refine qb λ_=>?_) |(rw[jB];refine qu ?_ ?_) |split)
theorem qY5 (h0:AH) (e:TypeId) (z:List AV) (n:Nat) (vs:List (Nat×Nat×AV)) (k:AV→AH→R):bnd (xX h0 e z n vs λz h=>some (z,h)) k=xX h0 e z n vs k:=by unfold xX;repeat' (first |rfl |(simp only[jQ,jB,xZ,jr];done) |(rw[jQ];refine qb λ_=>?_) |(rw[jB];refine qu ?_ ?_) |split)
theorem qy0 (h0:AH) (e:TypeId) (z:List AV) (a b:AV) (k:AV→AH→R):bnd (Qv h0 e z a b λz h=>some (z,h)) k=Qv h0 e z a b k:=by unfold Qv;repeat' (first |rfl |(simp only[jB,xZ,jr];done) |(rw[jQ];refine qb λ_=>?_) |(rw[jB];refine qu ?_ ?_) |split)
theorem qXn (h0:AH) (e:TypeId) (sz:Nat) (a:AV) (n:Nat) (new:CT) (k:AV→AH→R):bnd (yc h0 e sz a n new λz h=>some (z,h)) k=yc h0 e sz a n new k:=by unfold yc;repeat' (first |rfl |(simp only[jQ,jB,xZ,jr];done) |(rw[jQ];refine qb λ_=>?_) |(rw[jB];refine qu ?_ ?_) |split)
theorem qx2 (h0:AH) (e:TypeId) (sz:Nat) (a b:AV) (k:AV→AH→R):bnd (xx h0 e sz a b λz h=>some (z,h)) k=xx h0 e sz a b k:=by unfold xx;repeat' (first |rfl |(simp only[jQ,jB,xZ];done) |exact qXn _ _ _ _ _ _ _ |(rw[jQ];refine qb λ_=>?_) |(rw[jB];refine qu ?_ ?_) |split)
theorem jQD (h0:AH) (sz:Nat) (a b:AV) (k:AV→AH→R):bnd (Yc h0 sz a b λz h=>some (z,h)) k=Yc h0 sz a b k:=by unfold Yc;repeat' (first |rfl |(simp only[jQ,jB,jr];done) |(rw[jQ];refine qb λ_=>?_) |(rw[jB];refine qu ?_ ?_) |split)
theorem qyA (h0:AH) (a:AV) (k:AV→AH→R):bnd (Xt h0 a λz h=>some (z,h)) k=Xt h0 a k:=by unfold Xt;repeat' (first |rfl |(simp only[];done) |(rw[jQ];refine qb λ_=>?_) |(rw[jB];refine qu ?_ ?_) |split)
theorem jQO (h0:AH) (a:AV) (k:AV→AH→R):bnd (K6 h0 a λz h=>some (z,h)) k=K6 h0 a k:=by unfold K6;repeat' (first |rfl |(simp only[jB,jr];done) |(rw[jQ];refine qb λ_=>?_) |(rw[jB];refine qu ?_ ?_) |split)
theorem qx0 (f:AV) (a:List AV) (h0:AH) (k:AV→AH→R):bnd (zz c f a h0 λz h=>some (z,h)) k=zz c f a h0 k:=by simp only[QR];repeat' (first |rfl |(simp only[];done) |(rw[jQ];refine qb λ_=>?_) |(rw[jB];refine qu ?_ ?_) |split)
theorem qqO (l:List (Nat×Nat)) (v:AV) (a:List AV) (h0:AH) (k:AV→AH→R):bnd (yR c l v a h0 λz h=>some (z,h)) k=yR c l v a h0 k:=by
 unfold yR;cases v<;>first |rfl |skip
 rename_i t x;simp only[];cases UV l t with
 |none=>rfl
 |some f=>exact qx0 _ _ _ _
theorem jQR (h0 h1:AH) (v:AV) (k:AV→AH→R):bnd (Uj h0 v λz=>some (z,h1)) k=Uj h0 v λz=>k z h1:=by
 unfold Uj
 repeat' (first |rfl |split)
theorem qG0 (h0:AH) (k:AV→AH→R):bnd (Qj h0 λz h=>some (z,h)) k=Qj h0 k:=rfl
theorem qvi (h0 h1:AH) (v i:AV) (k:AV→AH→R):bnd (Xd h0 v i λz=>some (z,h1)) k=Xd h0 v i λz=>k z h1:=by
 unfold Xd
 repeat' (first |rfl |split)
theorem jQi (h0:AH) (v i:AV) (k:AV→AH→R):bnd (Ku h0 v i λz h=>some (z,h)) k=Ku h0 v i k:=by
 unfold Ku
 repeat' (first |rfl |split)
theorem b_stM (h0:AH) (v i y:AV) (k:AV→AH→R):bnd (qQS h0 v i y λh=>some (.undef,h)) k=qQS h0 v i y λh=>k .undef h:=by
 unfold qQS
 repeat' (first |rfl |split)
theorem jQe (h0:AH) (v i y:AV) (k:AV→AH→R):bnd (K9 h0 v i y λh=>some (.undef,h)) k=K9 h0 v i y λh=>k .undef h:=by
 unfold K9
 repeat' (first |rfl |split)
theorem jQ5 (h0:AH) (v i:AV) (k:AV→AH→R):bnd (Uq h0 v i λz h=>some (z,h)) k=Uq h0 v i k:=by
 unfold Uq
 repeat' (first |rfl |split)
theorem qwB (h0:AH) (a b:AV) (n:Nat) (k:AV→AH→R):bnd (jd h0 a b n λh=>some (.undef,h)) k=jd h0 a b n λh=>k .undef h:=by simp only[Kb];repeat' (first |rfl |(simp only[jQ,jB,xZ,jr];done) |(rw[jQ];refine qb λ_=>?_) |(rw[jB];refine qu ?_ ?_) |split)
theorem b_bin (op:BinOp) (t:TypeId) (a b:AV) (h:AH) (k:AV→AH→R):bnd (qxA P op t a b λz=>some (z,h)) k=qxA P op t a b λz=>k z h:=by
 cases op<;>simp only[qxA,jQ,qvD]<;>refine qb λd=>?_
 all_goals cases d<;>simp only[b_int,b_str,b_eq,b_eqS,jQ,Q4,xZ]
theorem jQt (s d:TypeId) (v:AV) (h:AH) (k:AV→AH→R):bnd (MD P s d v h λz h=>some (z,h)) k=MD P s d v h k:=by
 simp only[MD,jQ];refine qb λds=>qb λdd=>?_;cases dd<;>cases ds<;>simp only[qw2,qgm,xZ,jQ]<;>refine qb λe=>?_
 all_goals
  cases e<;>first |rfl |skip
  rename_i q;cases q<;>simp only[xZ,b_b2s,jQ,Q4,b_s2b]
theorem qVm (o:Op) (r:Operand→Option AV) (h:AH) (k:AV→AH→R):opK P c o r h k=bnd (opS P c o r h) k:=by
 unfold opS;cases o
 case convert s d x=>show(ob (r x) λv=>MD P s d v h k)=bnd (ob (r x) λv=>MD P s d v h λv h'=>some (v,h')) k;rw[jQ];exact qb λv=>(jQt s d v h k).symm
 all_goals simp only[opK,jQ,xZ,jr,Q4,jQ1,b_box,qwB,b_nil,b_bin,b_un,qq3,qG3,jQO,qvi,jQi,jQe,b_stM]
 case slice t x lo hi mx=>
  cases mx<;>simp only[jQ,xZ]
  refine qb λ_=>qb λ_=>qb λ_=>qb λd=>?_;cases d<;>(first |rfl |simp only[jQ,qxm,ZS,qjP])
 case build=>refine qb λ_=>qb λd=>?_;cases d<;>(first |rfl |simp only[jQ,qwM])
 case buildSlice=>refine qb λd=>?_;cases d<;>(first |rfl |simp only[jQ,xZ,Q4,qY5])
 case load=>refine qb λ_=>qb λd=>?_;cases d<;>(first |rfl |simp only[qv1,qwP])
 case makeInterface=>refine qb λd=>?_;cases d<;>(first |rfl |simp only[jQ,jr])
 case makeFunc fn _ _=>cases fn<;>(first |rfl |simp only[jQ,jr])
 case makeSlice=>refine qb λd=>?_;cases d<;>(first |rfl |simp only[jQ,qy0])
 case field=>refine qb λ_=>qb λd=>?_;obtain⟨d,e⟩:=d;cases e<;>(first |rfl |simp only[qg3,qgH])
 case indexAddr=>refine qb λ_=>qb λ_=>qb λd=>?_;cases d<;>(first |rfl |simp only[jQ,xZ,Q4,qyi,qyl])
 case index=>refine qb λ_=>qb λ_=>qb λd=>?_;cases d<;>(first |rfl |simp only[jQ,Q4,qqp,qgA,qvU])
 case makeMap t hint=>cases hint<;>simp only[xZ,Q4,qG0]
 case range=>refine qb λd=>?_;cases d<;>(first |rfl |simp only[jQ,qyA])
 case typeAssert=>refine qb λ_=>qb λd=>?_;cases d<;>(first |rfl |simp only[jQ,Q4,qzT,qKO])
 case call cl=>
  cases cl.callee with
  |value f=>(first |rfl |simp only[jQ,qx0])
  |invoke _ _=>(first |rfl |simp only[jQ,qqO])
  |builtin b=>
   cases b<;>first |rfl |(simp only[jQ,b_mm];done) |skip
   case len=>
    generalize cl.args.toList=xs;generalize cl.argTypes.toList=ts;cases xs<;>cases ts<;>first |rfl |skip
    simp only[jQ];refine qb λ_=>qb λd=>?_;cases d<;>(first |rfl |simp only[qkF,qyf,jQR])
   case append=>
    generalize cl.args.toList=xs;generalize cl.argTypes.toList=ts;rcases xs with _ |⟨s,_ |⟨x,_ |⟨y,xs⟩⟩⟩<;>rcases ts with _ |⟨t,_ |⟨u,ts⟩⟩<;>first |rfl |skip
    simp only[jQ];refine qb λdu=>?_;cases du<;>first |rfl |skip
    all_goals
     simp only[jQ];refine qb λd=>?_;cases d<;>(first |rfl |simp only[jQ,qx2])
   case copy=>
    generalize cl.args.toList=xs;generalize cl.argTypes.toList=ts;rcases xs with _ |⟨s,_ |⟨x,_ |⟨y,xs⟩⟩⟩<;>rcases ts with _ |⟨t,ts⟩<;>first |rfl |skip
    simp only[jQ];refine qb λd=>?_;cases d<;>(first |rfl |simp only[jQ,jQD])
   case delete=>
    generalize cl.args.toList=xs;generalize cl.argTypes.toList=ts;rcases xs with _ |⟨s,_ |⟨x,_ |⟨y,xs⟩⟩⟩<;>rcases ts with _ |⟨t,ts⟩<;>first |rfl |skip
    simp only[jQ,Q4,xZ,jQ5]
theorem Xw {o:Op} {r:Operand→Option AV} {h:AH} {k:AV→AH→R} {q:AV×AH} (e:opK P c o r h k=some q) :
  ∃v h',opS P c o r h=some (v,h')∧k v h'=some q:=by
 rw[qVm]at e;cases hs:opS P c o r h with
 |none=>rw[hs]at e;cases e
 |some z=>rw[hs]at e;exact⟨z.1,z.2,rfl,e⟩
end Go.Ae
namespace Go.Ae
open Go
variable {P:Program} {m:Mp} {D:Nat→Prop} {h h':AH} {w:World} {c:CV} {o:Oper} {v:AV}
theorem qyD (hc:yI P c) {rd:Option Nat} {n nn:Nat} {ops:Array Oper} {Q:Exit→Act→World→Prop} {g:Option (Nat×Bool)} {p:Oper} {d:Tmp} {r:AV×AH} :
  ∀(l:List Oper) (j:Nat) (rest:List Nat) (m:Mp) (D:Nat→Prop) (h:AH) (w:World) (a:Act) (tm:PT AV) (k:PT AV→AH→R),
   (∀i o,l[i]? =some o→ops[j+i]? =some o∧o.guard=g)→
   (∀q,g=some q→ops[q.1]? =some p∧p.dst=some d∧writes d l=false∧yielded ops a.tmps q.1=some q.2)→
   Rel P m D h w→TmR m D n a tm→qYu P c n l tm h k=some r→
   (∀m' D' h' w' a' tm',qJE P m D h w n a.defers a' tm' m' D' h' w'→k tm' h'=some r→wpOpsIn (FW rd) nn P ops Q rest a' w')→
   wpOpsIn (FW rd) nn P ops Q (List.range' j l.length++rest) a w:=by
 intro l
 induction l with
 |nil=>intro j rest m D h w a tm k _ _ R T e hk;exact hk m D h w a tm ⟨Ext.refl ..,R,T,rfl⟩ e
 |cons o l ih=>
  intro j rest m D h w a tm k hl hg R T e hk;obtain⟨ho,hgo⟩:=hl 0 o rfl;simp only[List.length_cons,List.range'_succ,List.cons_append];simp only[wpOpsIn];rw[show ops[j]? =some o from ho];have hw:Region.wanted o (yielded ops a.tmps)=true:=by
   unfold Region.wanted;rw[hgo];cases g with
   |none=>rfl
   |some q=>obtain⟨_,_,_,hy⟩:=hg q rfl;simp[hy]
  simp only[hw,if_true];simp only[qYu]at e;obtain⟨v,h1,e1,e⟩:=Xw e;refine qQE hc T.ev R e1 ?_;intro m1 D1 w1 X R1 hv1;obtain⟨tm1,e2,T1⟩:=(T.mono X).put hv1 e;refine ih (j+1) rest m1 D1 h1 w1 _ tm1 k ?_ ?_ R1 T1 e2 ?_
  ·intro i o' hi;have:=hl (i+1) o' hi
   rwa [show j+(i+1)=j+1+i by omega]at this
  ·intro q hq;obtain⟨k1,k2,k3,k4⟩:=hg q hq;have hw':=Yg k3;refine⟨k1,k2,?_,?_⟩
   ·simp only[writes,Bool.or_eq_false_iff]at k3;exact k3.2
   ·rw[K7 k1 k2 (hw' o (iK ..))];exact k4
  ·intro m' D' h' w' a' tm' O e';refine hk m' D' h' w' a' tm' ⟨X.trans O.ext,O.rel,O.tm,?_⟩ e';rw[O.defers,wO]
end Go.Ae
namespace Go.Ae
open Go
variable {P:Program} {m:Mp} {D:Nat→Prop} {h h':AH} {w:World} {c:CV} {o:Oper} {v:AV}
theorem qvc {q:Nat×Bool} {y:Nat→Option Bool} (hg:o.guard=some q) (hy:y q.1=some q.2):Region.wanted o y=true:=by unfold Region.wanted;rw[hg];simp[hy]
theorem NP {q:Nat×Bool} {y:Nat→Option Bool} (hg:o.guard=some q) (hy:y q.1≠some q.2):Region.wanted o y=false:=by unfold Region.wanted;rw[hg];simp[hy]
theorem qqB {rd:Option Nat} {n nn:Nat} {ops:Array Oper} {Q:Exit→Act→World→Prop} {q:Nat×Bool} {p:Oper} {d:Tmp} {r:AV×AH} :
  ∀(l:List Oper) (j:Nat) (rest:List Nat) (a:Act) (tm:PT AV) (k:PT AV→R),
   (∀i o,l[i]? =some o→ops[j+i]? =some o∧o.guard=some q)→
   ops[q.1]? =some p→p.dst=some d→writes d l=false→yielded ops a.tmps q.1≠some q.2→
   TmR m D n a tm→VC n l tm k=some r→
   (∀a' tm',TmR m D n a' tm'→a'.defers=a.defers→k tm'=some r→wpOpsIn (FW rd) nn P ops Q rest a' w)→
   wpOpsIn (FW rd) nn P ops Q (List.range' j l.length++rest) a w:=by
 intro l
 induction l with
 |nil=>intro j rest a tm k _ _ _ _ _ T e hk;exact hk a tm T rfl e
 |cons o l ih=>
  intro j rest a tm k hl hp hd hw hy T e hk;obtain⟨ho,hgo⟩:=hl 0 o rfl;simp only[List.length_cons,List.range'_succ,List.cons_append];simp only[wpOpsIn];rw[show ops[j]? =some o from ho];simp only[NP hgo hy,Bool.false_eq_true,if_false];refine⟨λ_ _=>trivial,?_⟩;simp only[VC]at e;obtain⟨tm1,e2,T1⟩:=T.put (v:=.undef) trivial e;rw[qJO]at T1;have hw':=Yg hw;refine ih (j+1) rest _ tm1 k ?_ hp hd ?_ ?_ T1 e2 ?_
  ·intro i o' hi;have:=hl (i+1) o' hi
   rwa [show j+(i+1)=j+1+i by omega]at this
  ·simp only[writes,Bool.or_eq_false_iff]at hw;exact hw.2
  ·rw[K7 hp hd (hw' o (iK ..))];exact hy
  ·intro a' tm' T' hdf e';exact hk a' tm' T' (by rw[hdf,wO]) e'
theorem TmR.tup {n:Nat} {a:Act} {tm:PT AV} (T:TmR m D n a tm):∀(L:List Nat) (acc:PT AV),TmR m D n a acc→xf tm L=true→TmR m D n a (wC L (gR L tm) acc):=by
 intro L
 induction L with
 |nil=>intro acc A _;exact A
 |cons t L ih=>
  intro acc A hh;simp only[xf,Bool.and_eq_true]at hh;simp only[gR,wC];refine ih _ ?_ hh.2;have h1:=hh.1;unfold has at h1
  split at h1
  ·rename_i v hv;refine⟨A.size,?_⟩;intro s u hs;rw[PT.get_set]at hs;by_cases e:t=s
   ·subst e;rw[iJ rfl]at hs;cases hs;exact T.at_ t v hv
   ·rw[iQ e]at hs;exact A.at_ s u hs
  ·cases h1
theorem NJ {b:Bool} {x:R} {r:AV×AH}:cnd b none x=some r↔b=false∧x=some r:=by cases b<;>simp[cnd]
theorem PT.get_e {α:Type} (i:Nat):(PT.e:PT α).get i=none:=rfl
theorem TmR.join {n:Nat} {a:Act} {tm:PT AV} (T:TmR m D n a tm) (L:List Nat) (hh:xf tm L=true):TmR m D n a (wC L (gR L tm) .e) :=
 T.tup L .e ⟨T.size,λt v hv=>by rw[PT.get_e]at hv;cases hv⟩ hh
theorem OX (g:Nat×Bool) (l:List Oper):(zU g l).1++(zU g l).2=l:=by
 induction l with
 |nil=>rfl
 |cons o l ih=>simp only[zU];cases qKp g o<;>simp[ih]
theorem qVD (g:Nat×Bool) (l:List Oper):∀o∈(zU g l).1,o.guard=some g:=by
 induction l with
 |nil=>intro o ho;cases ho
 |cons x l ih=>
  intro o ho;simp only[zU]at ho;cases hs:qKp g x<;>simp only[hs,cond_false,cond_true]at ho
  ·cases ho
  ·rcases List.mem_cons.1 ho with rfl |ho
   ·unfold qKp at hs
    split at hs
    ·rename_i g' hg';simp only[Bool.and_eq_true,beq_iff_eq]at hs;rw[hg'];have:=jo hs.1;obtain⟨g1,g2⟩:=g;obtain⟨g3,g4⟩:=g';simp only at this hs;rw[this,hs.2]
    ·cases hs
   ·exact ih o ho
theorem qwe (hc:yI P c) {rd:Option Nat} {n nn:Nat} {ops:Array Oper} {Q:Exit→Act→World→Prop} {r:AV×AH} {ds:List Deferred} :
  ∀(f:Nat) (l:List Oper) (j:Nat) (Ls:List (List Nat)) (m:Mp) (D:Nat→Prop) (h:AH) (w:World) (a:Act) (tm:PT AV) (k:PT AV→AH→R),
   (∀i o,l[i]? =some o→ops[j+i]? =some o)→
   Rel P m D h w→TmR m D n a tm→a.defers=ds→Y7 P c n ops.toList f l Ls tm h k=some r→
   (∀m' D' h' w' a' tm',qJE P m D h w n ds a' tm' m' D' h' w'→k tm' h'=some r→Q .normal a' w')→
   wpOpsIn (FW rd) nn P ops Q (List.range' j l.length) a w:=by
 intro f
 induction f with
 |zero=>
  intro l j Ls m D h w a tm k hl R T hdf e hk;cases l with
  |nil=>exact hk m D h w a tm ⟨Ext.refl ..,R,T,hdf⟩ e
  |cons o l=>simp only[Y7,reduceCtorEq]at e
 |succ f ih=>
  intro l j Ls m D h w a tm k hl R T hdf e hk;cases l with
  |nil=>exact hk m D h w a tm ⟨Ext.refl ..,R,T,hdf⟩ e
  |cons o l=>
   cases hg:o.guard with
   |none=>
    simp only[Y7,hg]at e;obtain⟨v,h1,e1,e⟩:=Xw e;simp only[List.length_cons,List.range'_succ,wpOpsIn];rw[show ops[j]? =some o from hl 0 o rfl];have hw:Region.wanted o (yielded ops a.tmps)=true:=by unfold Region.wanted;rw[hg]
    simp only[hw,if_true];refine qQE hc T.ev R e1 ?_;intro m1 D1 w1 X R1 hv1;obtain⟨tm1,e2,T1⟩:=(T.mono X).put hv1 e;refine ih l (j+1) Ls m1 D1 h1 w1 _ tm1 k ?_ R1 T1 (by rw[wO];exact hdf) e2 ?_
    ·intro i o' hi;have:=hl (i+1) o' hi
     rwa [show j+(i+1)=j+1+i by omega]at this
    ·intro m' D' h' w' a' tm' O e';exact hk m' D' h' w' a' tm' ⟨X.trans O.ext,O.rel,O.tm,O.defers⟩ e'
   |some g=>
    simp only[Y7,hg,qH]at e;obtain⟨d,hd,vg,hvg,e⟩:=e;cases Ls with
    |nil=>cases e
    |cons L Ls'=>
     simp only[NJ]at e;obtain⟨hwr,e⟩:=e;unfold kM at hd;rw[hg]at hd;simp only[Option.bind_some,yV,Array.getElem?_toList,Option.bind_eq_some_iff]at hd;obtain⟨p,hp,hpd⟩:=hd;have hvg':=T.at_ d vg hvg;have happ:o::l=(o::(zU g l).1)++(zU g l).2:=by rw[List.cons_append,OX]
     have hlen:List.range' j (o::l).length=List.range' j (o::(zU g l).1).length++List.range' (j+(o::(zU g l).1).length) (zU g l).2.length:=by rw[List.range'_append_1,← List.length_append,← happ]
     rw[hlen];have hl1:∀i o',(o::(zU g l).1)[i]? =some o'→ops[j+i]? =some o'∧o'.guard=some g:=by
      intro i o' hi;refine⟨hl i o' ?_,?_⟩
      ·rw[happ,List.getElem?_append_left (List.getElem?_eq_some_iff.1 hi).1];exact hi
      ·rcases List.mem_cons.1 (List.mem_of_getElem? hi)with rfl |hm
       ·exact hg
       ·exact qVD g l o' hm
     have hl2:∀i o',(zU g l).2[i]? =some o'→ops[j+(o::(zU g l).1).length+i]? =some o':=by intro i o' hi;rw[Nat.add_assoc];refine hl _ o' ?_;rw[happ,List.getElem?_append_right omQ];rw[show(o::(zU g l).1).length+i-(o::(zU g l).1).length=i by omega];exact hi
     have hyd:yielded ops a.tmps g.1=(match cv m vg with | .bool b=>some b |_=>none):=by unfold yielded;simp only[hp,Option.bind_some,hpd,hvg'.1];generalize cv m vg=z;cases z<;>rfl
     have fin:∀m1 D1 h1 w1 a1 tm1,qJE P m D h w n ds a1 tm1 m1 D1 h1 w1→
       cnd (xf tm1 L) (Y7 P c n ops.toList f (zU g l).2 Ls' (wC L (gR L tm1) .e) h1 k) none=some r→
       wpOpsIn (FW rd) nn P ops Q (List.range' (j+(o::(zU g l).1).length) (zU g l).2.length) a1 w1:=by
      intro m1 D1 h1 w1 a1 tm1 O e1;rw[jt]at e1;obtain⟨hall,e1⟩:=e1;refine ih (zU g l).2 _ Ls' m1 D1 h1 w1 a1 _ k hl2 O.rel (O.tm.join L hall) O.defers e1 ?_;intro m' D' h' w' a' tm' O' e';exact hk m' D' h' w' a' tm' ⟨O.ext.trans O'.ext,O'.rel,O'.tm,O'.defers⟩ e'
     simp only[yB]at e;rw[Vq]at e;have go:∀(e:VC n (o::(zU g l).1) tm (λtm'=>cnd (xf tm' L) (Y7 P c n ops.toList f (zU g l).2 Ls' (wC L (gR L tm') .e) h k) none)=some r)
       (hy:yielded ops a.tmps g.1≠some g.2),wpOpsIn (FW rd) nn P ops Q (List.range' j (o::(zU g l).1).length++List.range' (j+(o::(zU g l).1).length) (zU g l).2.length) a w:=by
      intro e hy;refine qqB (o::(zU g l).1) j _ a tm _ hl1 hp hpd hwr hy T e ?_;intro a' tm' T' hdf' e';exact fin m D h w a' tm' ⟨Ext.refl ..,R,T',by rw[hdf',hdf]⟩ e'
     split at e
     ·rename_i t;simp only[cv]at hyd;cases ht:(t==g.2)
      rotate_left
      ·rw[ht]at e;refine qyD (p:=p) (d:=d) hc (o::(zU g l).1) j _ m D h w a tm _ hl1 ?_ R T e ?_
       ·intro q hq;cases hq;exact⟨hp,hpd,hwr,by rw[hyd];simpa using ht⟩
       ·intro m' D' h' w' a' tm' O e';exact fin m' D' h' w' a' tm' ⟨O.ext,O.rel,O.tm,by rw[O.defers,hdf]⟩ e'
      ·rw[ht]at e;refine go e ?_;rw[hyd];simpa using ht
     ·rename_i hnb;refine go e ?_;rw[hyd];cases vg<;>simp only[cv]<;>first |(intro hh;cases hh;done) |exact absurd rfl (hnb _) |skip
end Go.Ae
namespace Go.Ae
open Go
variable {P:Program} {c:CV}
def qkP:AX→Exit
 | .normal=>.normal
 | .exit i=>.exit i
 | .goto l=>.goto l
 | .ret=>.ret
def Ko (b:Nat):Deferred:={ target:=.collected b,args:=#[] }
def DefR (m:Mp) (D:Nat→Prop) (ds:List Nat) (l:List Deferred):Prop:=(∀d∈ds,D d)∧l=ds.map λd=>Ko (m d).1
def RdOk (m:Mp) (D:Nat→Prop) (rd rc:Option Nat):Prop:=match rd with
 |none=>rc=none
 |some l=>D l∧rc=some (m l).1
theorem DefR.mono {m m':Mp} {D D':Nat→Prop} {h h':AH} {w w':World} {ds:List Nat} {l:List Deferred} (d:DefR m D ds l) (e:Ext m D h w m' D' h' w'):DefR m' D' ds l :=
 ⟨λb hb=>e.dom b (d.1 b hb),by rw[d.2];exact List.map_congr_left λb hb=>by rw[e.map b (d.1 b hb)]⟩
theorem RdOk.mono {m m':Mp} {D D':Nat→Prop} {h h':AH} {w w':World} {rd rc:Option Nat} (d:RdOk m D rd rc) (e:Ext m D h w m' D' h' w'):RdOk m' D' rd rc:=by
 cases rd with
 |none=>exact d
 |some l=>exact⟨e.dom l d.1,by rw[e.map l d.1];exact d.2⟩
structure St (P:Program) (m:Mp) (D:Nat→Prop) (h:AH) (w:World) (n:Nat) (ds:List Nat) (a:Act) (tm:PT AV) (rd rc:Option Nat):Prop where
  rel:Rel P m D h w
  tm:TmR m D n a tm
  df:DefR m D ds a.defers
  rd:RdOk m D rd rc
theorem St.mono' {m m':Mp} {D D':Nat→Prop} {h h':AH} {w w':World} {n:Nat} {ds:List Nat} {a a':Act} {tm tm':PT AV} {rd rc:Option Nat} (s:St P m D h w n ds a tm rd rc)
  (o:qJE P m D h w n a.defers a' tm' m' D' h' w'):St P m' D' h' w' n ds a' tm' rd rc :=
 ⟨o.rel,o.tm,by rw[o.defers];exact s.df.mono o.ext,s.rd.mono o.ext⟩
def V5 (P:Program) (c:CV):Prop:=∀(n nn:Nat) (ops:Array Oper) (Ls:List (List Nat)) (rc:Option Nat) (Q:Exit→Act→World→Prop) (r:AV×AH) (id:Nat)
 (m:Mp) (D:Nat→Prop) (h:AH) (w:World) (a:Act) (tm:PT AV) (k:PT AV→AH→R),Rel P m D h w→TmR m D n a tm→qY7 P c n ops Ls tm h k=some r→
 (∀m' D' h' w' a' tm',qJE P m D h w n a.defers a' tm' m' D' h' w'→k tm' h'=some r→Q .normal a' w')→(Code.region id ops true).wpIn (FW rc) nn P Q a w
def w8 (P:Program) (N:Nat) (c:CV) (f n:Nat) (rd:Option Nat) (code:Code):Prop :=
 ∀(rc:Option Nat) (nn:Nat) (Q:Exit→Act→World→Prop) (r:AV×AH) (pos:List Nat) (pl:Pl) (tm:PT AV) (h:AH) (ds:List Nat) (k:AX→PT AV→AH→List Nat→R)
  (m:Mp) (D:Nat→Prop) (w:World) (a:Act),St P m D h w n ds a tm rd rc→
  (∃fn bd,P.funcs[f]? =some fn∧fn.body=some bd∧fn.ntmps=n∧xK bd pos=some code)→
  gD P N c f n rd code pos pl tm h ds k=some r→
  (∀x m' D' h' w' a' tm' ds',Ext m D h w m' D' h' w'→St P m' D' h' w' n ds' a' tm' rd rc→k x tm' h' ds'=some r→Q (qkP x) a' w')→
  code.wpIn (FW rc) nn P Q a w
theorem qKL (c:Code) (p q:List Nat) (s:Code) (h:xK c p=some s):xK c (p++q)=xK s q:=by
 induction p generalizing c with
 |nil=>simp only[xK]at h;cases h;rfl
 |cons i p ih=>
  cases c<;>simp only[xK,reduceCtorEq,List.cons_append]at h ⊢
  case seq a b=>cases hi:Nat.beq i 0<;>simp only[hi,cond_true,cond_false]at h ⊢ <;>exact ih _ h
  case cond a b=>cases hi:Nat.beq i 0<;>simp only[hi,cond_true,cond_false]at h ⊢ <;>exact ih _ h
  case block a=>exact ih _ h
  case loop a=>exact ih _ h
  case rangeFunc a b=>cases hi:Nat.beq i 0<;>simp only[hi,cond_true,cond_false]at h ⊢ <;>exact ih _ h
theorem XU {f n:Nat} {code s:Code} {pos q:List Nat} (h:∃fn bd,P.funcs[f]? =some fn∧fn.body=some bd∧fn.ntmps=n∧xK bd pos=some code) (hs:xK code q=some s) :
  ∃fn bd,P.funcs[f]? =some fn∧fn.body=some bd∧fn.ntmps=n∧xK bd (pos++q)=some s:=by
 obtain⟨fn,bd,h1,h2,h3,h4⟩:=h;exact⟨fn,bd,h1,h2,h3,by rw[qKL _ _ _ _ h4,hs]⟩
end Go.Ae
namespace Go.Ae
open Go
variable {P:Program} {c:CV}
theorem St.join {m:Mp} {D:Nat→Prop} {h:AH} {w:World} {n:Nat} {ds:List Nat} {a:Act} {tm:PT AV} {rd rc:Option Nat} (s:St P m D h w n ds a tm rd rc) {L:List Nat} (hh:xf tm L=true) :
  St P m D h w n ds a (wC L (gR L tm) .e) rd rc:=⟨s.rel,s.tm.join L hh,s.df,s.rd⟩
theorem qJu (hc:yI P c) (hd:V5 P c) {f n:Nat} {rd:Option Nat} {N id:Nat} {ops:Array Oper} {d:Bool}:w8 P N c f n rd (.region id ops d):=by
 intro rc nn Q r pos pl tm h ds k m D w a S _ e hk;simp only[gD]at e;cases d with
 |true=>simp only[cnd]at e;refine hd n nn ops (plR pl) rc Q r id m D h w a tm _ S.rel S.tm e ?_;intro m' D' h' w' a' tm' O e';exact hk .normal m' D' h' w' a' tm' ds O.ext (S.mono' O) e'
 |false=>
  simp only[cnd]at e;refine wpIn_region ?_;have hr:List.range ops.size=List.range' 0 ops.toList.length:=by simp[List.range_eq_range']
  rw[hr];refine qwe (ds:=a.defers) hc _ ops.toList 0 (plR pl) m D h w a tm _ (λi o hi=>by simpa using hi) S.rel S.tm rfl e ?_;intro m' D' h' w' a' tm' O e';exact hk .normal m' D' h' w' a' tm' ds O.ext (S.mono' O) e'
theorem qxe {f n N:Nat} {rd:Option Nat} {x y:Code} (hx:w8 P N c f n rd x) (hy:w8 P N c f n rd y):w8 P N c f n rd (.seq x y):=by
 intro rc nn Q r pos pl tm h ds k m D w a S hat e hk;simp only[gD]at e;have hax:=XU (q:=[0]) hat (s:=x) (by simp only[xK];rfl);have hay:=XU (q:=[1]) hat (s:=y) (by simp only[xK];rfl);refine wpIn_seq ?_;cases hL:plL pl with
 |some L=>
  simp only[hL,yB]at e;refine hx rc nn _ r (pos++[0]) (plA pl) tm h ds _ m D w a S hax e ?_;intro z m1 D1 h1 w1 a1 tm1 ds1 X1 S1 e1;cases z with
  |normal=>simp only[jt]at e1;obtain⟨hall,e1⟩:=e1;refine hy rc nn Q r (pos++[1]) (plB pl) _ h1 ds1 k m1 D1 w1 a1 (S1.join hall) hay e1 ?_;intro z2 m2 D2 h2 w2 a2 tm2 ds2 X2 S2 e2;exact hk z2 m2 D2 h2 w2 a2 tm2 ds2 (X1.trans X2) S2 e2
  |exit i=>exact hk (.exit i) m1 D1 h1 w1 a1 tm1 ds1 X1 S1 e1
  |goto i=>exact hk (.goto i) m1 D1 h1 w1 a1 tm1 ds1 X1 S1 e1
  |ret=>exact hk .ret m1 D1 h1 w1 a1 tm1 ds1 X1 S1 e1
 |none=>
  simp only[hL]at e;refine hx rc nn _ r (pos++[0]) (plA pl) tm h ds _ m D w a S hax e ?_;intro z m1 D1 h1 w1 a1 tm1 ds1 X1 S1 e1;cases z with
  |normal=>refine hy rc nn Q r (pos++[1]) (plB pl) _ h1 ds1 k m1 D1 w1 a1 S1 hay e1 ?_;intro z2 m2 D2 h2 w2 a2 tm2 ds2 X2 S2 e2;exact hk z2 m2 D2 h2 w2 a2 tm2 ds2 (X1.trans X2) S2 e2
  |exit i=>exact hk (.exit i) m1 D1 h1 w1 a1 tm1 ds1 X1 S1 e1
  |goto i=>exact hk (.goto i) m1 D1 h1 w1 a1 tm1 ds1 X1 S1 e1
  |ret=>exact hk .ret m1 D1 h1 w1 a1 tm1 ds1 X1 S1 e1
theorem qGi {f n N:Nat} {rd:Option Nat} {o:Operand} {x y:Code} (hx:w8 P N c f n rd x) (hy:w8 P N c f n rd y):w8 P N c f n rd (.cond o x y):=by
 intro rc nn Q r pos pl tm h ds k m D w a S hat e hk;simp only[gD,qH]at e;obtain⟨v,hv,e⟩:=e;have hax:=XU (q:=[0]) hat (s:=x) (by simp only[xK];rfl);have hay:=XU (q:=[1]) hat (s:=y) (by simp only[xK];rfl);obtain⟨h1,h2⟩:=S.tm.ev _ _ hv;rw[qQc]at e
 split at e
 ·rename_i t;refine wpIn_cond (t:=t) (by rw[h1];rfl) ?_;cases t with
  |true=>exact hx rc nn Q r (pos++[0]) (plA pl) tm h ds k m D w a S hax e hk
  |false=>exact hy rc nn Q r (pos++[1]) (plB pl) tm h ds k m D w a S hay e hk
 ·cases e
theorem qZU {f n N id:Nat} {rd:Option Nat} {x:Code} (hx:w8 P N c f n rd x):w8 P N c f n rd (.block id x):=by
 intro rc nn Q r pos pl tm h ds k m D w a S hat e hk;simp only[gD]at e;have hax:=XU (q:=[0]) hat (s:=x) (by simp only[xK]);refine wpIn_block ?_;cases hL:plL pl with
 |some L=>
  simp only[hL,yB]at e;refine hx rc nn _ r (pos++[0]) (plA pl) tm h ds _ m D w a S hax e ?_;intro z m1 D1 h1 w1 a1 tm1 ds1 X1 S1 e1;cases z with
  |normal=>simp only[jt]at e1;obtain⟨hall,e1⟩:=e1;exact hk .normal m1 D1 h1 w1 a1 _ ds1 X1 (S1.join hall) e1
  |exit i=>
   simp only[qkP,Exit.inBlock];by_cases hi:i=id
   ·subst hi;simp only[Nat.beq_refl,cnd,if_true]at e1 ⊢;cases hall:xf tm1 L
    ·rw[hall]at e1;cases e1
    ·rw[hall]at e1;exact hk .normal m1 D1 h1 w1 a1 _ ds1 X1 (S1.join hall) e1
   ·rw[iQ hi];simp only[xR hi,cnd]at e1;exact hk (.exit i) m1 D1 h1 w1 a1 tm1 ds1 X1 S1 e1
  |goto i=>exact hk (.goto i) m1 D1 h1 w1 a1 tm1 ds1 X1 S1 e1
  |ret=>exact hk .ret m1 D1 h1 w1 a1 tm1 ds1 X1 S1 e1
 |none=>
  simp only[hL]at e;refine hx rc nn _ r (pos++[0]) (plA pl) tm h ds _ m D w a S hax e ?_;intro z m1 D1 h1 w1 a1 tm1 ds1 X1 S1 e1;cases z with
  |normal=>exact hk .normal m1 D1 h1 w1 a1 _ ds1 X1 S1 e1
  |exit i=>
   simp only[qkP,Exit.inBlock];by_cases hi:i=id
   ·subst hi;simp only[Nat.beq_refl,cnd,if_true]at e1 ⊢;exact hk .normal m1 D1 h1 w1 a1 _ ds1 X1 S1 e1
   ·rw[iQ hi];simp only[xR hi,cnd]at e1;exact hk (.exit i) m1 D1 h1 w1 a1 tm1 ds1 X1 S1 e1
  |goto i=>exact hk (.goto i) m1 D1 h1 w1 a1 tm1 ds1 X1 S1 e1
  |ret=>exact hk .ret m1 D1 h1 w1 a1 tm1 ds1 X1 S1 e1
theorem qV7 {f n N:Nat} {rd:Option Nat} {x:Code} (hx:w8 P N c f n rd x):w8 P N c f n rd (.loop x):=by
 intro rc nn Q r pos pl tm h ds k m D w a S hat e hk;simp only[gD]at e;have hax:=XU (q:=[0]) hat (s:=x) (by simp only[xK]);cases hL:plL pl with
 |none=>rw[hL]at e;cases e
 |some L=>
  simp only[hL,jt]at e;obtain⟨hall,e⟩:=e;refine wpIn_loop_rounds N ?_;have key:∀(j:Nat) (s:Tup L) (h1:AH) (ds1:List Nat) (m1:Mp) (D1:Nat→Prop) (w1:World) (a1:Act),Ext m D h w m1 D1 h1 w1→St P m1 D1 h1 w1 n ds1 a1 (wC L s .e) rd rc→
    YU (σ:=Tup L) j (λih s h ds=>gD P N c f n rd x (pos++[0]) (plA pl) (wC L s .e) h ds λx tm' h ds=>match x with
     | .normal=>cnd (xf tm' L) (ih (gR L tm') h ds) none |x=>k x tm' h ds) s h1 ds1=some r→
    Code.roundsIn (FW rc) nn P x Q j a1 w1:=by
   intro j
   induction j with
   |zero=>intro s h1 ds1 m1 D1 w1 a1 _ _ e1;cases e1
   |succ j ih=>
    intro s h1 ds1 m1 D1 w1 a1 X1 S1 e1;rw[roundsIn_succ];refine hx rc nn _ r (pos++[0]) (plA pl) _ h1 ds1 _ m1 D1 w1 a1 S1 hax e1 ?_;intro z m2 D2 h2 w2 a2 tm2 ds2 X2 S2 e2;cases z with
    |normal=>simp only[jt]at e2;obtain⟨hall2,e2⟩:=e2;exact ih _ h2 ds2 m2 D2 w2 a2 (X1.trans X2) (S2.join hall2) e2
    |exit i=>exact hk (.exit i) m2 D2 h2 w2 a2 tm2 ds2 (X1.trans X2) S2 e2
    |goto i=>exact hk (.goto i) m2 D2 h2 w2 a2 tm2 ds2 (X1.trans X2) S2 e2
    |ret=>exact hk .ret m2 D2 h2 w2 a2 tm2 ds2 (X1.trans X2) S2 e2
  exact key N _ h ds m D w a (Ext.refl ..) (S.join hall) e
end Go.Ae
namespace Go.Ae
open Go
variable {P:Program} {c:CV}
theorem qv2 {F:Fence} {n:Nat} {Q:Exit→Act→World→Prop} {a:Act} {w:World} (x:AX) (h:Q (qkP x) a w):(wW x).wpIn F n P Q a w:=by
 cases x with
 |normal=>exact wpIn_skip h
 |exit i=>exact wpIn_exit h
 |goto l=>exact wpIn_goto h
 |ret=>exact wpIn_ret h
theorem jQf {x y:AX} (h:qWh x y=true):x=y:=by
 cases x<;>cases y<;>simp only[qWh,Bool.false_eq_true]at h ⊢ <;>exact congrArg _ (jo h)
theorem qKM {y:AX} {k:AX→R} {r:AV×AH}:∀{l:List AX},Uh (some y) k l=some r→k y=some r:=by
 intro l
 induction l with
 |nil=>intro e;cases e
 |cons x l ih=>
  intro e;simp only[Uh,pIs]at e;cases hb:qWh y x
  ·rw[hb]at e;exact ih e
  ·rw[hb]at e;have:=jQf hb;subst this;exact e
theorem qZ5 (L:List Nat) (tm:PT AV):(wa L tm).length=L.length:=by
 induction L with
 |nil=>rfl
 |cons t L ih=>simp[wa,ih]
theorem qWD {m:Mp} {D:Nat→Prop} {n:Nat} {a:Act} {tm:PT AV} (T:TmR m D n a tm):∀{L:List Nat},xf tm L=true→inDs D (wa L tm)∧∀p∈L.zip (wa L tm),a.tmps[p.1]? =some (cv m p.2):=by
 intro L
 induction L with
 |nil=>intro _;exact⟨trivial,λp hp=>by cases hp⟩
 |cons t L ih=>
  intro h;simp only[xf,Bool.and_eq_true]at h;obtain⟨h1,h2⟩:=ih h.2;have h0:=h.1;unfold has at h0
  split at h0
  ·rename_i v hv;obtain⟨g1,g2⟩:=T.at_ t v hv;simp only[wa,hv,inDs,List.zip_cons_cons,List.mem_cons];refine⟨⟨g2,h1⟩,?_⟩;rintro p (rfl |hp)
   ·exact g1
   ·exact h2 p hp
  ·cases h0
theorem V7 (hc:yI P c) {f n nn:Nat} {rd rc:Option Nat} {g:Operand} {ps:Array Tmp} {assign body:Code} {Q:Exit→Act→World→Prop} {r:AV×AH} {pos:List Nat}
  {tm:PT AV} {h:AH} {ds:List Nat} {k:AX→PT AV→AH→List Nat→R} {m:Mp} {D:Nat→Prop} {w:World} {a:Act} (S:St P m D h w n ds a tm rd rc)
  (hat:∃fn bd,P.funcs[f]? =some fn∧fn.body=some bd∧fn.ntmps=n∧xK bd pos=some (.rangeFunc g ps assign body))
  {vf:AV} (hvf:ev tm g=some vf) {L:List Nat} (hall:xf tm L=true)
  (hk:∀x m' D' h' w' a' tm' ds',Ext m D h w m' D' h' w'→St P m' D' h' w' n ds' a' tm' rd rc→k x tm' h' ds'=some r→Q (qkP x) a' w')
  {d:Nat} {h1:AH} {ds1:List Nat} {m1:Mp} {D1:Nat→Prop} {w1:World} {mark:List Deferred}
  (X1:Ext m D h w m1 D1 h1 w1) (R1:Rel P m1 D1 h1 w1) (hd:D1 d) (hdf:DefR m1 D1 ds1 (mark++a.defers))
  (hel:∀fn,(Instr.enterLoop fn a.tmps ps assign body rc).run P w=.ok (w1.heap.size,mark) (w1.alloc (.loop { state:=.ready,pending:=none,fn,tmps:=a.tmps,params:=ps,assign,body,defers:=(m1 d).1 })))
  (e:Jr c vf [.yield h1.nx] (h1.new (.loop .ready none f pos L (wa L tm) d)) (λ_ h2=>
    vC h2 h1.nx λp h3=>Xj p (k .normal tm h3 ds1) (Uh p (λx=>k x tm h3 ds1) (XD body [])))=some r) :
  (Code.rangeFunc g ps assign body).wpIn (FW rc) nn P Q a w:=by
 refine wpIn_rangeFunc ?_;intro fn _;obtain⟨fnn,bd,hf1,hf2,hf3,hf4⟩:=hat;have T1:=S.tm.mono X1;obtain⟨l1,l2⟩:=qWD T1 hall;obtain⟨o,ho⟩:∃o,o=Obj.loop { state:=.ready,pending:=none,fn,tmps:=a.tmps,params:=ps,assign,body,defers:=(m1 d).1 }:=⟨_,rfl⟩;have hblk:BlkR P m1 (.loop .ready none f pos L (wa L tm) d) (w1.heap.size,0) (w1.alloc o):=by
  refine⟨fn,a.tmps,ps,g,assign,body,fnn,bd,?_,hf1,hf2,hf4,?_,(qZ5 L tm).symm,l2⟩
  ·rw[ho];exact World.alloc_heap_new _ _
  ·rw[hf3];exact S.tm.size
 obtain⟨m2,D2,X2,R2,hm2,hD2⟩:∃(m2:Mp) (D2:Nat→Prop),Ext m1 D1 h1 w1 m2 D2 (h1.new (.loop .ready none f pos L (wa L tm) d)) (w1.alloc o)∧
   Rel P m2 D2 (h1.new (.loop .ready none f pos L (wa L tm) d)) (w1.alloc o)∧(m2 h1.nx).1=w1.heap.size∧D2 h1.nx:=by
  have hn:=R1.new (w0:=w1.alloc o) (.loop .ready none f pos L (wa L tm) d) o 0 rfl rfl rfl rfl ⟨l1,hd⟩ hblk;exact⟨_,_,hn.1,hn.2,by simp,.inl rfl⟩
 generalize h1.new (.loop .ready none f pos L (wa L tm) d)=hh at*;unfold Jr at e
 split at e
 rotate_left
 ·cases e
 rename_i f0 first cap
 rw[QR]at e
 split at e
 rotate_left
 ·cases e
 rename_i q hq;have T2:=T1.mono X2;obtain⟨v1,v2⟩:=T2.ev _ _ hvf;have hok:=hc _ _ _ q hq m2 D2 (w1.alloc o) R2 v2 ⟨hD2,trivial⟩;obtain⟨k1,k2⟩:=hok;simp only[cv]at v1;have hy:cvs m2 [.yield h1.nx]=[.func (.yield w1.heap.size) #[] #[]]:=by simp[cvs,cv,hm2]
 refine⟨w1.heap.size,mark,w1.alloc o,{ target:=.fn (.func f0) (cvs m2 cap).toArray,args:=(cvs m2 first).toArray++ #[.func (.yield w1.heap.size) #[] #[]] },w1.alloc o,f0,
  (cvs m2 (first++[.yield h1.nx]++cap)).toArray,w1.alloc o,?_,?_,λ_ _=>trivial,?_,(λhh=>by cases hh),?_⟩
 ·rw[ho];exact hel fn
 ·unfold resolve rangeCall;simp only[v1];simp[Act.eval,go_sem]
 ·show(callFunc f0 ((cvs m2 first).toArray++ #[.func (.yield w1.heap.size) #[] #[]]++(cvs m2 cap).toArray)).run P _=_;have hy1:=hy;rw[k1,YX,YX,hy];simp
 ·refine CallsIn.mono (show CallsIn (FW rc) (nn-1) P f0 _ _ _ from k2 (nn-1)) ?_;rintro ee w3 ⟨m3,D3,rfl,X3,R3,hd3⟩
  replace e:vC q.2 h1.nx (λp h3=>Xj p (k .normal tm h3 ds1) (Uh p (λx=>k x tm h3 ds1) (XD body [])))=some r:=e
  unfold vC at e
  split at e
  rotate_left
  ·cases e
  rename_i st pend f' pos' L' vs' d' hget;have hb3:D3 h1.nx:=X3.dom _ hD2;obtain⟨x3,hx3,hr3,hi3⟩:=R3.blk _ hb3;rw[hget]at hx3;cases hx3;obtain⟨fq,tq,pq,gq,aq,bq,fnq,bdq,hheap,q1,q2,q3,q4,q5,q6⟩:=hr3;have hm3:(m3 h1.nx).1=w1.heap.size:=by rw[X3.map _ hD2];exact hm2
  rw[hm3]at hheap;have hst:st≠.busy:=by intro hs;subst hs;cases e
  have e':Xj pend (k .normal tm (q.2.put h1.nx (.loop .exhausted pend f' pos' L' vs' d')) ds1) (Uh pend (λx=>k x tm (q.2.put h1.nx (.loop .exhausted pend f' pos' L' vs' d')) ds1) (XD body []))=some r:=by
   cases st<;>first |exact e |exact absurd rfl hst
  clear e;have hsz:=(Array.getElem?_eq_some_iff.1 hheap).1;obtain⟨X4,R4⟩:=R3.put (w0:=w3.putObj w1.heap.size (.loop { state:=.exhausted,pending:=pend.map wW,fn:=fq,tmps:=tq,params:=pq,assign:=aq,body:=bq,defers:=(m3 d').1 })) h1.nx (.loop .exhausted pend f' pos' L' vs' d') hb3
   ⟨_,hget,trivial⟩ osQ (λcc hcc=>World.putObj_heap_other (by rw[hm3]at hcc;exact hcc)) rfl rfl rfl hi3
   ⟨fq,tq,pq,gq,aq,bq,fnq,bdq,by rw[hm3];exact World.putObj_heap_same hsz,q1,q2,q3,q4,q5,q6⟩
  refine⟨pend.map wW,_,run_endLoop hheap hst,?_⟩;have XX:=((X1.trans X2).trans X3).trans X4;have SS:St P m3 D3 (q.2.put h1.nx (.loop .exhausted pend f' pos' L' vs' d')) (w3.putObj w1.heap.size (.loop { state:=.exhausted,pending:=pend.map wW,fn:=fq,tmps:=tq,params:=pq,assign:=aq,body:=bq,defers:=(m3 d').1 })) n ds1
    { a with defers:=mark++a.defers } tm rd rc:=⟨R4,⟨(T2.mono (X3.trans X4)).size,(T2.mono (X3.trans X4)).at_⟩,((hdf.mono X2).mono X3).mono X4,S.rd.mono XX⟩
  cases pend with
  |none=>exact hk .normal _ _ _ _ _ _ _ XX SS e'
  |some y=>exact qv2 y (hk y _ _ _ _ _ _ _ XX SS (qKM e'))
theorem qXl (hc:yI P c) {f n N:Nat} {rd:Option Nat} {g:Operand} {ps:Array Tmp} {assign body:Code}:w8 P N c f n rd (.rangeFunc g ps assign body):=by
 intro rc nn Q r pos pl tm h ds k m D w a S hat e hk;simp only[gD,qH]at e;obtain⟨vf,hvf,e⟩:=e;cases hL:plL pl with
 |none=>rw[hL]at e;cases e
 |some L=>
  simp only[hL,jt]at e;obtain⟨hall,e⟩:=e;cases rd with
  |none=>
   have hrc:=S.rd;simp only[RdOk]at hrc;subst hrc;have hn:=S.rel.new (w0:=w.alloc (.deferred (some []))) .dfd (.deferred (some [])) 0 rfl rfl rfl rfl trivial (World.alloc_heap_new _ _);obtain⟨X,R⟩:=hn;refine V7 hc S hat hvf hall hk X R (d:=h.nx) (.inl rfl) (ds1:=h.nx::ds) (mark:=[Ko w.heap.size]) ?_ ?_ e
   ·have:=S.df.mono X;refine⟨λb hb=>?_,?_⟩
    ·rcases List.mem_cons.1 hb with rfl |hb
     ·exact .inl rfl
     ·exact this.1 b hb
    ·rw[this.2];simp[Ko]
   ·intro fn;simpa[Ko]using run_enterLoop_outer fn a.tmps ps assign body
  |some l0=>
   obtain⟨hl0,hrc⟩:=S.rd;subst hrc;unfold MJ at e;simp only at e
   split at e
   rotate_left
   ·cases e
   rename_i st pend f' pos' L' vs' d hget;obtain⟨x,hx,hxr,hxd⟩:=S.rel.blk _ hl0;rw[hget]at hx;cases hx;obtain⟨fq,tq,pq,gq,aq,bq,fnq,bdq,hheap,_⟩:=hxr;refine V7 hc S hat hvf hall hk (Ext.refl ..) S.rel (d:=d) hxd.2 (ds1:=ds) (mark:=[]) S.df ?_ e;intro fn;exact run_enterLoop_inner hheap fn a.tmps ps assign body
theorem ZK (hc:yI P c) (hd:V5 P c) (N f n:Nat) (rd:Option Nat) (code:Code):w8 P N c f n rd code:=by
 induction code with
 |skip=>intro rc nn Q r pos pl tm h ds k m D w a S _ e hk;exact wpIn_skip (hk .normal m D h w a tm ds (Ext.refl ..) S e)
 |region id ops d=>exact qJu hc hd
 |seq x y hx hy=>exact qxe hx hy
 |cond o x y hx hy=>exact qGi hx hy
 |block id x hx=>exact qZU hx
 |loop x hx=>exact qV7 hx
 |exit id=>intro rc nn Q r pos pl tm h ds k m D w a S _ e hk;exact wpIn_exit (hk (.exit id) m D h w a tm ds (Ext.refl ..) S e)
 |label l=>intro rc nn Q r pos pl tm h ds k m D w a S _ e hk;exact wpIn_label (hk .normal m D h w a tm ds (Ext.refl ..) S e)
 |goto l=>intro rc nn Q r pos pl tm h ds k m D w a S _ e hk;exact wpIn_goto (hk (.goto l) m D h w a tm ds (Ext.refl ..) S e)
 |ret=>intro rc nn Q r pos pl tm h ds k m D w a S _ e hk;exact wpIn_ret (hk .ret m D h w a tm ds (Ext.refl ..) S e)
 |rangeFunc g ps x y hx hy=>exact qXl hc
 |_=>intro rc nn Q r pos pl tm h ds k m D w a S _ e hk;cases e
end Go.Ae
namespace Go.Ae
open Go
variable {P:Program} {c:CV} {m:Mp} {D:Nat→Prop} {h h':AH} {w:World}
def Xb (tmps:Array Value):ResultVar→Sem Value
 | .tmp t=>pure (tmps.getD t undef)
 | .cell a t=>do loadVar t (← asAddr (tmps.getD a undef))
theorem qV4 (RR:Rel P m D h w) {t:TypeId} {v:AV} (hd:inD D v) (hi:kj P t=some none) {k:AV→R} {r:AV×AH} (e:jN h v k=some r) :
  ∃z,k z=some r∧inD D z∧(do loadVar t (← asAddr (cv m v)):Sem Value).run P w=.ok (cv m z) w:=by
 rcases kZ hi with⟨_,hag⟩ |⟨n,hn,_,_⟩
 rotate_left
 ·cases hn
 simp only[vM]at e
 split at e
 ·rename_i b off
  split at e
  ·rename_i cs t' op' hg;simp only[qH]at e;obtain⟨z,hz,e⟩:=e;obtain⟨z1,z2⟩:=RR.read1 hd hg hz;refine⟨z,e,z2,?_⟩;simp only[cv];rw[qY (show(asAddr (.pointer (some ⟨(m b).1,off,none⟩))).run P w=.ok ⟨(m b).1,off,none⟩ w from rfl)];unfold loadVar;rw[qY (gP hag)];exact z1
  ·rename_i ti hg;simp only[qH]at e;obtain⟨z,hz,e⟩:=e;obtain⟨z1,z2⟩:=RR.readI1 hd hg hz;refine⟨z,e,z2,?_⟩;simp only[cv];rw[qY (show(asAddr (.pointer (some ⟨(m b).1,off,none⟩))).run P w=.ok ⟨(m b).1,off,none⟩ w from rfl)];unfold loadVar;rw[qY (gP hag)];exact z1
  ·cases e
 ·cases e
theorem qGh (RR:Rel P m D h w) {t:TypeId} {v:AV} {n:Nat} (hd:inD D v) (hi:kj P t=some (some n)) {k:AV→R} {r:AV×AH} (e:zO h v n k=some r) :
  ∃z,k z=some r∧inD D z∧(do loadVar t (← asAddr (cv m v)):Sem Value).run P w=.ok (cv m z) w:=by
 rcases kZ hi with⟨hn,_⟩ |⟨n',hn,hag,hsz⟩
 ·cases hn
 cases hn;simp only[wu]at e
 split at e
 ·rename_i b off;simp only[qH]at e;obtain⟨z,hz,e⟩:=e;obtain⟨z1,z2,z3⟩:=RR.read hd hz;refine⟨.agg z,e,z2,?_⟩;simp only[cv];rw[qY (show(asAddr (.pointer (some ⟨(m b).1,off,none⟩))).run P w=.ok ⟨(m b).1,off,none⟩ w from rfl)];unfold loadVar;rw[qY (gP hag)];simp only[if_true];rw[qY (run_sizeOf hsz),qY z1];rfl
 ·cases e
theorem qy6 (RR:Rel P m D h w) {n:Nat} {a:Act} {tm:PT AV} (T:TmR m D n a tm) {r:AV×AH}:∀(l:List ResultVar) (k:List AV→R),VX P tm h l k=some r→
  ∃vs,k vs=some r∧inDs D vs∧(l.mapM (Xb a.tmps)).run P w=.ok (cvs m vs) w:=by
 intro l
 induction l with
 |nil=>intro k e;exact⟨[],e,trivial,by rw[List.mapM_nil];rfl⟩
 |cons x l ih=>
  intro k e;cases x with
  |tmp t=>
   simp only[VX,qH]at e;obtain⟨v,hv,e⟩:=e;obtain⟨vs,e1,e2,e3⟩:=ih _ e;obtain⟨h1,h2⟩:=T.at_ t v hv;refine⟨v::vs,e1,⟨h2,e2⟩,?_⟩;rw[List.mapM_cons];have:(Xb a.tmps (.tmp t)).run P w=.ok (cv m v) w:=by simp only[Xb,Array.getD_eq_getD_getElem?,h1,Option.getD_some];rfl
   rw[qY this,qY e3];rfl
  |cell x t=>
   simp only[VX,qH]at e;obtain⟨v,hv,i,hi,e⟩:=e;obtain⟨h1,h2⟩:=T.at_ x v hv;have key:∃z,VX P tm h l (λl=>k (z::l))=some r∧inD D z∧(Xb a.tmps (.cell x t)).run P w=.ok (cv m z) w:=by
    simp only[Xb,Array.getD_eq_getD_getElem?,h1,Option.getD_some];cases i with
    |none=>exact qV4 RR h2 hi e
    |some n=>exact qGh RR h2 hi e
   obtain⟨z,e,z1,z2⟩:=key;obtain⟨vs,e1,e2,e3⟩:=ih _ e;refine⟨z::vs,e1,⟨z1,e2⟩,?_⟩;rw[List.mapM_cons,qY z2,qY e3];rfl
theorem jQ8 (m:Mp) (l:List AV):(if h:(cvs m l).toArray.size=1 then(cvs m l).toArray[0]else .tuple (cvs m l).toArray)=cv m (one? l):=by
 match l with
 |[]=>simp[one?,cvs,cv]
 |[v]=>simp[one?,cvs]
 |v::u::l=>simp[one?,cvs,cv]
theorem qXP (RR:Rel P m D h w) {fn:Func} {n:Nat} {a:Act} {tm:PT AV} (T:TmR m D n a tm) {r:AV×AH} (e:VX P tm h fn.results.toList (λl=>some (one? l,h))=some r) :
  ∃v,r=(v,h)∧inD D v∧(results fn a.tmps).run P w=.ok (cv m v) w:=by
 obtain⟨vs,e1,e2,e3⟩:=qy6 RR T _ _ e;simp only[Option.some.injEq]at e1;refine⟨one? vs,e1.symm,?_,?_⟩
 ·unfold one?
  split
  ·exact e2.1
  ·exact e2
 ·have hm:(fn.results.mapM (Xb a.tmps)).run P w=.ok (cvs m vs).toArray w:=by
   rw[Array.mapM_eq_mapM_toList];show((fn.results.toList.mapM (Xb a.tmps))>>=λl=>pure l.toArray).run P w=_;rw[qY e3];rfl
  show((fn.results.mapM (Xb a.tmps))>>=λvs=>pure (if h:vs.size=1 then vs[0]else .tuple vs)).run P w=_;rw[qY hm];show Result.ok _ w=_;rw[jQ8]
end Go.Ae
namespace Go.Ae
open Go
variable {P:Program} {c:CV} {m:Mp} {D:Nat→Prop} {h h':AH} {w:World}
theorem qQ6 {fn:Func} {a:Act} {tm:PT AV} {m0:Mp} {D0:Nat→Prop} {h0:AH} {w0:World} {r:AV×AH} {nn n:Nat} :
  ∀(ds:List Nat) (l:List Deferred) (m:Mp) (D:Nat→Prop) (h:AH) (w:World),Rel P m D h w→Ext m0 D0 h0 w0 m D h w→TmR m D n a tm→DefR m D ds l→
   z7 ds h (λh'=>VX P tm h' fn.results.toList λl=>some (one? l,h'))=some r→
   LeavesInM Fence.wide nn P fn a.tmps (Qw P m0 D0 h0 w0 r) l .returning w:=by
 intro ds
 induction ds with
 |nil=>
  intro l m D h w RR X T df e;have:l=[]:=by rw[df.2];rfl
  subst this;obtain⟨v,rfl,v1,v2⟩:=qXP RR T e;exact⟨cv m v,v2,m,D,rfl,X,RR,v1⟩
 |cons d ds ih=>
  intro l m D h w RR X T df e;have hl:l=Ko (m d).1::ds.map (λd=>Ko (m d).1):=df.2;subst hl;have hd:=df.1 d (iK ..);simp only[z7]at e
  split at e
  rotate_left
  ·cases e
  rename_i hg;obtain⟨x,hx,hxr,hxd⟩:=RR.blk d hd;rw[hg]at hx;cases hx;have hb:w.heap[(m d).1]? =some (.deferred (some [])):=hxr;have hsz:=(Array.getElem?_eq_some_iff.1 hb).1;obtain⟨X2,R2⟩:=RR.put (w0:=w.putObj (m d).1 (.deferred none)) d .took hd ⟨_,hg,trivial⟩ osQ (λc hc=>World.putObj_heap_other hc) rfl rfl rfl trivial
   ⟨_,World.putObj_heap_same hsz⟩
  refine⟨by simp,.inl ⟨(m d).1,_,rfl,run_takeDeferred hb,?_⟩⟩;exact ih _ m D _ _ R2 (X.trans X2) (T.mono X2) ⟨λb hb=>df.1 b (iX _ hb),rfl⟩ e
theorem qqH:∀(l:List AV) (i:Nat) (t:PT AV) (j:Nat),(qW5 l i t).get j=if i≤j∧j<i+l.length then l[j-i]? else t.get j:=by
 intro l
 induction l with
 |nil=>intro i t j;simp only[qW5,List.length_nil];rw[iQ omQ]
 |cons a l ih=>
  intro i t j;simp only[qW5,ih,List.length_cons];by_cases h1:i+1≤j∧j<i+1+l.length
  ·rw[iJ h1,iJ omQ,show j-i=(j-(i+1))+1 by omega];simp
  ·rw[iQ h1,PT.get_set];by_cases h2:i=j
   ·subst h2;rw[iJ rfl,iJ omQ];simp
   ·rw[iQ h2,iQ omQ]
theorem qkH (hc:yI P c) (hd:V5 P c) {N:Nat} {pl:Pl} {f:FuncId} {args:List AV} {r:AV×AH} (e:xE P N pl c f args h=some r) (RR:Rel P m D h w) (ha:inDs D args) (nn:Nat) :
  CallsIn Fence.wide nn P f (cvs m args).toArray w (Qw P m D h w r):=by
 simp only[xE,qH]at e;obtain⟨fn,hf,b,hb,e⟩:=e;refine callsIn_of_wp_marks hf hb trivial ?_;have T:TmR m D fn.ntmps { tmps:=(cvs m args).toArray++Array.replicate (fn.ntmps-(cvs m args).toArray.size) undef,defers:=[] } (qW5 args 0 .e):=by
  refine⟨by simp;omega,?_⟩;intro t v hv;rw[qqH]at hv
  split at hv
  ·rename_i ht;simp only[Nat.sub_zero]at hv;have hm:=List.mem_of_getElem? hv;refine⟨?_,(xC D args).1 ha v hm⟩;have hlt:t<args.length:=by omega
   simp only[];rw[Array.getElem?_append_left (by simp;omega)];simp only[List.getElem?_toArray,zl,List.getElem?_map,hv,Option.map_some]
  ·rw[PT.get_e]at hv;cases hv
 refine ZK hc hd N f fn.ntmps none b none nn _ r [] pl _ h [] _ m D w _ ⟨RR,T,⟨λb hb=>(by cases hb),rfl⟩,rfl⟩ ⟨fn,b,hf,hb,rfl,by simp[xK]⟩ e ?_;intro x m1 D1 h1 w1 a1 tm1 ds1 X1 S1 e1;cases x with
 |normal=>exact qQ6 ds1 _ m1 D1 h1 w1 S1.rel X1 S1.tm S1.df e1
 |ret=>exact qQ6 ds1 _ m1 D1 h1 w1 S1.rel X1 S1.tm S1.df e1
 |exit i=>cases e1
 |goto l=>cases e1
theorem qve {m:Mp} {D:Nat→Prop} {n:Nat} {a:Act} {k:PT AV→R} {r:AV×AH}:∀(L:List Nat) (vs:List AV) (t:PT AV),TmR m D n a t→(∀p∈L.zip vs,a.tmps[p.1]? =some (cv m p.2))→inDs D vs→
  zipK L vs t k=some r→∃t',k t'=some r∧TmR m D n a t':=by
 intro L
 induction L with
 |nil=>
  intro vs t T hz hd e;cases vs with
  |nil=>exact⟨t,e,T⟩
  |cons v vs=>cases e
 |cons x L ih=>
  intro vs t T hz hd e;cases vs with
  |nil=>cases e
  |cons v vs=>
   simp only[zipK]at e;refine ih vs _ ?_ (λp hp=>hz p (iX _ hp)) hd.2 e;refine⟨T.size,?_⟩;intro s u hs;rw[PT.get_set]at hs;by_cases hx:x=s
   ·subst hx;rw[iJ rfl]at hs;cases hs;exact⟨hz (x,v) (iK ..),hd.1⟩
   ·rw[iQ hx]at hs;exact T.at_ s u hs
theorem qzh {m:Mp} {D:Nat→Prop} {n:Nat} {k:PT AV→R} {r:AV×AH}:∀(ps:List Tmp) (vs:List AV) (t:PT AV) (tmps:Array Value),TmR m D n { tmps,defers:=[] } t→inDs D vs→
  qK9 ps vs n t k=some r→ps.length=vs.length∧∃t',k t'=some r∧TmR m D n { tmps:=(ps.zip (cvs m vs)).foldl (λtmps (p:Tmp×Value)=>tmps.setIfInBounds p.1 p.2) tmps,defers:=[] } t':=by
 intro ps
 induction ps with
 |nil=>
  intro vs t tmps T hd e;cases vs with
  |nil=>exact⟨rfl,t,e,T⟩
  |cons v vs=>cases e
 |cons p ps ih=>
  intro vs t tmps T hd e;cases vs with
  |nil=>cases e
  |cons v vs=>
   simp only[qK9,jt]at e;obtain⟨hp,e⟩:=e;have hp:=zQ hp;have T':TmR m D n { tmps:=tmps.setIfInBounds p (cv m v),defers:=[] } (t.set p v):=by
    refine⟨by simpa using T.size,?_⟩;intro s u hs;rw[PT.get_set]at hs;by_cases hx:p=s
    ·subst hx;rw[iJ rfl]at hs;cases hs;have:=T.size;simp only[]at this;refine⟨?_,hd.1⟩;simp[Array.getElem?_setIfInBounds_self];omega
    ·rw[iQ hx]at hs;obtain⟨h1,h2⟩:=T.at_ s u hs;exact⟨by simp[Array.getElem?_setIfInBounds_ne hx];exact h1,h2⟩
   obtain⟨h1,t',h2,h3⟩:=ih vs _ _ T' hd.2 e;exact⟨by simp[h1],t',h2,h3⟩
end Go.Ae
namespace Go.Ae
open Go
variable {P:Program} {c:CV} {m:Mp} {D:Nat→Prop} {h h':AH} {w:World}
theorem Om {m0:Mp} {D0:Nat→Prop} {h0:AH} {w0:World} {r:AV×AH} {l:Nat} {lc:Nat} {rd rc:Option Nat} {n:Nat} {ds:List Nat} {a:Act} {tm:PT AV} {j:Option AX}
  (S:St P m D h w n ds a tm rd rc) (X:Ext m0 D0 h0 w0 m D h w) (hl:D l) (hlc:(m l).1=lc) (e:xc h l j=some r) :
  ∃v w',(Instr.endRound lc (j.map wW)).run P w=.ok v w'∧Qw P m0 D0 h0 w0 r (.returned v) w':=by
 subst hlc;unfold xc at e
 split at e
 rotate_left
 ·cases e
 rename_i st pend f p L vs d hg;obtain⟨x,hx,hxr,hxd⟩:=S.rel.blk l hl;rw[hg]at hx;cases hx;obtain⟨f',tmps,ps,g,assign,body,fn,bd,q1,q2,q3,q4,q5,q6,q7⟩:=hxr;have hsz:=(Array.getElem?_eq_some_iff.1 q1).1;have he:=run_endRound (P:=P) (j.map wW) q1;refine⟨_,_,he,?_⟩;cases j with
 |none=>
  simp only[Option.some.injEq]at e;obtain⟨X2,R2⟩:=S.rel.put (w0:=w.putObj (m l).1 (.loop { state:=.ready,pending:=none,fn:=f',tmps:=tmps,params:=ps,assign:=assign,body:=body,defers:=(m d).1 })) l
   (.loop .ready none f p L vs d) hl ⟨_,hg,trivial⟩ osQ (λc hc=>World.putObj_heap_other hc) rfl rfl rfl hxd
   ⟨f',tmps,ps,g,assign,body,fn,bd,World.putObj_heap_same hsz,q2,q3,q4,q5,q6,q7⟩
  subst e;exact⟨m,D,rfl,X.trans X2,R2,trivial⟩
 |some y=>
  simp only[Option.some.injEq]at e;obtain⟨X2,R2⟩:=S.rel.put (w0:=w.putObj (m l).1 (.loop { state:=.done,pending:=some (wW y),fn:=f',tmps:=tmps,params:=ps,assign:=assign,body:=body,defers:=(m d).1 })) l
   (.loop .done (some y) f p L vs d) hl ⟨_,hg,trivial⟩ osQ (λc hc=>World.putObj_heap_other hc) rfl rfl rfl hxd
   ⟨f',tmps,ps,g,assign,body,fn,bd,World.putObj_heap_same hsz,q2,q3,q4,q5,q6,q7⟩
  subst e;exact⟨m,D,rfl,X.trans X2,R2,trivial⟩
theorem qq6 (hc:yI P c) (hd:V5 P c) {N:Nat} {pl:Pl} {f:FuncId} {pos L:List Nat} {l:Nat} {vs args:List AV} {r:AV×AH} {st:LoopState} {pend:Option AX} {d:Nat}
  (hg:h.get l=some (.loop st pend f pos L vs d)) (e:MH P N pl c f pos L l vs args h=some r) (RR:Rel P m D h w) (hl:D l) (ha:inDs D args):ZO P m D h w args r (.yield l):=by
 obtain⟨x,hx,hxr,hxd⟩:=RR.blk l hl;rw[hg]at hx;cases hx;obtain⟨f',tmps,ps,g,assign,body,fn,bd,q1,q2,q3,q4,q5,q6,q7⟩:=hxr;simp only[MH,qH]at e;obtain⟨fn',hf',bd',hb',s,hs,e⟩:=e;rw[q2]at hf';cases hf';rw[q3]at hb';cases hb';rw[q4]at hs;cases hs;simp only[]at e;have T0:TmR m D fn.ntmps { tmps:=tmps,defers:=[] } .e:=⟨q5,λt v hv=>by rw[PT.get_e]at hv;cases hv⟩;obtain⟨tm0,e,T1⟩:=qve L vs .e T0 q7 hxd.1 e;obtain⟨hlen,tm1,e,T2⟩:=qzh ps.toList args tm0 tmps T1 ha e;have hsz:(cvs m args).toArray.size=ps.size:=by simp only[List.size_toArray,cvs_len];rw[← hlen];simp
 have hy:=run_yield (P:=P) (args:=(cvs m args).toArray) q1 hsz;refine⟨f',_,assign,body,hy,?_⟩;intro nn;have hfold:(ps.zip (cvs m args).toArray).foldl (λtmps (x:Tmp×Value)=>tmps.setIfInBounds x.1 x.2) tmps=(ps.toList.zip (cvs m args)).foldl (λtmps (x:Tmp×Value)=>tmps.setIfInBounds x.1 x.2) tmps:=by rw[← Array.foldl_toList,Array.toList_zip]
 refine roundIn_of_wpIn trivial ?_;simp only[];have hfold':(ps.zip (cvs m args).toArray).foldl (λtmps (x:Tmp×Value)=>match x with |(t,a)=>tmps.setIfInBounds t a) tmps=(ps.toList.zip (cvs m args)).foldl (λtmps (x:Tmp×Value)=>tmps.setIfInBounds x.1 x.2) tmps:=hfold;rw[hfold'];have hat:∃fn' bd',P.funcs[f]? =some fn'∧fn'.body=some bd'∧fn'.ntmps=fn.ntmps∧xK bd' pos=some (.rangeFunc g ps assign body):=⟨fn,bd,q2,q3,rfl,q4⟩;have hata:=XU (q:=[0]) hat (s:=assign) (by simp only[xK];rfl);have hatb:=XU (q:=[1]) hat (s:=body) (by simp only[xK];rfl);refine ZK hc hd N f fn.ntmps (some l) assign (some (m l).1) nn _ r (pos++[0]) (plA pl) _ h [] _ m D w _ ⟨RR,T2,⟨λb hb=>(by cases hb),rfl⟩,⟨hl,rfl⟩⟩ hata e ?_;intro x m1 D1 h1 w1 a1 tm1 ds1 X1 S1 e1;cases x with
 |exit i=>cases e1
 |goto i=>cases e1
 |ret=>cases e1
 |normal=>
  simp only[]at e1;unfold Jh at e1
  split at e1
  rotate_left
  ·cases e1
  rename_i pend1 f1 pos1 L1 vs1 d1 hg1;have hl1:=X1.dom l hl;have hm1:(m1 l).1=(m l).1:=by rw[X1.map l hl]
  obtain⟨x,hx,hxr,hxd1⟩:=S1.rel.blk l hl1;rw[hg1]at hx;cases hx;obtain⟨f2,tmps2,ps2,g2,assign2,body2,fn2,bd2,p1,p2,p3,p4,p5,p6,p7⟩:=hxr;rw[hm1]at p1;have hsz1:=(Array.getElem?_eq_some_iff.1 p1).1;refine⟨_,run_beginRound p1 rfl,?_⟩;obtain⟨X2,R2⟩:=S1.rel.put (w0:=w1.putObj (m l).1 (.loop { state:=.busy,pending:=pend1.map wW,fn:=f2,tmps:=tmps2,params:=ps2,assign:=assign2,body:=body2,defers:=(m1 d1).1 })) l
   (.loop .busy pend1 f1 pos1 L1 vs1 d1) hl1 ⟨_,hg1,trivial⟩ osQ (λc hc=>World.putObj_heap_other (by rw[hm1]at hc;exact hc)) rfl rfl rfl hxd1
   ⟨f2,tmps2,ps2,g2,assign2,body2,fn2,bd2,by rw[hm1];exact World.putObj_heap_same hsz1,p2,p3,p4,p5,p6,p7⟩
  refine ZK hc hd N f fn.ntmps (some l) body (some (m l).1) nn _ r (pos++[1]) (plB pl) _ _ ds1 _ m1 D1 _ _ ⟨R2,S1.tm.mono X2,S1.df.mono X2,S1.rd.mono X2⟩ hatb e1 ?_;intro y m3 D3 h3 w3 a3 tm3 ds3 X3 S3 e3;have XX:=(X1.trans X2).trans X3;have hl3:=XX.dom l hl;have hm3:(m3 l).1=(m l).1:=by rw[XX.map l hl]
  cases y with
  |normal=>exact Om S3 XX hl3 hm3 e3
  |exit i=>exact Om (j:=some (.exit i)) S3 XX hl3 hm3 e3
  |goto i=>exact Om (j:=some (.goto i)) S3 XX hl3 hm3 e3
  |ret=>exact Om (j:=some .ret) S3 XX hl3 hm3 e3
def XOk (P:Program) (f:Nat) (w:WF):Prop:=∀c l h r,w c l h=some r→∀m D W,Rel P m D h W→inDs D l→∀n,CallsIn Fence.wide n P f (cvs m l).toArray W (Qw P m D h W r)
def WX (P:Program) (f:Nat) (w:WF):Prop:=WOk P f w∨XOk P f w
structure TabOk (P:Program) (tab:BT) (rt:List RT):Prop where
  w:∀f g,tab.get f=some g→WX P f g
  enter:∀f g,tab.get f=some g→∀(as:Array Value) (W:World),(callFunc f as).run P W=.ok (.enter f as) W
  r:∀p∈rt,VOk P p.f p.pos p.L p.run
theorem qQr:∀{a b:List Nat},Gw a b=true→a=b:=by
 intro a
 induction a with
 |nil=>intro b h;cases b<;>first |rfl |cases h
 |cons x a ih=>
  intro b h;cases b with
  |nil=>cases h
  |cons y b=>simp only[Gw,Bool.and_eq_true]at h;rw[jo h.1,ih h.2]
theorem qQ3:∀{rt:List RT} {f:Nat} {pos L:List Nat} {g:VF},Ys rt f pos L=some g→∃p∈rt,p.f=f∧p.pos=pos∧p.L=L∧p.run=g:=by
 intro rt
 induction rt with
 |nil=>intro f pos L g h;cases h
 |cons x rt ih=>
  intro f pos L g h;simp only[Ys]at h;cases hb:Nat.beq x.f f&&(Gw x.pos pos&&Gw x.L L)
  ·rw[hb]at h;obtain⟨p,hp,hh⟩:=ih h;exact⟨p,iX _ hp,hh⟩
  ·rw[hb]at h;simp only[Bool.and_eq_true]at hb;simp only[cond_true,Option.some.injEq]at h;exact⟨x,iK ..,jo hb.1,qQr hb.2.1,qQr hb.2.2,h⟩
theorem WX.call {f:Nat} {g:WF} {args:List AV} {r:AV×AH} (x:WX P f g) (hc:yI P c) (hd:V5 P c) (e:g c args h=some r) (RR:Rel P m D h w) (ha:inDs D args) (n:Nat):CallsIn Fence.wide n P f (cvs m args).toArray w (Qw P m D h w r):=by
 rcases x with x |x
 ·obtain⟨pl,e⟩:=x _ _ _ _ e;exact qkH hc hd e RR ha n
 ·exact x _ _ _ _ e m D w RR ha n
theorem qY9 {tab:BT} {rt:List RT} (ht:TabOk P tab rt) (hd:∀c,yI P c→V5 P c):∀k,yI P (callT tab rt k):=by
 intro k
 induction k with
 |zero=>intro vf args h r e;cases e
 |succ k ih=>
  intro vf args h r e m D w RR hv ha;cases vf with
  |fn f first cap=>
   have e:Option.rec (motive:=λ_=>R) none (λg=>g (callT tab rt k) (first++args++cap) h) (BT.get tab f)=some r:=e;cases hg:BT.get tab f with
   |some g=>rw[hg]at e;refine⟨ht.enter f g hg,λn=>(ht.w f g hg).call ih (hd _ ih) e RR ?_ n⟩;exact vB.2 ⟨vB.2 ⟨hv.1,ha⟩,hv.2⟩
   |none=>rw[hg]at e;cases e
  |yield l=>
   have e:(match h.get l with
    |some (.loop .ready _ f pos L vs _)=>(match Ys rt f pos L with |some g=>g (callT tab rt k) l vs args h |none=>none)
    |_=>none)=some r:=e
   split at e
   ·rename_i pend f pos L vs d hg
    split at e
    ·rename_i g hgr;obtain⟨p,hp,rfl,rfl,rfl,rfl⟩:=qQ3 hgr;obtain⟨pl,e⟩:=ht.r p hp _ _ _ _ _ _ e;exact qq6 ih (hd _ ih) hg e RR hv ha
    ·cases e
   ·cases e
  |_=>cases e
end Go.Ae
