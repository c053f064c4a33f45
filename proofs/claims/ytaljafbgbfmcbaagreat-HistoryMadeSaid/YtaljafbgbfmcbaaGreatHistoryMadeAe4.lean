/- The abstract executor of the program's form in Lean, shown sound: operations one behind the other; code; functions; rounds; tables. -/
import Derived.Test.YtaljafbgbfmcbaaGreatHistoryMadeAe3
import Derived.LoopNIn
import Derived.RangeFuncRecord
import Derived.RangeFuncNested
namespace Go.Ae
open Go
variable {P:Program} {c:CV}
abbrev cJ (x:R) (k:AV→AH→R):R:=x.bind λq=>k q.1 q.2
theorem jF {α:Type} {x:Option α} {f:α→R} {k:AV→AH→R}:cJ (ob x f) k=ob x λa=>cJ (f a) k:=by grind
theorem J5 {b:Bool} {x y:R} {k:AV→AH→R}:cJ (cK b x y) k=cK b (cJ x k) (cJ y k):=by cases b<;>rfl
theorem jh {b:Bool} {x y:R} {k:AV→AH→R}:cJ (bif b then x else y) k=bif b then cJ x k else cJ y k:=by grind
theorem xF {k:AV→AH→R}:cJ none k=none:=rfl
theorem zL {v:AV} {h:AH} {k:AV→AH→R}:cJ (some (v,h)) k=k v h:=rfl
theorem qc {α:Type} {x:Option α} {f g:α→R} (h:∀a,f a=g a):ob x f=ob x g:=by grind
theorem jA {b:Bool} {x y x' y':R} (h:x=x') (h':y=y'):(bif b then x else y)=(bif b then x' else y'):=by grind
theorem jZf (a b d:AV) (h:AH) (k:AV→AH→R):cJ (w4 a b d λz=>some (z,h)) k=w4 a b d λz=>k z h:=by simp only[qJH];repeat' (first |rfl |(simp only[J5,zL];done) |(rw[jF];refine qc λ_=>?_) |(rw[jh];refine jA ?_ ?_) |split)
theorem Hh (a:AV) (h:AH) (k:AV→AH→R):cJ (zn a λz=>some (z,h)) k=zn a λz=>k z h:=by unfold zn;split<;>simp_all
theorem qz4 (a:AV) (n:Nat) (h:AH) (k:AV→AH→R):cJ (qH a n λz=>some (z,h)) k=qH a n λz=>k z h:=by simp only[Mo];split<;>simp_all
theorem qyr (a:AV) (n:Nat) (h:AH) (k:AV→AH→R):cJ (Gt a n λz=>some (z,h)) k=Gt a n λz=>k z h:=by simp only[Un];repeat' (first |rfl |(simp only[jF,zL];done) |(rw[jF];refine qc λ_=>?_) |(rw[jh];refine jA ?_ ?_) |split)
theorem qw8 (a:AV) (n m:Nat) (h:AH) (k:AV→AH→R):cJ (Kg a n m λz=>some (z,h)) k=Kg a n m λz=>k z h:=by unfold Kg;repeat' (first |rfl |(simp only[jF,zL];done) |(rw[jF];refine qc λ_=>?_) |(rw[jh];refine jA ?_ ?_) |split)
theorem jJH (a b:AV) (n:Nat) (h:AH) (k:AV→AH→R):cJ (yt a b n λz=>some (z,h)) k=yt a b n λz=>k z h:=by simp only[Vf];repeat' (first |rfl |(simp only[jh,xF,zL];done) |(rw[jF];refine qc λ_=>?_) |(rw[jh];refine jA ?_ ?_) |split)
theorem jJI (a b:AV) (n m:Nat) (h:AH) (k:AV→AH→R):cJ (Ji a b n m λz=>some (z,h)) k=Ji a b n m λz=>k z h:=by unfold Ji;repeat' (first |rfl |(simp only[jh,xF,zL];done) |(rw[jF];refine qc λ_=>?_) |(rw[jh];refine jA ?_ ?_) |split)
theorem qw0 (a b:AV) (n m:Nat) (h:AH) (k:AV→AH→R):cJ (J6 a b n m λz=>some (z,h)) k=J6 a b n m λz=>k z h:=by unfold J6;repeat' (first |rfl |(simp only[jF,jh,xF,zL];done) |(rw[jF];refine qc λ_=>?_) |(rw[jh];refine jA ?_ ?_) |split)
theorem qwD (a b:AV) (n m:Nat) (h:AH) (k:AV→AH→R):cJ (KV a b n m λz=>some (z,h)) k=KV a b n m λz=>k z h:=by unfold KV;repeat' (first |rfl |(simp only[jF,jh,xF,zL];done) |(rw[jF];refine qc λ_=>?_) |(rw[jh];refine jA ?_ ?_) |split)
theorem qzt (a b:AV) (h:AH) (k:AV→AH→R):cJ (X8 a b λz=>some (z,h)) k=X8 a b λz=>k z h:=by unfold X8;repeat' (first |rfl |(simp only[jF,zL];done) |(rw[jF];refine qc λ_=>?_) |(rw[jh];refine jA ?_ ?_) |split)
theorem qwl (h0:AH) (a:AV) (h:AH) (k:AV→AH→R):cJ (jK h0 a λz=>some (z,h)) k=jK h0 a λz=>k z h:=by simp only[gD];repeat' (first |rfl |(simp only[jF,zL];done) |(rw[jF];refine qc λ_=>?_) |(rw[jh];refine jA ?_ ?_) |split)
theorem jQC (h0:AH) (a:AV) (n:Nat) (h:AH) (k:AV→AH→R):cJ (jr h0 a n λz=>some (z,h)) k=jr h0 a n λz=>k z h:=by simp only[ku];repeat' (first |rfl |(simp only[jF,zL];done) |(rw[jF];refine qc λ_=>?_) |(rw[jh];refine jA ?_ ?_) |split)
theorem Hi (op:BinOp) (a b:AV) (h:AH) (k:AV→AH→R):cJ (j6 op a b λz=>some (z,h)) k=j6 op a b λz=>k z h:=by simp only[Z0];repeat' (first |rfl |(simp only[jF,jh,xF,zL];done) |(rw[jF];refine qc λ_=>?_) |(rw[jh];refine jA ?_ ?_) |split)
theorem qg1 (op:BinOp) (a b:AV) (h:AH) (k:AV→AH→R):cJ (wh op a b λz=>some (z,h)) k=wh op a b λz=>k z h:=by unfold wh;repeat' (first |rfl |(simp only[jF,zL];done) |(rw[jF];refine qc λ_=>?_) |(rw[jh];refine jA ?_ ?_) |split)
theorem Hj (op:BinOp) (a b:AV) (h:AH) (k:AV→AH→R):cJ (Uc op a b λz=>some (z,h)) k=Uc op a b λz=>k z h:=by unfold Uc;repeat' (first |rfl |(simp only[jF,zL];done) |(rw[jF];refine qc λ_=>?_) |(rw[jh];refine jA ?_ ?_) |split)
theorem SU (d:EK) (n:Bool) (a b:AV) (h:AH) (k:AV→AH→R):cJ (sh d n a b λz=>some (z,h)) k=sh d n a b λz=>k z h:=by simp[sh,jF]
theorem Hk (d:List ES) (n:Bool) (a b:AV) (h:AH) (k:AV→AH→R):cJ (UP d n a b λz=>some (z,h)) k=UP d n a b λz=>k z h:=by unfold UP;repeat' (first |rfl |(simp only[jF,zL];done) |(rw[jF];refine qc λ_=>?_) |(rw[jh];refine jA ?_ ?_) |split)
theorem SV (op:UnOp) (a:AV) (h:AH) (k:AV→AH→R):cJ (sG op a λz=>some (z,h)) k=sG op a λz=>k z h:=by unfold sG;split<;>simp_all
theorem jQd (d:IntKind) (a:AV) (h:AH) (k:AV→AH→R):cJ (QI d a λz=>some (z,h)) k=QI d a λz=>k z h:=by unfold QI;split<;>simp_all
theorem qyR (a:AV) (h:AH) (k:AV→AH→R):cJ (G3 a λz=>some (z,h)) k=G3 a λz=>k z h:=by unfold G3;split<;>simp_all
theorem Hl (h0:AH) (a:AV) (h:AH) (k:AV→AH→R):cJ (Nf h0 a λz=>some (z,h)) k=Nf h0 a λz=>k z h:=by unfold Nf;repeat' (first |rfl |(simp only[jF,zL];done) |(rw[jF];refine qc λ_=>?_) |(rw[jh];refine jA ?_ ?_) |split)
theorem qvU (a:AV) (lo hi:Option AV) (h:AH) (k:AV→AH→R):cJ (XR a lo hi λz=>some (z,h)) k=XR a lo hi λz=>k z h:=by unfold XR;repeat' (first |rfl |(simp only[jF,zL];done) |(rw[jF];refine qc λ_=>?_) |(rw[jh];refine jA ?_ ?_) |split)
theorem SW (h0:AH) (e:TypeId) (n:Nat) (a:AV) (lo hi:Option AV) (h:AH) (k:AV→AH→R):cJ (xC h0 e n a lo hi λz=>some (z,h)) k=xC h0 e n a lo hi λz=>k z h:=by unfold xC;repeat' (first |rfl |(simp only[jF,jh,xF,zL];done) |(rw[jF];refine qc λ_=>?_) |(rw[jh];refine jA ?_ ?_) |split)
theorem qxP (n m:Nat) (a:AV) (lo hi:Option AV) (h:AH) (k:AV→AH→R):cJ (YQ n m a lo hi λz=>some (z,h)) k=YQ n m a lo hi λz=>k z h:=by unfold YQ;repeat' (first |rfl |(simp only[jF,zL];done) |(rw[jF];refine qc λ_=>?_) |(rw[jh];refine jA ?_ ?_) |split)
theorem qV6 (t:TypeId) (z a:AV) (h:AH) (k:AV→AH→R):cJ (wR t z a λz=>some (z,h)) k=wR t z a λz=>k z h:=by unfold wR;repeat' (first |rfl |(simp only[jh,zL];done) |(rw[jF];refine qc λ_=>?_) |(rw[jh];refine jA ?_ ?_) |split)
theorem qkb (t:TypeId) (a:AV) (h:AH) (k:AV→AH→R):cJ (Jc t a λz=>some (z,h)) k=Jc t a λz=>k z h:=by unfold Jc;repeat' (first |rfl |(simp only[jh,xF,zL];done) |(rw[jF];refine qc λ_=>?_) |(rw[jh];refine jA ?_ ?_) |split)
theorem qYr (a:AV) (n:Nat) (h:AH) (k:AV→AH→R):cJ (wn a n λz=>some (z,h)) k=wn a n λz=>k z h:=by simp only[Yw];repeat' (first |rfl |(simp only[jF,zL];done) |(rw[jF];refine qc λ_=>?_) |(rw[jh];refine jA ?_ ?_) |split)
theorem jJE (a:AV) (h:AH) (k:AV→AH→R):cJ (kH a λz=>some (z,h)) k=kH a λz=>k z h:=by unfold kH;split<;>simp_all
theorem qv6 (a:AV) (h:AH) (k:AV→AH→R):cJ (YX a λz=>some (z,h)) k=YX a λz=>k z h:=by unfold YX;split<;>simp_all
theorem SX (b:Bool) (l:List AV) (h:AH) (k:AV→AH→R):cJ (rJ b l λz=>some (z,h)) k=rJ b l λz=>k z h:=by unfold rJ;repeat' (first |rfl |(simp only[jF,jh,xF,zL];done) |(rw[jF];refine qc λ_=>?_) |(rw[jh];refine jA ?_ ?_) |split)
theorem qy9 (z:List AV) (vs:List (Nat×Nat×AV)) (h:AH) (k:AV→AH→R):cJ (zc z vs λz=>some (z,h)) k=zc z vs λz=>k z h:=by simp[zc,jF]
theorem Hm (h0:AH) (e:TypeId) (a:AV) (k:AV→AH→R):cJ (Bk h0 e a λz h=>some (z,h)) k=Bk h0 e a k:=by unfold Bk;repeat' (first |rfl |(simp only[jh,xF,zL];done) |(rw[jF];refine qc λ_=>?_) |(rw[jh];refine jA ?_ ?_) |split)
theorem Hn (h0:AH) (e:TypeId) (a:AV) (k:AV→AH→R):cJ (J4 h0 e a λz h=>some (z,h)) k=J4 h0 e a k:=by simp[J4,jh]
theorem qj8 (h0:AH) (e:TypeId) (z:List AV) (n:Nat) (vs:List (Nat×Nat×AV)) (k:AV→AH→R):cJ (xd h0 e z n vs λz h=>some (z,h)) k=xd h0 e z n vs k:=by simp[xd,jF,jh]
theorem jJT (h0:AH) (e:TypeId) (z:List AV) (a b:AV) (k:AV→AH→R):cJ (YG h0 e z a b λz h=>some (z,h)) k=YG h0 e z a b k:=by unfold YG;repeat' (first |rfl |(simp only[jh,xF,zL];done) |(rw[jF];refine qc λ_=>?_) |(rw[jh];refine jA ?_ ?_) |split)
theorem qVa (h0:AH) (e:TypeId) (sz:Nat) (a:AV) (n:Nat) (new:CT) (k:AV→AH→R):cJ (vt h0 e sz a n new λz h=>some (z,h)) k=vt h0 e sz a n new k:=by unfold vt;repeat' (first |rfl |(simp only[jF,jh,xF,zL];done) |(rw[jF];refine qc λ_=>?_) |(rw[jh];refine jA ?_ ?_) |split)
theorem qvn (h0:AH) (e:TypeId) (sz:Nat) (a b:AV) (k:AV→AH→R):cJ (xH h0 e sz a b λz h=>some (z,h)) k=xH h0 e sz a b k:=by simp[xH,jF,jh,qVa]
theorem jJu (h0:AH) (sz:Nat) (a b:AV) (k:AV→AH→R):cJ (K7 h0 sz a b λz h=>some (z,h)) k=K7 h0 sz a b k:=by unfold K7;repeat' (first |rfl |(simp only[jF,jh,zL];done) |(rw[jF];refine qc λ_=>?_) |(rw[jh];refine jA ?_ ?_) |split)
theorem jQi (h0:AH) (a:AV) (k:AV→AH→R):cJ (KC h0 a λz h=>some (z,h)) k=KC h0 a k:=by unfold KC;split<;>simp_all
theorem jZB (h0:AH) (a:AV) (k:AV→AH→R):cJ (Mq h0 a λz h=>some (z,h)) k=Mq h0 a k:=by unfold Mq;repeat' (first |rfl |(simp only[jh,zL];done) |(rw[jF];refine qc λ_=>?_) |(rw[jh];refine jA ?_ ?_) |split)
theorem qvm (f:AV) (a:List AV) (h0:AH) (k:AV→AH→R):cJ (xS c f a h0 λz h=>some (z,h)) k=xS c f a h0 k:=by simp only[JH];grind
theorem qza (l:List (Nat×Nat)) (v:AV) (a:List AV) (h0:AH) (k:AV→AH→R):cJ (JT c l v a h0 λz h=>some (z,h)) k=JT c l v a h0 k:=by
 unfold JT;cases v<;>first |rfl |skip
 rename_i t x;simp only[];cases Zz l t with
 |none=>rfl
 |some f=>simp[qvm]
theorem jZD (h0 h1:AH) (v:AV) (k:AV→AH→R):cJ (NO h0 v λz=>some (z,h1)) k=NO h0 v λz=>k z h1:=by
 unfold NO
 repeat' (first |rfl |split)
theorem qYl (h0:AH) (k:AV→AH→R):cJ (XZ h0 λz h=>some (z,h)) k=XZ h0 k:=rfl
theorem qwO (h0 h1:AH) (v i:AV) (k:AV→AH→R):cJ (KY h0 v i λz=>some (z,h1)) k=KY h0 v i λz=>k z h1:=by
 unfold KY
 repeat' (first |rfl |split)
theorem jZT (h0:AH) (v i:AV) (k:AV→AH→R):cJ (Vb h0 v i λz h=>some (z,h)) k=Vb h0 v i k:=by
 unfold Vb
 repeat' (first |rfl |split)
theorem Ho (h0:AH) (v i y:AV) (k:AV→AH→R):cJ (Cz h0 v i y λh=>some (.undef,h)) k=Cz h0 v i y λh=>k .undef h:=by
 unfold Cz
 repeat' (first |rfl |split)
theorem jZP (h0:AH) (v i y:AV) (k:AV→AH→R):cJ (MU h0 v i y λh=>some (.undef,h)) k=MU h0 v i y λh=>k .undef h:=by
 unfold MU
 repeat' (first |rfl |split)
theorem jZl (h0:AH) (v i:AV) (k:AV→AH→R):cJ (NI h0 v i λz h=>some (z,h)) k=NI h0 v i k:=by
 unfold NI
 repeat' (first |rfl |split)
theorem qy1 (h0:AH) (a b:AV) (n:Nat) (k:AV→AH→R):cJ (jw h0 a b n λh=>some (.undef,h)) k=jw h0 a b n λh=>k .undef h:=by simp only[UT];repeat' (first |rfl |(simp only[jF,jh,xF,zL];done) |(rw[jF];refine qc λ_=>?_) |(rw[jh];refine jA ?_ ?_) |split)
theorem Hp (op:BinOp) (t:TypeId) (a b:AV) (h:AH) (k:AV→AH→R):cJ (FB P op t a b λz=>some (z,h)) k=FB P op t a b λz=>k z h:=by
 cases op<;>simp only[FB,jF,qg1]<;>refine qc λd=>?_
 all_goals cases d<;>simp only[Hi,Hj,SU,Hk,jF,J5,xF]
theorem jZc (s d:TypeId) (v:AV) (h:AH) (k:AV→AH→R):cJ (NU P s d v h λz h=>some (z,h)) k=NU P s d v h k:=by
 simp only[NU,jF];refine qc λds=>qc λdd=>?_;cases dd<;>cases ds<;>simp only[jQd,qyR,xF,jF]<;>refine qc λe=>?_
 all_goals
  cases e<;>first |rfl |skip
  rename_i q;cases q<;>simp only[xF,Hl,jF,J5,Hm]
theorem qWT (o:Op) (r:Operand→Option AV) (h:AH) (k:AV→AH→R):aX P c o r h k=cJ (dt P c o r h) k:=by
 unfold dt;cases o
 case convert s d x=>show(ob (r x) λv=>NU P s d v h k)=cJ (ob (r x) λv=>NU P s d v h λv h'=>some (v,h')) k;rw[jF];exact qc λv=>(jZc s d v h k).symm
 all_goals simp only[aX,jF,xF,zL,J5,jZf,Hn,qy1,Hh,Hp,SV,qz4,qYr,jZB,qwO,jZT,jZP,Ho]
 case slice t x lo hi mx=>
  cases mx<;>simp only[jF,xF]
  refine qc λ_=>qc λ_=>qc λ_=>qc λd=>?_;cases d<;>(first |rfl |simp[jF,qvU,SW,qxP])
 case build=>refine qc λ_=>qc λd=>?_;cases d<;>(first |rfl |simp[jF,qy9])
 case buildSlice=>refine qc λd=>?_;cases d<;>(first |rfl |simp[jF,J5,qj8])
 case load=>refine qc λ_=>qc λd=>?_;cases d<;>(simp[qwl,jQC])
 case makeInterface=>refine qc λd=>?_;grind
 case makeFunc fn _ _=>cases fn<;>(simp[jF])
 case makeSlice=>refine qc λd=>?_;cases d<;>(first |rfl |simp[jF,jJT])
 case field=>refine qc λ_=>qc λd=>?_;obtain⟨d,e⟩:=d;cases e<;>(simp[qyr,qw8])
 case indexAddr=>refine qc λ_=>qc λ_=>qc λd=>?_;cases d<;>(first |rfl |simp[jF,J5,jJH,jJI])
 case index=>refine qc λ_=>qc λ_=>qc λd=>?_;cases d<;>(first |rfl |simp[jF,J5,qzt,qw0,qwD])
 case makeMap t hint=>cases hint<;>simp only[xF,J5,qYl]
 case range=>refine qc λd=>?_;cases d<;>(first |rfl |simp[jF,jQi])
 case typeAssert=>refine qc λ_=>qc λd=>?_;cases d<;>(first |rfl |simp only[jF,J5,qkb,qV6])
 case call cl=>
  cases cl.callee with
  |value f=>simp[jF,qvm]
  |invoke _ _=>simp[jF,qza]
  |builtin b=>
   cases b<;>first |rfl |(simp only[jF,SX];done) |skip
   case len=>
    generalize cl.args.toList=xs;generalize cl.argTypes.toList=ts;cases xs<;>cases ts<;>first |rfl |skip
    simp only[jF];refine qc λ_=>qc λd=>?_;cases d<;>(first |rfl |simp[qv6,jJE,jZD])
   case append=>
    generalize cl.args.toList=xs;generalize cl.argTypes.toList=ts;rcases xs with _ |⟨s,_ |⟨x,_ |⟨y,xs⟩⟩⟩<;>rcases ts with _ |⟨t,_ |⟨u,ts⟩⟩<;>first |rfl |skip
    simp only[jF];refine qc λdu=>?_;cases du<;>first |rfl |skip
    all_goals
     simp only[jF];refine qc λd=>?_;cases d<;>(first |rfl |simp only[jF,qvn])
   case copy=>
    generalize cl.args.toList=xs;generalize cl.argTypes.toList=ts;rcases xs with _ |⟨s,_ |⟨x,_ |⟨y,xs⟩⟩⟩<;>rcases ts with _ |⟨t,ts⟩<;>first |rfl |skip
    simp only[jF];refine qc λd=>?_;cases d<;>(first |rfl |simp[jF,jJu])
   case delete=>
    generalize cl.args.toList=xs;generalize cl.argTypes.toList=ts;rcases xs with _ |⟨s,_ |⟨x,_ |⟨y,xs⟩⟩⟩<;>rcases ts with _ |⟨t,ts⟩<;>first |rfl |skip
    simp[jF,J5,jZl]
theorem YO {o:Op} {r:Operand→Option AV} {h:AH} {k:AV→AH→R} {q:AV×AH} (e:aX P c o r h k=some q) :
  ∃v h',dt P c o r h=some (v,h')∧k v h'=some q:=by
 rw[qWT]at e;cases hs:dt P c o r h with
 |none=>grind
 |some z=>grind
end Go.Ae
namespace Go.Ae
open Go
variable {P:Program} {m:Mp} {D:Nat→Prop} {h h':AH} {w:World} {c:CV} {o:Oper} {v:AV}
theorem jQn (hc:vK P c) {rd:Option Nat} {n nn:Nat} {ops:Array Oper} {Q:Exit→Act→World→Prop} {g:Option (Nat×Bool)} {p:Oper} {d:Tmp} {r:AV×AH} :
  ∀(l:List Oper) (j:Nat) (rest:List Nat) (m:Mp) (D:Nat→Prop) (h:AH) (w:World) (a:Act) (tm:PT AV) (k:PT AV→AH→R),
   (∀i o,l[i]? =some o→ops[j+i]? =some o∧o.guard=g)→
   (∀q,g=some q→ops[q.1]? =some p∧p.dst=some d∧writes d l=false∧yielded ops a.tmps q.1=some q.2)→
   Rel P m D h w→fA m D n a tm→Es P c n l tm h k=some r→
   (∀m' D' h' w' a' tm',Bw P m D h w n a.defers a' tm' m' D' h' w'→k tm' h'=some r→wpOpsIn (FW rd) nn P ops Q rest a' w')→
   wpOpsIn (FW rd) nn P ops Q (List.range' j l.length++rest) a w:=by
 intro l
 induction l with
 |nil=>intro j rest m D h w a tm k _ _ R T e hk;exact hk m D h w a tm ⟨Ext.refl ..,R,T,rfl⟩ e
 |cons o l ih=>
  intro j rest m D h w a tm k hl hg R T e hk;obtain⟨ho,rP⟩:=hl 0 o rfl;simp only[List.length_cons,List.range'_succ,List.cons_append];simp only[wpOpsIn];rw[show ops[j]? =some o from ho];have hw:Region.wanted o (yielded ops a.tmps)=true:=by
   unfold Region.wanted;rw[rP];cases g with
   |none=>rfl
   |some q=>simp_all
  simp only[hw,if_true];simp only[Es]at e;obtain⟨v,h1,e1,e⟩:=YO e;refine Hf hc T.ev R e1 ?_;intro m1 D1 w1 X R1 CQ;obtain⟨cP,e2,T1⟩:=(T.mono X).put CQ e;refine ih (j+1) rest m1 D1 h1 w1 _ cP k ?_ ?_ R1 T1 e2 ?_
  ·intro i o' hi;have:=hl (i+1) o' hi
   rwa [show j+(i+1)=j+1+i by omega]at this
  ·intro q hq;obtain⟨k1,k2,k3,k4⟩:=hg q hq;have dS:=Gx k3;simp_all[writes,Bool.or_eq_false_iff,Us]
  ·intro m' D' h' w' a' tm' O e';refine hk m' D' h' w' a' tm' ⟨X.trans O.ext,O.rel,O.tm,?_⟩ e';rw[O.defers,kM]
end Go.Ae
namespace Go.Ae
open Go
variable {P:Program} {m:Mp} {D:Nat→Prop} {h h':AH} {w:World} {c:CV} {o:Oper} {v:AV}
theorem qwF {q:Nat×Bool} {y:Nat→Option Bool} (hg:o.guard=some q) (hy:y q.1=some q.2):Region.wanted o y=true:=by grind[Region.wanted]
theorem Ob {q:Nat×Bool} {y:Nat→Option Bool} (hg:o.guard=some q) (hy:y q.1≠some q.2):Region.wanted o y=false:=by grind[Region.wanted]
theorem qzH {rd:Option Nat} {n nn:Nat} {ops:Array Oper} {Q:Exit→Act→World→Prop} {q:Nat×Bool} {p:Oper} {d:Tmp} {r:AV×AH} :
  ∀(l:List Oper) (j:Nat) (rest:List Nat) (a:Act) (tm:PT AV) (k:PT AV→R),
   (∀i o,l[i]? =some o→ops[j+i]? =some o∧o.guard=some q)→
   ops[q.1]? =some p→p.dst=some d→writes d l=false→yielded ops a.tmps q.1≠some q.2→
   fA m D n a tm→Mz n l tm k=some r→
   (∀a' tm',fA m D n a' tm'→a'.defers=a.defers→k tm'=some r→wpOpsIn (FW rd) nn P ops Q rest a' w)→
   wpOpsIn (FW rd) nn P ops Q (List.range' j l.length++rest) a w:=by
 intro l
 induction l with
 |nil=>grind
 |cons o l ih=>
  intro j rest a tm k hl hp hd hw hy T e hk;obtain⟨ho,rP⟩:=hl 0 o rfl;simp only[List.length_cons,List.range'_succ,List.cons_append];simp only[wpOpsIn];rw[show ops[j]? =some o from ho];simp only[Ob rP hy,Bool.false_eq_true,if_false];refine⟨λ_ _=>trivial,?_⟩;simp only[Mz]at e;obtain⟨cP,e2,T1⟩:=T.put (v:=.undef) trivial e;rw[qZf]at T1;have dS:=Gx hw;refine ih (j+1) rest _ cP k ?_ hp hd ?_ ?_ T1 e2 ?_
  ·intro i o' hi;have:=hl (i+1) o' hi
   grind
  ·grind[writes,Bool.or_eq_false_iff]
  ·simp_all[Us]
  grind[kM]
theorem fA.cA {n:Nat} {a:Act} {tm:PT AV} (T:fA m D n a tm):∀(L:List Nat) (acc:PT AV),fA m D n a acc→yA tm L=true→fA m D n a (kD L (wa L tm) acc):=by
 intro L
 induction L with
 |nil=>intro acc A _;exact A
 |cons t L ih=>
  intro acc A hh;simp only[yA,Bool.and_eq_true]at hh;simp only[wa,kD];refine ih _ ?_ hh.2;have h1:=hh.1;unfold has at h1
  split at h1
  ·rename_i v hv;refine⟨A.size,?_⟩;intro s u hs;rw[PT.bN]at hs;by_cases e:t=s
   ·subst e;rw[iJ rfl]at hs;cases hs;exact T.at_ t v hv
   ·rw[iQ e]at hs;exact A.at_ s u hs
  grind
theorem Oq {b:Bool} {x:R} {r:AV×AH}:cK b none x=some r↔b=false∧x=some r:=by grind
theorem PT.ic {α:Type} (i:Nat):(PT.e:PT α).get i=none:=rfl
theorem fA.join {n:Nat} {a:Act} {tm:PT AV} (T:fA m D n a tm) (L:List Nat) (hh:yA tm L=true):fA m D n a (kD L (wa L tm) .e) :=
 T.cA L .e ⟨T.size,λt v hv=>by trivial⟩ hh
theorem ZY (g:Nat×Bool) (l:List Oper):(xQ g l).1++(xQ g l).2=l:=by
 induction l with
 |nil=>rfl
 |cons o l ih=>grind[xQ,Pj]
theorem qGs (g:Nat×Bool) (l:List Oper):∀o∈(xQ g l).1,o.guard=some g:=by
 induction l with
 |nil=>intro o ho;cases ho
 |cons x l ih=>
  intro o ho;simp only[xQ]at ho;cases hs:Pj g x<;>simp only[hs,cond_false,cond_true]at ho
  ·grind
  ·rcases List.mem_cons.1 ho with rfl |ho
   ·unfold Pj at hs
    split at hs
    ·rename_i g' SY;simp only[Bool.and_eq_true,beq_iff_eq]at hs;grind[zF]
    grind
   grind
theorem jQN (hc:vK P c) {rd:Option Nat} {n nn:Nat} {ops:Array Oper} {Q:Exit→Act→World→Prop} {r:AV×AH} {ds:List Deferred} :
  ∀(f:Nat) (l:List Oper) (j:Nat) (Ls:List (List Nat)) (m:Mp) (D:Nat→Prop) (h:AH) (w:World) (a:Act) (tm:PT AV) (k:PT AV→AH→R),
   (∀i o,l[i]? =some o→ops[j+i]? =some o)→
   Rel P m D h w→fA m D n a tm→a.defers=ds→G8 P c n ops.toList f l Ls tm h k=some r→
   (∀m' D' h' w' a' tm',Bw P m D h w n ds a' tm' m' D' h' w'→k tm' h'=some r→Q .normal a' w')→
   wpOpsIn (FW rd) nn P ops Q (List.range' j l.length) a w:=by
 intro f
 induction f with
 |zero=>
  intro l j Ls m D h w a tm k hl R T sj e hk;cases l with
  |nil=>exact hk m D h w a tm ⟨Ext.refl ..,R,T,sj⟩ e
  |cons o l=>grind
 |succ f ih=>
  intro l j Ls m D h w a tm k hl R T sj e hk;cases l with
  |nil=>exact hk m D h w a tm ⟨Ext.refl ..,R,T,sj⟩ e
  |cons o l=>
   cases hg:o.guard with
   |none=>
    simp only[G8,hg]at e;obtain⟨v,h1,e1,e⟩:=YO e;simp only[List.length_cons,List.range'_succ,wpOpsIn];rw[show ops[j]? =some o from hl 0 o rfl];have hw:Region.wanted o (yielded ops a.tmps)=true:=by simp_all[Region.wanted]
    simp only[hw,if_true];refine Hf hc T.ev R e1 ?_;intro m1 D1 w1 X R1 CQ;obtain⟨cP,e2,T1⟩:=(T.mono X).put CQ e;refine ih l (j+1) Ls m1 D1 h1 w1 _ cP k ?_ R1 T1 (by simp_all[kM]) e2 ?_
    ·intro i o' hi;have:=hl (i+1) o' hi
     rwa [show j+(i+1)=j+1+i by omega]at this
    ·intro m' D' h' w' a' tm' O e';exact hk m' D' h' w' a' tm' ⟨X.trans O.ext,O.rel,O.tm,O.defers⟩ e'
   |some g=>
    simp only[G8,hg,qD]at e;obtain⟨d,hd,vg,u6,e⟩:=e;cases Ls with
    |nil=>grind
    |cons L Bl=>
     simp only[Oq]at e;obtain⟨nA,e⟩:=e;unfold QC at hd;rw[hg]at hd;simp only[Option.bind_some,yv,Array.getElem?_toList,Option.bind_eq_some_iff]at hd;obtain⟨p,hp,Hq⟩:=hd;have SZ:=T.at_ d vg u6;have lB:o::l=(o::(xQ g l).1)++(xQ g l).2:=by rw[List.cons_append,ZY]
     have hlen:List.range' j (o::l).length=List.range' j (o::(xQ g l).1).length++List.range' (j+(o::(xQ g l).1).length) (xQ g l).2.length:=by rw[List.range'_append_1,← List.length_append,← lB]
     rw[hlen];have lL:∀i o',(o::(xQ g l).1)[i]? =some o'→ops[j+i]? =some o'∧o'.guard=some g:=by
      intro i o' hi;refine⟨hl i o' ?_,?_⟩
      ·rw[lB,List.getElem?_append_left (List.getElem?_eq_some_iff.1 hi).1];omega
      ·rcases List.mem_cons.1 (List.mem_of_getElem? hi)with rfl |hm
       ·omega
       ·exact qGs g l o' hm
     have iC:∀i o',(xQ g l).2[i]? =some o'→ops[j+(o::(xQ g l).1).length+i]? =some o':=by intro i o' hi;rw[Nat.add_assoc];refine hl _ o' ?_;rw[lB,List.getElem?_append_right omQ];simp;omega
     have iF:yielded ops a.tmps g.1=(match cv m vg with | .bool b=>some b |_=>none):=by unfold yielded;simp only[hp,Option.bind_some,Hq,SZ.1];generalize cv m vg=z;cases z<;>rfl
     have fin:∀m1 D1 h1 w1 a1 cP,Bw P m D h w n ds a1 cP m1 D1 h1 w1→
       cK (yA cP L) (G8 P c n ops.toList f (xQ g l).2 Bl (kD L (wa L cP) .e) h1 k) none=some r→
       wpOpsIn (FW rd) nn P ops Q (List.range' (j+(o::(xQ g l).1).length) (xQ g l).2.length) a1 w1:=by
      intro m1 D1 h1 w1 a1 cP O e1;rw[zM]at e1;obtain⟨cT,e1⟩:=e1;refine ih (xQ g l).2 _ Bl m1 D1 h1 w1 a1 _ k iC O.rel (O.tm.join L cT) O.defers e1 ?_;intro m' D' h' w' a' tm' O' e';exact hk m' D' h' w' a' tm' ⟨O.ext.trans O'.ext,O'.rel,O'.tm,O'.defers⟩ e'
     simp only[vL]at e;rw[MX]at e;have go:∀(e:Mz n (o::(xQ g l).1) tm (λtm'=>cK (yA tm' L) (G8 P c n ops.toList f (xQ g l).2 Bl (kD L (wa L tm') .e) h k) none)=some r)
       (hy:yielded ops a.tmps g.1≠some g.2),wpOpsIn (FW rd) nn P ops Q (List.range' j (o::(xQ g l).1).length++List.range' (j+(o::(xQ g l).1).length) (xQ g l).2.length) a w:=by
      intro e hy;refine qzH (o::(xQ g l).1) j _ a tm _ lL hp Hq nA hy T e ?_;intro a' tm' T' Ta e';exact fin m D h w a' tm' ⟨Ext.refl ..,R,T',by rw[Ta,sj]⟩ e'
     split at e
     ·rename_i t;simp only[cv]at iF;cases ht:(t==g.2)
      rotate_left
      ·rw[ht]at e;refine jQn (p:=p) (d:=d) hc (o::(xQ g l).1) j _ m D h w a tm _ lL ?_ R T e ?_
       ·intro q hq;cases hq;exact⟨hp,Hq,nA,by rw[iF];simpa using ht⟩
       ·intro m' D' h' w' a' tm' O e';exact fin m' D' h' w' a' tm' ⟨O.ext,O.rel,O.tm,by rw[O.defers,sj]⟩ e'
      ·rw[ht]at e;refine go e ?_;rw[iF];simpa using ht
     ·rename_i hnb;refine go e ?_;rw[iF];cases vg<;>simp only[cv]<;>first |(intro hh;cases hh;done) |grind |skip
end Go.Ae
namespace Go.Ae
open Go
variable {P:Program} {c:CV}
def Hr:AX→Exit
 | .normal=>.normal
 | .exit i=>.exit i
 | .goto l=>.goto l
 | .ret=>.ret
def Uo (b:Nat):Deferred:={ target:=.collected b,args:=#[] }
def rQ (m:Mp) (D:Nat→Prop) (ds:List Nat) (l:List Deferred):Prop:=(∀d∈ds,D d)∧l=ds.map λd=>Uo (m d).1
def s9 (m:Mp) (D:Nat→Prop) (rd rc:Option Nat):Prop:=match rd with
 |none=>rc=none
 |some l=>D l∧rc=some (m l).1
theorem rQ.mono {m m':Mp} {D D':Nat→Prop} {h h':AH} {w w':World} {ds:List Nat} {l:List Deferred} (d:rQ m D ds l) (e:Ext m D h w m' D' h' w'):rQ m' D' ds l :=
 ⟨λb hb=>e.sL b (d.1 b hb),by rw[d.2];exact List.map_congr_left λb hb=>by rw[e.map b (d.1 b hb)]⟩
theorem s9.mono {m m':Mp} {D D':Nat→Prop} {h h':AH} {w w':World} {rd rc:Option Nat} (d:s9 m D rd rc) (e:Ext m D h w m' D' h' w'):s9 m' D' rd rc:=by
 cases rd with
 |none=>exact d
 |some l=>exact⟨e.sL l d.1,by rw[e.map l d.1];exact d.2⟩
structure St (P:Program) (m:Mp) (D:Nat→Prop) (h:AH) (w:World) (n:Nat) (ds:List Nat) (a:Act) (tm:PT AV) (rd rc:Option Nat):Prop where
  rel:Rel P m D h w
  tm:fA m D n a tm
  df:rQ m D ds a.defers
  rd:s9 m D rd rc
theorem St.Bx {m m':Mp} {D D':Nat→Prop} {h h':AH} {w w':World} {n:Nat} {ds:List Nat} {a a':Act} {tm tm':PT AV} {rd rc:Option Nat} (s:St P m D h w n ds a tm rd rc)
  (o:Bw P m D h w n a.defers a' tm' m' D' h' w'):St P m' D' h' w' n ds a' tm' rd rc :=
 ⟨o.rel,o.tm,by rw[o.defers];exact s.df.mono o.ext,s.rd.mono o.ext⟩
def M9 (P:Program) (c:CV):Prop:=∀(n nn:Nat) (ops:Array Oper) (Ls:List (List Nat)) (rc:Option Nat) (Q:Exit→Act→World→Prop) (r:AV×AH) (id:Nat)
 (m:Mp) (D:Nat→Prop) (h:AH) (w:World) (a:Act) (tm:PT AV) (k:PT AV→AH→R),Rel P m D h w→fA m D n a tm→Sj P c n ops Ls tm h k=some r→
 (∀m' D' h' w' a' tm',Bw P m D h w n a.defers a' tm' m' D' h' w'→k tm' h'=some r→Q .normal a' w')→(Code.region id ops true).wpIn (FW rc) nn P Q a w
def k7 (P:Program) (N:Nat) (c:CV) (f n:Nat) (rd:Option Nat) (code:Code):Prop :=
 ∀(rc:Option Nat) (nn:Nat) (Q:Exit→Act→World→Prop) (r:AV×AH) (pos:List Nat) (pl:Pl) (tm:PT AV) (h:AH) (ds:List Nat) (k:AX→PT AV→AH→List Nat→R)
  (m:Mp) (D:Nat→Prop) (w:World) (a:Act),St P m D h w n ds a tm rd rc→
  (∃fn bd,P.funcs[f]? =some fn∧fn.body=some bd∧fn.ntmps=n∧xM bd pos=some code)→
  wE P N c f n rd code pos pl tm h ds k=some r→
  (∀x m' D' h' w' a' tm' Hs,Ext m D h w m' D' h' w'→St P m' D' h' w' n Hs a' tm' rd rc→k x tm' h' Hs=some r→Q (Hr x) a' w')→
  code.wpIn (FW rc) nn P Q a w
theorem qV1 (c:Code) (p q:List Nat) (s:Code) (h:xM c p=some s):xM c (p++q)=xM s q:=by
 induction p generalizing c with
 |nil=>grind[xM]
 |cons i p ih=>
  cases c<;>simp only[xM,reduceCtorEq,List.cons_append]at h ⊢
  case seq a b=>grind
  all_goals grind
theorem Yh {f n:Nat} {code s:Code} {pos q:List Nat} (h:∃fn bd,P.funcs[f]? =some fn∧fn.body=some bd∧fn.ntmps=n∧xM bd pos=some code) (hs:xM code q=some s) :
  ∃fn bd,P.funcs[f]? =some fn∧fn.body=some bd∧fn.ntmps=n∧xM bd (pos++q)=some s:=by
 grind[qV1]
end Go.Ae
namespace Go.Ae
open Go
variable {P:Program} {c:CV}
theorem St.join {m:Mp} {D:Nat→Prop} {h:AH} {w:World} {n:Nat} {ds:List Nat} {a:Act} {tm:PT AV} {rd rc:Option Nat} (s:St P m D h w n ds a tm rd rc) {L:List Nat} (hh:yA tm L=true) :
  St P m D h w n ds a (kD L (wa L tm) .e) rd rc:=⟨s.rel,s.tm.join L hh,s.df,s.rd⟩
theorem qXN (hc:vK P c) (hd:M9 P c) {f n:Nat} {rd:Option Nat} {N id:Nat} {ops:Array Oper} {d:Bool}:k7 P N c f n rd (.region id ops d):=by
 intro rc nn Q r pos pl tm h ds k m D w a S _ e hk;simp only[wE]at e;cases d with
 |true=>simp only[cK]at e;refine hd n nn ops (Pp pl) rc Q r id m D h w a tm _ S.rel S.tm e ?_;intro m' D' h' w' a' tm' O e';exact hk .normal m' D' h' w' a' tm' ds O.ext (S.Bx O) e'
 |false=>
  simp only[cK]at e;refine wpIn_region ?_;have hr:List.range ops.size=List.range' 0 ops.toList.length:=by simp[List.range_eq_range']
  rw[hr];refine jQN (ds:=a.defers) hc _ ops.toList 0 (Pp pl) m D h w a tm _ (λi o hi=>by grind) S.rel S.tm rfl e ?_;intro m' D' h' w' a' tm' O e';exact hk .normal m' D' h' w' a' tm' ds O.ext (S.Bx O) e'
theorem qvO {f n N:Nat} {rd:Option Nat} {x y:Code} (hx:k7 P N c f n rd x) (hy:k7 P N c f n rd y):k7 P N c f n rd (.seq x y):=by
 intro rc nn Q r pos pl tm h ds k m D w a S cx e hk;simp only[wE]at e;have mE:=Yh (q:=[0]) cx (s:=x) (by simp[xM]);have PH:=Yh (q:=[1]) cx (s:=y) (by simp only[xM];rfl);refine wpIn_seq ?_;cases hL:Bn pl with
 |some L=>
  simp only[hL,vL]at e;refine hx rc nn _ r (pos++[0]) (oY pl) tm h ds _ m D w a S mE e ?_;intro z m1 D1 h1 w1 a1 cP ds1 X1 S1 e1;cases z with
  |normal=>simp only[zM]at e1;obtain⟨cT,e1⟩:=e1;refine hy rc nn Q r (pos++[1]) (Bm pl) _ h1 ds1 k m1 D1 w1 a1 (S1.join cT) PH e1 ?_;intro z2 m2 D2 h2 w2 a2 CR By X2 S2 e2;exact hk z2 m2 D2 h2 w2 a2 CR By (X1.trans X2) S2 e2
  |exit i=>exact hk (.exit i) m1 D1 h1 w1 a1 cP ds1 X1 S1 e1
  |goto i=>exact hk (.goto i) m1 D1 h1 w1 a1 cP ds1 X1 S1 e1
  |ret=>exact hk .ret m1 D1 h1 w1 a1 cP ds1 X1 S1 e1
 |none=>
  simp only[hL]at e;refine hx rc nn _ r (pos++[0]) (oY pl) tm h ds _ m D w a S mE e ?_;intro z m1 D1 h1 w1 a1 cP ds1 X1 S1 e1;cases z with
  |normal=>refine hy rc nn Q r (pos++[1]) (Bm pl) _ h1 ds1 k m1 D1 w1 a1 S1 PH e1 ?_;intro z2 m2 D2 h2 w2 a2 CR By X2 S2 e2;exact hk z2 m2 D2 h2 w2 a2 CR By (X1.trans X2) S2 e2
  |exit i=>exact hk (.exit i) m1 D1 h1 w1 a1 cP ds1 X1 S1 e1
  |goto i=>exact hk (.goto i) m1 D1 h1 w1 a1 cP ds1 X1 S1 e1
  |ret=>exact hk .ret m1 D1 h1 w1 a1 cP ds1 X1 S1 e1
theorem qYa {f n N:Nat} {rd:Option Nat} {o:Operand} {x y:Code} (hx:k7 P N c f n rd x) (hy:k7 P N c f n rd y):k7 P N c f n rd (.cond o x y):=by
 intro rc nn Q r pos pl tm h ds k m D w a S cx e hk;simp only[wE,qD]at e;obtain⟨v,hv,e⟩:=e;have mE:=Yh (q:=[0]) cx (s:=x) (by simp[xM]);have PH:=Yh (q:=[1]) cx (s:=y) (by simp only[xM];rfl);obtain⟨h1,h2⟩:=S.tm.ev _ _ hv;rw[qxD]at e
 split at e
 ·rename_i t;refine wpIn_cond (t:=t) (by trivial) ?_;cases t with
  |true=>exact hx rc nn Q r (pos++[0]) (oY pl) tm h ds k m D w a S mE e hk
  |false=>exact hy rc nn Q r (pos++[1]) (Bm pl) tm h ds k m D w a S PH e hk
 grind
theorem qX8 {f n N id:Nat} {rd:Option Nat} {x:Code} (hx:k7 P N c f n rd x):k7 P N c f n rd (.block id x):=by
 intro rc nn Q r pos pl tm h ds k m D w a S cx e hk;simp only[wE]at e;have mE:=Yh (q:=[0]) cx (s:=x) (by simp[xM]);refine wpIn_block ?_;cases hL:Bn pl with
 |some L=>
  simp only[hL,vL]at e;refine hx rc nn _ r (pos++[0]) (oY pl) tm h ds _ m D w a S mE e ?_;intro z m1 D1 h1 w1 a1 cP ds1 X1 S1 e1;cases z with
  |normal=>simp only[zM]at e1;obtain⟨cT,e1⟩:=e1;exact hk .normal m1 D1 h1 w1 a1 _ ds1 X1 (S1.join cT) e1
  |exit i=>
   simp only[Hr,Exit.inBlock];by_cases hi:i=id
   ·subst hi;simp only[Nat.beq_refl,cK,if_true]at e1 ⊢;cases cT:yA cP L
    ·grind
    ·rw[cT]at e1;exact hk .normal m1 D1 h1 w1 a1 _ ds1 X1 (S1.join cT) e1
   ·rw[iQ hi];simp only[yY hi,cK]at e1;exact hk (.exit i) m1 D1 h1 w1 a1 cP ds1 X1 S1 e1
  |goto i=>exact hk (.goto i) m1 D1 h1 w1 a1 cP ds1 X1 S1 e1
  |ret=>exact hk .ret m1 D1 h1 w1 a1 cP ds1 X1 S1 e1
 |none=>
  simp only[hL]at e;refine hx rc nn _ r (pos++[0]) (oY pl) tm h ds _ m D w a S mE e ?_;intro z m1 D1 h1 w1 a1 cP ds1 X1 S1 e1;cases z with
  |normal=>exact hk .normal m1 D1 h1 w1 a1 _ ds1 X1 S1 e1
  |exit i=>
   simp only[Hr,Exit.inBlock];by_cases hi:i=id
   ·subst hi;simp only[Nat.beq_refl,cK,if_true]at e1 ⊢;exact hk .normal m1 D1 h1 w1 a1 _ ds1 X1 S1 e1
   ·rw[iQ hi];simp only[yY hi,cK]at e1;exact hk (.exit i) m1 D1 h1 w1 a1 cP ds1 X1 S1 e1
  |goto i=>exact hk (.goto i) m1 D1 h1 w1 a1 cP ds1 X1 S1 e1
  |ret=>exact hk .ret m1 D1 h1 w1 a1 cP ds1 X1 S1 e1
theorem qW1 {f n N:Nat} {rd:Option Nat} {x:Code} (hx:k7 P N c f n rd x):k7 P N c f n rd (.loop x):=by
 intro rc nn Q r pos pl tm h ds k m D w a S cx e hk;simp only[wE]at e;have mE:=Yh (q:=[0]) cx (s:=x) (by simp[xM]);cases hL:Bn pl with
 |none=>grind
 |some L=>
  simp only[hL,zM]at e;obtain⟨cT,e⟩:=e;refine wpIn_loop_rounds N ?_;have key:∀(j:Nat) (s:uA L) (h1:AH) (ds1:List Nat) (m1:Mp) (D1:Nat→Prop) (w1:World) (a1:Act),Ext m D h w m1 D1 h1 w1→St P m1 D1 h1 w1 n ds1 a1 (kD L s .e) rd rc→
    Kh (σ:=uA L) j (λih s h ds=>wE P N c f n rd x (pos++[0]) (oY pl) (kD L s .e) h ds λx tm' h ds=>match x with
     | .normal=>cK (yA tm' L) (ih (wa L tm') h ds) none |x=>k x tm' h ds) s h1 ds1=some r→
    Code.roundsIn (FW rc) nn P x Q j a1 w1:=by
   intro j
   induction j with
   |zero=>nofun
   |succ j ih=>
    intro s h1 ds1 m1 D1 w1 a1 X1 S1 e1;rw[roundsIn_succ];refine hx rc nn _ r (pos++[0]) (oY pl) _ h1 ds1 _ m1 D1 w1 a1 S1 mE e1 ?_;intro z m2 D2 h2 w2 a2 CR By X2 S2 e2;cases z with
    |normal=>simp only[zM]at e2;obtain⟨Ht,e2⟩:=e2;exact ih _ h2 By m2 D2 w2 a2 (X1.trans X2) (S2.join Ht) e2
    |exit i=>exact hk (.exit i) m2 D2 h2 w2 a2 CR By (X1.trans X2) S2 e2
    |goto i=>exact hk (.goto i) m2 D2 h2 w2 a2 CR By (X1.trans X2) S2 e2
    |ret=>exact hk .ret m2 D2 h2 w2 a2 CR By (X1.trans X2) S2 e2
  exact key N _ h ds m D w a (Ext.refl ..) (S.join cT) e
end Go.Ae
namespace Go.Ae
open Go
variable {P:Program} {c:CV}
theorem qwn {F:Fence} {n:Nat} {Q:Exit→Act→World→Prop} {a:Act} {w:World} (x:AX) (h:Q (Hr x) a w):(kG x).wpIn F n P Q a w:=by
 cases x with
 |normal=>exact wpIn_skip h
 |exit i=>exact wpIn_exit h
 |goto l=>exact wpIn_goto h
 |ret=>exact wpIn_ret h
theorem jZR {x y:AX} (h:uR x y=true):x=y:=by
 cases x<;>cases y<;>simp only[uR,Bool.false_eq_true]at h ⊢ <;>exact congrArg _ (zF h)
theorem qV3 {y:AX} {k:AX→R} {r:AV×AH}:∀{l:List AX},VP (some y) k l=some r→k y=some r:=by
 intro l
 induction l with
 |nil=>simp
 |cons x l ih=>
  intro e;simp only[VP,Pn]at e;grind[uR,jZR]
theorem qKe (L:List Nat) (tm:PT AV):(kU L tm).length=L.length:=by
 induction L with
 |nil=>rfl
 |cons t L ih=>grind[kU]
theorem qqA {m:Mp} {D:Nat→Prop} {n:Nat} {a:Act} {tm:PT AV} (T:fA m D n a tm):∀{L:List Nat},yA tm L=true→aY D (kU L tm)∧∀p∈L.zip (kU L tm),a.tmps[p.1]? =some (cv m p.2):=by
 intro L
 induction L with
 |nil=>intro _;exact⟨trivial,λp hp=>by cases hp⟩
 |cons t L ih=>
  intro h;simp only[yA,Bool.and_eq_true]at h;obtain⟨h1,h2⟩:=ih h.2;have h0:=h.1;unfold has at h0
  split at h0
  ·rename_i v hv;obtain⟨g1,g2⟩:=T.at_ t v hv;simp only[kU,hv,aY,List.zip_cons_cons,List.mem_cons];grind
  grind
theorem NZ (hc:vK P c) {f n nn:Nat} {rd rc:Option Nat} {g:Operand} {ps:Array Tmp} {assign body:Code} {Q:Exit→Act→World→Prop} {r:AV×AH} {pos:List Nat}
  {tm:PT AV} {h:AH} {ds:List Nat} {k:AX→PT AV→AH→List Nat→R} {m:Mp} {D:Nat→Prop} {w:World} {a:Act} (S:St P m D h w n ds a tm rd rc)
  (cx:∃fn bd,P.funcs[f]? =some fn∧fn.body=some bd∧fn.ntmps=n∧xM bd pos=some (.rangeFunc g ps assign body))
  {vf:AV} (Bv:ev tm g=some vf) {L:List Nat} (cT:yA tm L=true)
  (hk:∀x m' D' h' w' a' tm' Hs,Ext m D h w m' D' h' w'→St P m' D' h' w' n Hs a' tm' rd rc→k x tm' h' Hs=some r→Q (Hr x) a' w')
  {d:Nat} {h1:AH} {ds1:List Nat} {m1:Mp} {D1:Nat→Prop} {w1:World} {mark:List Deferred}
  (X1:Ext m D h w m1 D1 h1 w1) (R1:Rel P m1 D1 h1 w1) (hd:D1 d) (sj:rQ m1 D1 ds1 (mark++a.defers))
  (Tb:∀fn,(Instr.enterLoop fn a.tmps ps assign body rc).run P w=.ok (w1.heap.size,mark) (w1.alloc (.loop { state:=.ready,pending:=none,fn,tmps:=a.tmps,params:=ps,assign,body,defers:=(m1 d).1 })))
  (e:Nz c vf [.yield h1.nx] (h1.new (.loop .ready none f pos L (kU L tm) d)) (λ_ h2=>
    Xv h2 h1.nx λp h3=>OV p (k .normal tm h3 ds1) (VP p (λx=>k x tm h3 ds1) (YT body [])))=some r) :
  (Code.rangeFunc g ps assign body).wpIn (FW rc) nn P Q a w:=by
 refine wpIn_rangeFunc ?_;intro fn _;obtain⟨fnn,bd,hf1,Tc,hf3,hf4⟩:=cx;have T1:=S.tm.mono X1;obtain⟨l1,l2⟩:=qqA T1 cT;obtain⟨o,ho⟩:∃o,o=Obj.loop { state:=.ready,pending:=none,fn,tmps:=a.tmps,params:=ps,assign,body,defers:=(m1 d).1 }:=⟨_,rfl⟩;have tc:di P m1 (.loop .ready none f pos L (kU L tm) d) (w1.heap.size,0) (w1.alloc o):=by
  refine⟨fn,a.tmps,ps,g,assign,body,fnn,bd,?_,hf1,Tc,hf4,?_,(qKe L tm).symm,l2⟩
  ·grind[World.alloc_heap_new]
  ·rw[hf3];exact S.tm.size
 obtain⟨m2,D2,X2,R2,Hu,Td⟩:∃(m2:Mp) (D2:Nat→Prop),Ext m1 D1 h1 w1 m2 D2 (h1.new (.loop .ready none f pos L (kU L tm) d)) (w1.alloc o)∧
   Rel P m2 D2 (h1.new (.loop .ready none f pos L (kU L tm) d)) (w1.alloc o)∧(m2 h1.nx).1=w1.heap.size∧D2 h1.nx:=by
  have hn:=R1.new (w0:=w1.alloc o) (.loop .ready none f pos L (kU L tm) d) o 0 rfl rfl rfl rfl ⟨l1,hd⟩ tc;grind
 generalize h1.new (.loop .ready none f pos L (kU L tm) d)=hh at*;unfold Nz at e
 split at e
 rotate_left
 ·grind
 rename_i f0 first cap
 rw[JH]at e
 split at e
 rotate_left
 ·grind
 rename_i q hq;have T2:=T1.mono X2;obtain⟨v1,v2⟩:=T2.ev _ _ Bv;have cH:=hc _ _ _ q hq m2 D2 (w1.alloc o) R2 v2 ⟨Td,trivial⟩;obtain⟨k1,k2⟩:=cH;simp only[cv]at v1;have hy:aQ m2 [.yield h1.nx]=[.func (.yield w1.heap.size) #[] #[]]:=by grind[aQ,cv]
 refine⟨w1.heap.size,mark,w1.alloc o,{ target:=.fn (.func f0) (aQ m2 cap).toArray,args:=(aQ m2 first).toArray++ #[.func (.yield w1.heap.size) #[] #[]] },w1.alloc o,f0,
  (aQ m2 (first++[.yield h1.nx]++cap)).toArray,w1.alloc o,?_,?_,λ_ _=>trivial,?_,(λhh=>by cases hh),?_⟩
 ·rw[ho];exact Tb fn
 ·unfold resolve rangeCall;simp only[v1];simp[Act.eval,go_sem]
 ·show(callFunc f0 ((aQ m2 first).toArray++ #[.func (.yield w1.heap.size) #[] #[]]++(aQ m2 cap).toArray)).run P _=_;grind[GJ]
 ·refine CallsIn.mono (show CallsIn (FW rc) (nn-1) P f0 _ _ _ from k2 (nn-1)) ?_;rintro ee w3 ⟨m3,D3,rfl,X3,R3,hd3⟩
  replace e:Xv q.2 h1.nx (λp h3=>OV p (k .normal tm h3 ds1) (VP p (λx=>k x tm h3 ds1) (YT body [])))=some r:=e
  unfold Xv at e
  split at e
  rotate_left
  ·grind
  rename_i st dp f' pos' L' CS d' cR;have hb3:D3 h1.nx:=X3.sL _ Td;obtain⟨x3,Te,hr3,hi3⟩:=R3.bR _ hb3;rw[cR]at Te;cases Te;obtain⟨fq,tq,pq,gq,aq,bq,fnq,bdq,bF,q1,q2,q3,q4,q5,q6⟩:=hr3;have Bz:(m3 h1.nx).1=w1.heap.size:=by rw[X3.map _ Td];grind
  rw[Bz]at bF;have bK:st≠.busy:=by grind
  have e':OV dp (k .normal tm (q.2.put h1.nx (.loop .exhausted dp f' pos' L' CS d')) ds1) (VP dp (λx=>k x tm (q.2.put h1.nx (.loop .exhausted dp f' pos' L' CS d')) ds1) (YT body []))=some r:=by
   grind
  clear e;have bz:=(Array.getElem?_eq_some_iff.1 bF).1;obtain⟨X4,R4⟩:=R3.put (w0:=w3.putObj w1.heap.size (.loop { state:=.exhausted,pending:=dp.map kG,fn:=fq,tmps:=tq,params:=pq,assign:=aq,body:=bq,defers:=(m3 d').1 })) h1.nx (.loop .exhausted dp f' pos' L' CS d') hb3
   ⟨_,cR,trivial⟩ aM (λcc fZ=>World.putObj_heap_other (by grind)) rfl rfl rfl hi3
   ⟨fq,tq,pq,gq,aq,bq,fnq,bdq,by grind[World.putObj_heap_same],q1,q2,q3,q4,q5,q6⟩
  refine⟨dp.map kG,_,run_endLoop bF bK,?_⟩;have XX:=((X1.trans X2).trans X3).trans X4;have SS:St P m3 D3 (q.2.put h1.nx (.loop .exhausted dp f' pos' L' CS d')) (w3.putObj w1.heap.size (.loop { state:=.exhausted,pending:=dp.map kG,fn:=fq,tmps:=tq,params:=pq,assign:=aq,body:=bq,defers:=(m3 d').1 })) n ds1
    { a with defers:=mark++a.defers } tm rd rc:=⟨R4,⟨(T2.mono (X3.trans X4)).size,(T2.mono (X3.trans X4)).at_⟩,((sj.mono X2).mono X3).mono X4,S.rd.mono XX⟩
  cases dp with
  |none=>exact hk .normal _ _ _ _ _ _ _ XX SS e'
  |some y=>exact qwn y (hk y _ _ _ _ _ _ _ XX SS (qV3 e'))
theorem qVT (hc:vK P c) {f n N:Nat} {rd:Option Nat} {g:Operand} {ps:Array Tmp} {assign body:Code}:k7 P N c f n rd (.rangeFunc g ps assign body):=by
 intro rc nn Q r pos pl tm h ds k m D w a S cx e hk;simp only[wE,qD]at e;obtain⟨vf,Bv,e⟩:=e;cases hL:Bn pl with
 |none=>grind
 |some L=>
  simp only[hL,zM]at e;obtain⟨cT,e⟩:=e;cases rd with
  |none=>
   have PJ:=S.rd;simp only[s9]at PJ;subst PJ;have hn:=S.rel.new (w0:=w.alloc (.deferred (some []))) .Er (.deferred (some [])) 0 rfl rfl rfl rfl trivial (World.alloc_heap_new _ _);obtain⟨X,R⟩:=hn;refine NZ hc S cx Bv cT hk X R (d:=h.nx) (.inl rfl) (ds1:=h.nx::ds) (mark:=[Uo w.heap.size]) ?_ ?_ e
   ·have:=S.df.mono X;refine⟨λb hb=>?_,?_⟩
    ·rcases List.mem_cons.1 hb with rfl |hb
     ·simp
     ·exact this.1 b hb
    ·rw[this.2];simp
   simp[Uo,run_enterLoop_outer]
  |some l0=>
   obtain⟨fY,PJ⟩:=S.rd;subst PJ;unfold Po at e;simp only at e
   split at e
   rotate_left
   ·grind
   rename_i st dp f' pos' L' CS d cR;obtain⟨x,hx,nO,sq⟩:=S.rel.bR _ fY;rw[cR]at hx;cases hx;obtain⟨fq,tq,pq,gq,aq,bq,fnq,bdq,bF,_⟩:=nO;refine NZ hc S cx Bv cT hk (Ext.refl ..) S.rel (d:=d) sq.2 (ds1:=ds) (mark:=[]) S.df ?_ e;simp_all[run_enterLoop_inner]
theorem Tf (hc:vK P c) (hd:M9 P c) (N f n:Nat) (rd:Option Nat) (code:Code):k7 P N c f n rd code:=by
 induction code with
 |skip=>intro rc nn Q r pos pl tm h ds k m D w a S _ e hk;exact wpIn_skip (hk .normal m D h w a tm ds (Ext.refl ..) S e)
 |region id ops d=>grind[qXN]
 |seq x y hx hy=>grind[qvO]
 |cond o x y hx hy=>grind[qYa]
 |block id x hx=>grind[qX8]
 |loop x hx=>grind[qW1]
 |exit id=>intro rc nn Q r pos pl tm h ds k m D w a S _ e hk;exact wpIn_exit (hk (.exit id) m D h w a tm ds (Ext.refl ..) S e)
 |label l=>intro rc nn Q r pos pl tm h ds k m D w a S _ e hk;exact wpIn_label (hk .normal m D h w a tm ds (Ext.refl ..) S e)
 |goto l=>intro rc nn Q r pos pl tm h ds k m D w a S _ e hk;exact wpIn_goto (hk (.goto l) m D h w a tm ds (Ext.refl ..) S e)
 |ret=>intro rc nn Q r pos pl tm h ds k m D w a S _ e hk;exact wpIn_ret (hk .ret m D h w a tm ds (Ext.refl ..) S e)
 |rangeFunc g ps x y hx hy=>grind[qVT]
 |_=>intro rc nn Q r pos pl tm h ds k m D w a S _ e hk;grind
end Go.Ae
namespace Go.Ae
open Go
variable {P:Program} {c:CV} {m:Mp} {D:Nat→Prop} {h h':AH} {w:World}
def Yl (tmps:Array Value):ResultVar→Sem Value
 | .tmp t=>pure (tmps.getD t undef)
 | .cell a t=>do loadVar t (← asAddr (tmps.getD a undef))
theorem qWp (RR:Rel P m D h w) {t:TypeId} {v:AV} (hd:br D v) (hi:QW P t=some none) {k:AV→R} {r:AV×AH} (e:jK h v k=some r) :
  ∃z,k z=some r∧br D z∧(do loadVar t (← asAddr (cv m v)):Sem Value).run P w=.ok (cv m z) w:=by
 rcases QQ hi with⟨_,nz⟩ |⟨n,hn,_,_⟩
 rotate_left
 ·grind
 simp only[gD]at e
 split at e
 ·rename_i b off
  split at e
  ·rename_i cs t' op' hg;simp only[qD]at e;obtain⟨z,hz,e⟩:=e;obtain⟨z1,z2⟩:=RR.Bs hd hg hz;refine⟨z,e,z2,?_⟩;simp only[cv];rw[qV (show(asAddr (.pointer (some ⟨(m b).1,off,none⟩))).run P w=.ok ⟨(m b).1,off,none⟩ w from rfl)];simp_all[loadVar,wP]
  ·rename_i ti hg;simp only[qD]at e;obtain⟨z,hz,e⟩:=e;obtain⟨z1,z2⟩:=RR.sO hd hg hz;refine⟨z,e,z2,?_⟩;simp only[cv];rw[qV (show(asAddr (.pointer (some ⟨(m b).1,off,none⟩))).run P w=.ok ⟨(m b).1,off,none⟩ w from rfl)];simp_all[loadVar,wP]
  grind
 grind
theorem qYU (RR:Rel P m D h w) {t:TypeId} {v:AV} {n:Nat} (hd:br D v) (hi:QW P t=some (some n)) {k:AV→R} {r:AV×AH} (e:jr h v n k=some r) :
  ∃z,k z=some r∧br D z∧(do loadVar t (← asAddr (cv m v)):Sem Value).run P w=.ok (cv m z) w:=by
 rcases QQ hi with⟨hn,_⟩ |⟨n',hn,nz,bz⟩
 ·grind
 cases hn;simp only[ku]at e
 split at e
 ·rename_i b off;simp only[qD]at e;obtain⟨z,hz,e⟩:=e;obtain⟨z1,z2,z3⟩:=RR.read hd hz;refine⟨.agg z,e,z2,?_⟩;simp only[cv];rw[qV (show(asAddr (.pointer (some ⟨(m b).1,off,none⟩))).run P w=.ok ⟨(m b).1,off,none⟩ w from rfl)];simp_all[loadVar,wP,run_sizeOf]
 grind
theorem jJi (RR:Rel P m D h w) {n:Nat} {a:Act} {tm:PT AV} (T:fA m D n a tm) {r:AV×AH}:∀(l:List ResultVar) (k:List AV→R),V7 P tm h l k=some r→
  ∃vs,k vs=some r∧aY D vs∧(l.mapM (Yl a.tmps)).run P w=.ok (aQ m vs) w:=by
 intro l
 induction l with
 |nil=>intro k e;exact⟨[],e,trivial,by rfl⟩
 |cons x l ih=>
  intro k e;cases x with
  |tmp t=>
   simp only[V7,qD]at e;obtain⟨v,hv,e⟩:=e;obtain⟨vs,e1,e2,e3⟩:=ih _ e;obtain⟨h1,h2⟩:=T.at_ t v hv;refine⟨v::vs,e1,⟨h2,e2⟩,?_⟩;rw[List.mapM_cons];have:(Yl a.tmps (.tmp t)).run P w=.ok (cv m v) w:=by simp_all[Yl,Array.getD_eq_getD_getElem?,Option.getD_some]
   rw[qV this,qV e3];rfl
  |cell x t=>
   simp only[V7,qD]at e;obtain⟨v,hv,i,hi,e⟩:=e;obtain⟨h1,h2⟩:=T.at_ x v hv;have key:∃z,V7 P tm h l (λl=>k (z::l))=some r∧br D z∧(Yl a.tmps (.cell x t)).run P w=.ok (cv m z) w:=by
    simp only[Yl,Array.getD_eq_getD_getElem?,h1,Option.getD_some];grind[qWp,qYU]
   obtain⟨z,e,z1,z2⟩:=key;obtain⟨vs,e1,e2,e3⟩:=ih _ e;refine⟨z::vs,e1,⟨z1,e2⟩,?_⟩;rw[List.mapM_cons,qV z2,qV e3];rfl
theorem jZo (m:Mp) (l:List AV):(if h:(aQ m l).toArray.size=1 then(aQ m l).toArray[0]else .tuple (aQ m l).toArray)=cv m (mC l):=by
 match l with
 |[]=>rfl
 |[v]=>rfl
 |v::u::l=>rfl
theorem qVA (RR:Rel P m D h w) {fn:Func} {n:Nat} {a:Act} {tm:PT AV} (T:fA m D n a tm) {r:AV×AH} (e:V7 P tm h fn.results.toList (λl=>some (mC l,h))=some r) :
  ∃v,r=(v,h)∧br D v∧(results fn a.tmps).run P w=.ok (cv m v) w:=by
 obtain⟨vs,e1,e2,e3⟩:=jJi RR T _ _ e;simp only[Option.some.injEq]at e1;refine⟨mC vs,e1.symm,?_,?_⟩
 ·unfold mC
  split
  ·exact e2.1
  trivial
 ·have hm:(fn.results.mapM (Yl a.tmps)).run P w=.ok (aQ m vs).toArray w:=by
   simp_all[Array.mapM_eq_mapM_toList]
  show((fn.results.mapM (Yl a.tmps))>>=λvs=>pure (if h:vs.size=1 then vs[0]else .tuple vs)).run P w=_;rw[qV hm];show Result.ok _ w=_;rw[jZo]
end Go.Ae
namespace Go.Ae
open Go
variable {P:Program} {c:CV} {m:Mp} {D:Nat→Prop} {h h':AH} {w:World}
theorem qZI {fn:Func} {a:Act} {tm:PT AV} {m0:Mp} {D0:Nat→Prop} {h0:AH} {w0:World} {r:AV×AH} {nn n:Nat} :
  ∀(ds:List Nat) (l:List Deferred) (m:Mp) (D:Nat→Prop) (h:AH) (w:World),Rel P m D h w→Ext m0 D0 h0 w0 m D h w→fA m D n a tm→rQ m D ds l→
   zT ds h (λh'=>V7 P tm h' fn.results.toList λl=>some (mC l,h'))=some r→
   LeavesInM Fence.wide nn P fn a.tmps (JY P m0 D0 h0 w0 r) l .returning w:=by
 intro ds
 induction ds with
 |nil=>
  intro l m D h w RR X T df e;have:l=[]:=by rw[df.2];rfl
  subst this;obtain⟨v,rfl,v1,v2⟩:=qVA RR T e;exact⟨cv m v,v2,m,D,rfl,X,RR,v1⟩
 |cons d ds ih=>
  intro l m D h w RR X T df e;have hl:l=Uo (m d).1::ds.map (λd=>Uo (m d).1):=df.2;subst hl;have hd:=df.1 d (iK ..);simp only[zT]at e
  split at e
  rotate_left
  ·grind
  rename_i hg;obtain⟨x,hx,nO,sq⟩:=RR.bR d hd;rw[hg]at hx;cases hx;have hb:w.heap[(m d).1]? =some (.deferred (some [])):=nO;have bz:=(Array.getElem?_eq_some_iff.1 hb).1;obtain⟨X2,R2⟩:=RR.put (w0:=w.putObj (m d).1 (.deferred none)) d .sF hd ⟨_,hg,trivial⟩ aM (λc hc=>World.putObj_heap_other hc) rfl rfl rfl trivial
   ⟨_,World.putObj_heap_same bz⟩
  refine⟨by simp,.inl ⟨(m d).1,_,rfl,run_takeDeferred hb,?_⟩⟩;exact ih _ m D _ _ R2 (X.trans X2) (T.mono X2) ⟨λb hb=>df.1 b (iX _ hb),rfl⟩ e
theorem qzR:∀(l:List AV) (i:Nat) (t:PT AV) (j:Nat),(Et l i t).get j=if i≤j∧j<i+l.length then l[j-i]? else t.get j:=by
 intro l
 induction l with
 |nil=>simp[Et,List.length_nil,iQ,omQ]
 |cons a l ih=>
  intro i t j;simp only[Et,ih,List.length_cons];by_cases h1:i+1≤j∧j<i+1+l.length
  ·grind
  ·rw[iQ h1,PT.bN];grind
theorem qv8 (hc:vK P c) (hd:M9 P c) {N:Nat} {pl:Pl} {f:FuncId} {args:List AV} {r:AV×AH} (e:gP P N pl c f args h=some r) (RR:Rel P m D h w) (ha:aY D args) (nn:Nat) :
  CallsIn Fence.wide nn P f (aQ m args).toArray w (JY P m D h w r):=by
 simp only[gP,qD]at e;obtain⟨fn,hf,b,hb,e⟩:=e;refine callsIn_of_wp_marks hf hb trivial ?_;have T:fA m D fn.ntmps { tmps:=(aQ m args).toArray++Array.replicate (fn.ntmps-(aQ m args).toArray.size) undef,defers:=[] } (Et args 0 .e):=by
  refine⟨by grind,?_⟩;intro t v hv;rw[qzR]at hv
  split at hv
  ·rename_i ht;simp only[Nat.sub_zero]at hv;grind[List.mem_of_getElem?,vo,Array.getElem?_append_left,ye]
  trivial
 refine Tf hc hd N f fn.ntmps none b none nn _ r [] pl _ h [] _ m D w _ ⟨RR,T,⟨λb hb=>(by grind),rfl⟩,rfl⟩ ⟨fn,b,hf,hb,rfl,by simp[xM]⟩ e ?_;intro x m1 D1 h1 w1 a1 cP ds1 X1 S1 e1;cases x with
 |normal=>exact qZI ds1 _ m1 D1 h1 w1 S1.rel X1 S1.tm S1.df e1
 |ret=>exact qZI ds1 _ m1 D1 h1 w1 S1.rel X1 S1.tm S1.df e1
 |exit i=>grind
 |goto l=>grind
theorem qwL {m:Mp} {D:Nat→Prop} {n:Nat} {a:Act} {k:PT AV→R} {r:AV×AH}:∀(L:List Nat) (vs:List AV) (t:PT AV),fA m D n a t→(∀p∈L.zip vs,a.tmps[p.1]? =some (cv m p.2))→aY D vs→
  uS L vs t k=some r→∃t',k t'=some r∧fA m D n a t':=by
 intro L
 induction L with
 |nil=>
  intro vs t T hz hd e;cases vs with
  |nil=>grind
  |cons v vs=>grind
 |cons x L ih=>
  intro vs t T hz hd e;cases vs with
  |nil=>grind
  |cons v vs=>
   simp only[uS]at e;refine ih vs _ ?_ (λp hp=>hz p (iX _ hp)) hd.2 e;refine⟨T.size,?_⟩;intro s u hs;rw[PT.bN]at hs;by_cases hx:x=s
   ·subst hx;rw[iJ rfl]at hs;cases hs;exact⟨hz (x,v) (iK ..),hd.1⟩
   ·rw[iQ hx]at hs;exact T.at_ s u hs
theorem qkm {m:Mp} {D:Nat→Prop} {n:Nat} {k:PT AV→R} {r:AV×AH}:∀(ps:List Tmp) (vs:List AV) (t:PT AV) (tmps:Array Value),fA m D n { tmps,defers:=[] } t→aY D vs→
  Pq ps vs n t k=some r→ps.length=vs.length∧∃t',k t'=some r∧fA m D n { tmps:=(ps.zip (aQ m vs)).foldl (λtmps (p:Tmp×Value)=>tmps.setIfInBounds p.1 p.2) tmps,defers:=[] } t':=by
 intro ps
 induction ps with
 |nil=>
  intro vs t tmps T hd e;cases vs with
  |nil=>exact⟨rfl,t,e,T⟩
  |cons v vs=>grind
 |cons p ps ih=>
  intro vs t tmps T hd e;cases vs with
  |nil=>grind
  |cons v vs=>
   simp only[Pq,zM]at e;obtain⟨hp,e⟩:=e;have hp:=zN hp;have T':fA m D n { tmps:=tmps.setIfInBounds p (cv m v),defers:=[] } (t.set p v):=by
    refine⟨by simpa using T.size,?_⟩;intro s u hs;rw[PT.bN]at hs;by_cases hx:p=s
    ·subst hx;rw[iJ rfl]at hs;cases hs;have:=T.size;simp only[]at this;refine⟨?_,hd.1⟩;grind
    ·rw[iQ hx]at hs;obtain⟨h1,h2⟩:=T.at_ s u hs;grind
   obtain⟨h1,t',h2,h3⟩:=ih vs _ _ T' hd.2 e;exact⟨by grind,t',h2,h3⟩
end Go.Ae
namespace Go.Ae
open Go
variable {P:Program} {c:CV} {m:Mp} {D:Nat→Prop} {h h':AH} {w:World}
theorem Ze {m0:Mp} {D0:Nat→Prop} {h0:AH} {w0:World} {r:AV×AH} {l:Nat} {lc:Nat} {rd rc:Option Nat} {n:Nat} {ds:List Nat} {a:Act} {tm:PT AV} {j:Option AX}
  (S:St P m D h w n ds a tm rd rc) (X:Ext m0 D0 h0 w0 m D h w) (hl:D l) (Tg:(m l).1=lc) (e:Q5 h l j=some r) :
  ∃v w',(Instr.endRound lc (j.map kG)).run P w=.ok v w'∧JY P m0 D0 h0 w0 r (.returned v) w':=by
 subst Tg;unfold Q5 at e
 split at e
 rotate_left
 ·grind
 rename_i st dp f p L vs d hg;obtain⟨x,hx,nO,sq⟩:=S.rel.bR l hl;rw[hg]at hx;cases hx;obtain⟨f',tmps,ps,g,assign,body,fn,bd,q1,q2,q3,q4,q5,q6,q7⟩:=nO;have bz:=(Array.getElem?_eq_some_iff.1 q1).1;have he:=run_endRound (P:=P) (j.map kG) q1;refine⟨_,_,he,?_⟩;cases j with
 |none=>
  simp only[Option.some.injEq]at e;obtain⟨X2,R2⟩:=S.rel.put (w0:=w.putObj (m l).1 (.loop { state:=.ready,pending:=none,fn:=f',tmps:=tmps,params:=ps,assign:=assign,body:=body,defers:=(m d).1 })) l
   (.loop .ready none f p L vs d) hl ⟨_,hg,trivial⟩ aM (λc hc=>World.putObj_heap_other hc) rfl rfl rfl sq
   ⟨f',tmps,ps,g,assign,body,fn,bd,World.putObj_heap_same bz,q2,q3,q4,q5,q6,q7⟩
  subst e;exact⟨m,D,rfl,X.trans X2,R2,trivial⟩
 |some y=>
  simp only[Option.some.injEq]at e;obtain⟨X2,R2⟩:=S.rel.put (w0:=w.putObj (m l).1 (.loop { state:=.done,pending:=some (kG y),fn:=f',tmps:=tmps,params:=ps,assign:=assign,body:=body,defers:=(m d).1 })) l
   (.loop .done (some y) f p L vs d) hl ⟨_,hg,trivial⟩ aM (λc hc=>World.putObj_heap_other hc) rfl rfl rfl sq
   ⟨f',tmps,ps,g,assign,body,fn,bd,World.putObj_heap_same bz,q2,q3,q4,q5,q6,q7⟩
  subst e;exact⟨m,D,rfl,X.trans X2,R2,trivial⟩
theorem qz7 (hc:vK P c) (hd:M9 P c) {N:Nat} {pl:Pl} {f:FuncId} {pos L:List Nat} {l:Nat} {vs args:List AV} {r:AV×AH} {st:LoopState} {dp:Option AX} {d:Nat}
  (hg:h.get l=some (.loop st dp f pos L vs d)) (e:Sk P N pl c f pos L l vs args h=some r) (RR:Rel P m D h w) (hl:D l) (ha:aY D args):PG P m D h w args r (.yield l):=by
 obtain⟨x,hx,nO,sq⟩:=RR.bR l hl;rw[hg]at hx;cases hx;obtain⟨f',tmps,ps,g,assign,body,fn,bd,q1,q2,q3,q4,q5,q6,q7⟩:=nO;simp only[Sk,qD]at e;obtain⟨PK,PL,Th,bL,s,hs,e⟩:=e;rw[q2]at PL;cases PL;rw[q3]at bL;cases bL;rw[q4]at hs;cases hs;simp only[]at e;have T0:fA m D fn.ntmps { tmps:=tmps,defers:=[] } .e:=⟨q5,λt v hv=>by trivial⟩;obtain⟨Sm,e,T1⟩:=qwL L vs .e T0 q7 sq.1 e;obtain⟨hlen,cP,e,T2⟩:=qkm ps.toList args Sm tmps T1 ha e;have bz:(aQ m args).toArray.size=ps.size:=by simp_all
 have hy:=run_yield (P:=P) (args:=(aQ m args).toArray) q1 bz;refine⟨f',_,assign,body,hy,?_⟩;intro nn;have Hv:(ps.zip (aQ m args).toArray).foldl (λtmps (x:Tmp×Value)=>tmps.setIfInBounds x.1 x.2) tmps=(ps.toList.zip (aQ m args)).foldl (λtmps (x:Tmp×Value)=>tmps.setIfInBounds x.1 x.2) tmps:=by rw[← Array.foldl_toList,Array.toList_zip]
 refine roundIn_of_wpIn trivial ?_;simp only[];have CU:(ps.zip (aQ m args).toArray).foldl (λtmps (x:Tmp×Value)=>match x with |(t,a)=>tmps.setIfInBounds t a) tmps=(ps.toList.zip (aQ m args)).foldl (λtmps (x:Tmp×Value)=>tmps.setIfInBounds x.1 x.2) tmps:=Hv;rw[CU];have cx:∃PK Th,P.funcs[f]? =some PK∧PK.body=some Th∧PK.ntmps=fn.ntmps∧xM Th pos=some (.rangeFunc g ps assign body):=⟨fn,bd,q2,q3,rfl,q4⟩;have Ti:=Yh (q:=[0]) cx (s:=assign) (by simp[xM]);have Tj:=Yh (q:=[1]) cx (s:=body) (by simp only[xM];rfl);refine Tf hc hd N f fn.ntmps (some l) assign (some (m l).1) nn _ r (pos++[0]) (oY pl) _ h [] _ m D w _ ⟨RR,T2,⟨λb hb=>(by grind),rfl⟩,⟨hl,rfl⟩⟩ Ti e ?_;intro x m1 D1 h1 w1 a1 cP ds1 X1 S1 e1;cases x with
 |exit i=>grind
 |goto i=>grind
 |ret=>grind
 |normal=>
  simp only[]at e1;unfold Z8 at e1
  split at e1
  rotate_left
  ·grind
  rename_i BA f1 Tk L1 vs1 d1 u7;have lL:=X1.sL l hl;have sr:(m1 l).1=(m l).1:=by rw[X1.map l hl]
  obtain⟨x,hx,nO,Tl⟩:=S1.rel.bR l lL;rw[u7]at hx;cases hx;obtain⟨f2,BB,m4,g2,pY,BC,fn2,bd2,p1,p2,p3,p4,p5,p6,p7⟩:=nO;rw[sr]at p1;have sW:=(Array.getElem?_eq_some_iff.1 p1).1;refine⟨_,run_beginRound p1 rfl,?_⟩;obtain⟨X2,R2⟩:=S1.rel.put (w0:=w1.putObj (m l).1 (.loop { state:=.busy,pending:=BA.map kG,fn:=f2,tmps:=BB,params:=m4,assign:=pY,body:=BC,defers:=(m1 d1).1 })) l
   (.loop .busy BA f1 Tk L1 vs1 d1) lL ⟨_,u7,trivial⟩ aM (λc hc=>World.putObj_heap_other (by grind)) rfl rfl rfl Tl
   ⟨f2,BB,m4,g2,pY,BC,fn2,bd2,by grind[World.putObj_heap_same],p2,p3,p4,p5,p6,p7⟩
  refine Tf hc hd N f fn.ntmps (some l) body (some (m l).1) nn _ r (pos++[1]) (Bm pl) _ _ ds1 _ m1 D1 _ _ ⟨R2,S1.tm.mono X2,S1.df.mono X2,S1.rd.mono X2⟩ Tj e1 ?_;intro y m3 D3 h3 w3 a3 tm3 ds3 X3 S3 e3;have XX:=(X1.trans X2).trans X3;have PM:=XX.sL l hl;have Bz:(m3 l).1=(m l).1:=by rw[XX.map l hl]
  cases y with
  |normal=>exact Ze S3 XX PM Bz e3
  |exit i=>exact Ze (j:=some (.exit i)) S3 XX PM Bz e3
  |goto i=>exact Ze (j:=some (.goto i)) S3 XX PM Bz e3
  |ret=>exact Ze (j:=some .ret) S3 XX PM Bz e3
def XOk (P:Program) (f:Nat) (w:WF):Prop:=∀c l h r,w c l h=some r→∀m D W,Rel P m D h W→aY D l→∀n,CallsIn Fence.wide n P f (aQ m l).toArray W (JY P m D h W r)
def WX (P:Program) (f:Nat) (w:WF):Prop:=pR P f w∨XOk P f w
structure TabOk (P:Program) (tab:BT) (rt:List RT):Prop where
  w:∀f g,tab.get f=some g→WX P f g
  enter:∀f g,tab.get f=some g→∀(as:Array Value) (W:World),(callFunc f as).run P W=.ok (.enter f as) W
  r:∀p∈rt,Sn P p.f p.pos p.L p.run
theorem qJ3:∀{a b:List Nat},Ky a b=true→a=b:=by
 intro a
 induction a with
 |nil=>intro b h;cases b<;>first |rfl |cases h
 |cons x a ih=>
  intro b h;cases b with
  |nil=>cases h
  |cons y b=>simp only[Ky,Bool.and_eq_true]at h;grind[zF]
theorem qZB:∀{rt:List RT} {f:Nat} {pos L:List Nat} {g:VF},MZ rt f pos L=some g→∃p∈rt,p.f=f∧p.pos=pos∧p.L=L∧p.run=g:=by
 intro rt
 induction rt with
 |nil=>nofun
 |cons x rt ih=>
  intro f pos L g h;simp only[MZ]at h;cases hb:Nat.beq x.f f&&(Ky x.pos pos&&Ky x.L L)
  ·grind
  ·rw[hb]at h;simp only[Bool.and_eq_true]at hb;simp only[cond_true,Option.some.injEq]at h;exact⟨x,iK ..,zF hb.1,qJ3 hb.2.1,qJ3 hb.2.2,h⟩
theorem WX.call {f:Nat} {g:WF} {args:List AV} {r:AV×AH} (x:WX P f g) (hc:vK P c) (hd:M9 P c) (e:g c args h=some r) (RR:Rel P m D h w) (ha:aY D args) (n:Nat):CallsIn Fence.wide n P f (aQ m args).toArray w (JY P m D h w r):=by
 rcases x with x |x
 ·obtain⟨pl,e⟩:=x _ _ _ _ e;exact qv8 hc hd e RR ha n
 ·exact x _ _ _ _ e m D w RR ha n
theorem qzC {tab:BT} {rt:List RT} (ht:TabOk P tab rt) (hd:∀c,vK P c→M9 P c):∀k,vK P (callT tab rt k):=by
 intro k
 induction k with
 |zero=>nofun
 |succ k ih=>
  intro vf args h r e m D w RR hv ha;cases vf with
  |fn f first cap=>
   have e:Option.rec (motive:=λ_=>R) none (λg=>g (callT tab rt k) (first++args++cap) h) (BT.get tab f)=some r:=e;cases hg:BT.get tab f with
   |some g=>rw[hg]at e;refine⟨ht.enter f g hg,λn=>(ht.w f g hg).call ih (hd _ ih) e RR ?_ n⟩;exact w8.2 ⟨w8.2 ⟨hv.1,ha⟩,hv.2⟩
   |none=>simp_all
  |yield l=>
   have e:(match h.get l with
    |some (.loop .ready _ f pos L vs _)=>(match MZ rt f pos L with |some g=>g (callT tab rt k) l vs args h |none=>none)
    |_=>none)=some r:=e
   split at e
   ·rename_i dp f pos L vs d hg
    split at e
    ·rename_i g hgr;obtain⟨p,hp,rfl,rfl,rfl,rfl⟩:=qZB hgr;obtain⟨pl,e⟩:=ht.r p hp _ _ _ _ _ _ e;exact qz7 ih (hd _ ih) hg e RR hv ha
    grind
   grind
  |_=>cases e
end Go.Ae
