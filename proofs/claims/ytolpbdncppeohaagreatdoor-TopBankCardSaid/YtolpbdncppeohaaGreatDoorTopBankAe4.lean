/- The abstract executor of the program's form in Lean, shown sound: operations one behind the other; code; functions; rounds; tables. -/
import Derived.Test.YtolpbdncppeohaaGreatDoorTopBankAe3
import Derived.LoopNIn
import Derived.RangeFuncRecord
import Derived.RangeFuncNested
namespace Go.Ae
open Go
variable {P:Program} {c:CV}
abbrev cD (x:R) (k:AV→AH→R):R:=x.bind λq=>k q.1 q.2
theorem jB {α:Type} {x:Option α} {f:α→R} {k:AV→AH→R}:cD (ob x f) k=ob x λa=>cD (f a) k:=by grind
theorem J1 {b:Bool} {x y:R} {k:AV→AH→R}:cD (cE b x y) k=cE b (cD x k) (cD y k):=by cases b<;>rfl
theorem jS {b:Bool} {x y:R} {k:AV→AH→R}:cD (bif b then x else y) k=bif b then cD x k else cD y k:=by grind
theorem xC {k:AV→AH→R}:cD none k=none:=rfl
theorem zF {v:AV} {h:AH} {k:AV→AH→R}:cD (some (v,h)) k=k v h:=rfl
theorem qc {α:Type} {x:Option α} {f g:α→R} (h:∀a,f a=g a):ob x f=ob x g:=by grind
theorem jj {b:Bool} {x y x' y':R} (h:x=x') (h':y=y'):(bif b then x else y)=(bif b then x' else y'):=by grind
theorem jVC (a b d:AV) (h:AH) (k:AV→AH→R):cD (gt a b d λz=>some (z,h)) k=gt a b d λz=>k z h:=by simp only[TA];repeat' (first |rfl |(simp only[J1,zF];done) |(rw[jB];refine qc λ_=>?_) |(rw[jS];refine jj ?_ ?_) |split)
theorem Ek (a:AV) (h:AH) (k:AV→AH→R):cD (yF a λz=>some (z,h)) k=yF a λz=>k z h:=by unfold yF;split<;>simp_all
theorem qx4 (a:AV) (n:Nat) (h:AH) (k:AV→AH→R):cD (jG a n λz=>some (z,h)) k=jG a n λz=>k z h:=by simp only[M3];split<;>simp_all
theorem jJu (a:AV) (n:Nat) (h:AH) (k:AV→AH→R):cD (UE a n λz=>some (z,h)) k=UE a n λz=>k z h:=by simp only[ZF];repeat' (first |rfl |(simp only[jB,zF];done) |(rw[jB];refine qc λ_=>?_) |(rw[jS];refine jj ?_ ?_) |split)
theorem jJB (a:AV) (n m:Nat) (h:AH) (k:AV→AH→R):cD (KW a n m λz=>some (z,h)) k=KW a n m λz=>k z h:=by unfold KW;repeat' (first |rfl |(simp only[jB,zF];done) |(rw[jB];refine qc λ_=>?_) |(rw[jS];refine jj ?_ ?_) |split)
theorem jXn (a b:AV) (n:Nat) (h:AH) (k:AV→AH→R):cD (gT a b n λz=>some (z,h)) k=gT a b n λz=>k z h:=by simp only[Vn];repeat' (first |rfl |(simp only[jS,xC,zF];done) |(rw[jB];refine qc λ_=>?_) |(rw[jS];refine jj ?_ ?_) |split)
theorem jXo (a b:AV) (n m:Nat) (h:AH) (k:AV→AH→R):cD (Je a b n m λz=>some (z,h)) k=Je a b n m λz=>k z h:=by unfold Je;repeat' (first |rfl |(simp only[jS,xC,zF];done) |(rw[jB];refine qc λ_=>?_) |(rw[jS];refine jj ?_ ?_) |split)
theorem jQ4 (a b:AV) (n m:Nat) (h:AH) (k:AV→AH→R):cD (G8 a b n m λz=>some (z,h)) k=G8 a b n m λz=>k z h:=by unfold G8;repeat' (first |rfl |(simp only[jB,jS,xC,zF];done) |(rw[jB];refine qc λ_=>?_) |(rw[jS];refine jj ?_ ?_) |split)
theorem jQF (a b:AV) (n m:Nat) (h:AH) (k:AV→AH→R):cD (KQ a b n m λz=>some (z,h)) k=KQ a b n m λz=>k z h:=by unfold KQ;repeat' (first |rfl |(simp only[jB,jS,xC,zF];done) |(rw[jB];refine qc λ_=>?_) |(rw[jS];refine jj ?_ ?_) |split)
theorem qxs (a b:AV) (h:AH) (k:AV→AH→R):cD (kw a b λz=>some (z,h)) k=kw a b λz=>k z h:=by unfold kw;repeat' (first |rfl |(simp only[jB,zF];done) |(rw[jB];refine qc λ_=>?_) |(rw[jS];refine jj ?_ ?_) |split)
theorem jQo (h0:AH) (a:AV) (h:AH) (k:AV→AH→R):cD (ja h0 a λz=>some (z,h)) k=ja h0 a λz=>k z h:=by simp only[gM];repeat' (first |rfl |(simp only[jB,zF];done) |(rw[jB];refine qc λ_=>?_) |(rw[jS];refine jj ?_ ?_) |split)
theorem jZM (h0:AH) (a:AV) (n:Nat) (h:AH) (k:AV→AH→R):cD (xH h0 a n λz=>some (z,h)) k=xH h0 a n λz=>k z h:=by simp only[QK];repeat' (first |rfl |(simp only[jB,zF];done) |(rw[jB];refine qc λ_=>?_) |(rw[jS];refine jj ?_ ?_) |split)
theorem El (op:BinOp) (a b:AV) (h:AH) (k:AV→AH→R):cD (zB op a b λz=>some (z,h)) k=zB op a b λz=>k z h:=by simp only[Lz];repeat' (first |rfl |(simp only[jB,jS,xC,zF];done) |(rw[jB];refine qc λ_=>?_) |(rw[jS];refine jj ?_ ?_) |split)
theorem qy1 (op:BinOp) (a b:AV) (h:AH) (k:AV→AH→R):cD (w5 op a b λz=>some (z,h)) k=w5 op a b λz=>k z h:=by unfold w5;repeat' (first |rfl |(simp only[jB,zF];done) |(rw[jB];refine qc λ_=>?_) |(rw[jS];refine jj ?_ ?_) |split)
theorem Em (op:BinOp) (a b:AV) (h:AH) (k:AV→AH→R):cD (Nb op a b λz=>some (z,h)) k=Nb op a b λz=>k z h:=by unfold Nb;repeat' (first |rfl |(simp only[jB,zF];done) |(rw[jB];refine qc λ_=>?_) |(rw[jS];refine jj ?_ ?_) |split)
theorem LS (d:EK) (n:Bool) (a b:AV) (h:AH) (k:AV→AH→R):cD (nY d n a b λz=>some (z,h)) k=nY d n a b λz=>k z h:=by simp[nY,jB]
theorem En (d:List ES) (n:Bool) (a b:AV) (h:AH) (k:AV→AH→R):cD (UO d n a b λz=>some (z,h)) k=UO d n a b λz=>k z h:=by unfold UO;repeat' (first |rfl |(simp only[jB,zF];done) |(rw[jB];refine qc λ_=>?_) |(rw[jS];refine jj ?_ ?_) |split)
theorem LU (op:UnOp) (a:AV) (h:AH) (k:AV→AH→R):cD (tg op a λz=>some (z,h)) k=tg op a λz=>k z h:=by unfold tg;split<;>simp_all
theorem jZ4 (d:IntKind) (a:AV) (h:AH) (k:AV→AH→R):cD (wA d a λz=>some (z,h)) k=wA d a λz=>k z h:=by unfold wA;split<;>simp_all
theorem jJe (a:AV) (h:AH) (k:AV→AH→R):cD (Gr a λz=>some (z,h)) k=Gr a λz=>k z h:=by unfold Gr;split<;>simp_all
theorem Eo (h0:AH) (a:AV) (h:AH) (k:AV→AH→R):cD (GC h0 a λz=>some (z,h)) k=GC h0 a λz=>k z h:=by unfold GC;repeat' (first |rfl |(simp only[jB,zF];done) |(rw[jB];refine qc λ_=>?_) |(rw[jS];refine jj ?_ ?_) |split)
theorem qg4 (a:AV) (lo hi:Option AV) (h:AH) (k:AV→AH→R):cD (w6 a lo hi λz=>some (z,h)) k=w6 a lo hi λz=>k z h:=by unfold w6;repeat' (first |rfl |(simp only[jB,zF];done) |(rw[jB];refine qc λ_=>?_) |(rw[jS];refine jj ?_ ?_) |split)
theorem LV (h0:AH) (e:TypeId) (n:Nat) (a:AV) (lo hi:Option AV) (h:AH) (k:AV→AH→R):cD (vW h0 e n a lo hi λz=>some (z,h)) k=vW h0 e n a lo hi λz=>k z h:=by unfold vW;repeat' (first |rfl |(simp only[jB,jS,xC,zF];done) |(rw[jB];refine qc λ_=>?_) |(rw[jS];refine jj ?_ ?_) |split)
theorem qkP (n m:Nat) (a:AV) (lo hi:Option AV) (h:AH) (k:AV→AH→R):cD (kB n m a lo hi λz=>some (z,h)) k=kB n m a lo hi λz=>k z h:=by unfold kB;repeat' (first |rfl |(simp only[jB,zF];done) |(rw[jB];refine qc λ_=>?_) |(rw[jS];refine jj ?_ ?_) |split)
theorem qGO (t:TypeId) (z a:AV) (h:AH) (k:AV→AH→R):cD (ym t z a λz=>some (z,h)) k=ym t z a λz=>k z h:=by unfold ym;repeat' (first |rfl |(simp only[jS,zF];done) |(rw[jB];refine qc λ_=>?_) |(rw[jS];refine jj ?_ ?_) |split)
theorem qvh (t:TypeId) (a:AV) (h:AH) (k:AV→AH→R):cD (JR t a λz=>some (z,h)) k=JR t a λz=>k z h:=by unfold JR;repeat' (first |rfl |(simp only[jS,xC,zF];done) |(rw[jB];refine qc λ_=>?_) |(rw[jS];refine jj ?_ ?_) |split)
theorem qqi (a:AV) (n:Nat) (h:AH) (k:AV→AH→R):cD (yY a n λz=>some (z,h)) k=yY a n λz=>k z h:=by simp only[YZ];repeat' (first |rfl |(simp only[jB,zF];done) |(rw[jB];refine qc λ_=>?_) |(rw[jS];refine jj ?_ ?_) |split)
theorem jXi (a:AV) (h:AH) (k:AV→AH→R):cD (Jx a λz=>some (z,h)) k=Jx a λz=>k z h:=by unfold Jx;split<;>simp_all
theorem qwo (a:AV) (h:AH) (k:AV→AH→R):cD (Xo a λz=>some (z,h)) k=Xo a λz=>k z h:=by unfold Xo;split<;>simp_all
theorem LW (b:Bool) (l:List AV) (h:AH) (k:AV→AH→R):cD (pf b l λz=>some (z,h)) k=pf b l λz=>k z h:=by unfold pf;repeat' (first |rfl |(simp only[jB,jS,xC,zF];done) |(rw[jB];refine qc λ_=>?_) |(rw[jS];refine jj ?_ ?_) |split)
theorem jZI (z:List AV) (vs:List (Nat×Nat×AV)) (h:AH) (k:AV→AH→R):cD (vn z vs λz=>some (z,h)) k=vn z vs λz=>k z h:=by simp[vn,jB]
theorem Ep (h0:AH) (e:TypeId) (a:AV) (k:AV→AH→R):cD (Nh h0 e a λz h=>some (z,h)) k=Nh h0 e a k:=by unfold Nh;repeat' (first |rfl |(simp only[jS,xC,zF];done) |(rw[jB];refine qc λ_=>?_) |(rw[jS];refine jj ?_ ?_) |split)
theorem Er (h0:AH) (e:TypeId) (a:AV) (k:AV→AH→R):cD (kF h0 e a λz h=>some (z,h)) k=kF h0 e a k:=by simp[kF,jS]
theorem qzp (h0:AH) (e:TypeId) (z:List AV) (n:Nat) (vs:List (Nat×Nat×AV)) (k:AV→AH→R):cD (vG h0 e z n vs λz h=>some (z,h)) k=vG h0 e z n vs k:=by simp[vG,jB,jS]
theorem jX3 (h0:AH) (e:TypeId) (z:List AV) (a b:AV) (k:AV→AH→R):cD (Ja h0 e z a b λz h=>some (z,h)) k=Ja h0 e z a b k:=by unfold Ja;repeat' (first |rfl |(simp only[jS,xC,zF];done) |(rw[jB];refine qc λ_=>?_) |(rw[jS];refine jj ?_ ?_) |split)
theorem qVi (h0:AH) (e:TypeId) (sz:Nat) (a:AV) (n:Nat) (new:CT) (k:AV→AH→R):cD (vi h0 e sz a n new λz h=>some (z,h)) k=vi h0 e sz a n new k:=by unfold vi;repeat' (first |rfl |(simp only[jB,jS,xC,zF];done) |(rw[jB];refine qc λ_=>?_) |(rw[jS];refine jj ?_ ?_) |split)
theorem qwI (h0:AH) (e:TypeId) (sz:Nat) (a b:AV) (k:AV→AH→R):cD (wY h0 e sz a b λz h=>some (z,h)) k=wY h0 e sz a b k:=by simp[wY,jB,jS,qVi]
theorem jKL (h0:AH) (sz:Nat) (a b:AV) (k:AV→AH→R):cD (Mr h0 sz a b λz h=>some (z,h)) k=Mr h0 sz a b k:=by unfold Mr;repeat' (first |rfl |(simp only[jB,jS,zF];done) |(rw[jB];refine qc λ_=>?_) |(rw[jS];refine jj ?_ ?_) |split)
theorem jXB (h0:AH) (a:AV) (k:AV→AH→R):cD (Kk h0 a λz h=>some (z,h)) k=Kk h0 a k:=by unfold Kk;split<;>simp_all
theorem jKd (h0:AH) (a:AV) (k:AV→AH→R):cD (MY h0 a λz h=>some (z,h)) k=MY h0 a k:=by unfold MY;repeat' (first |rfl |(simp only[jS,zF];done) |(rw[jB];refine qc λ_=>?_) |(rw[jS];refine jj ?_ ?_) |split)
theorem T8 (f:AV) (a:List AV) (h0:AH) (k:AV→AH→R):cD (ze c f a h0 λz h=>some (z,h)) k=ze c f a h0 k:=by simp only[JD];grind
theorem qxH (l:List (Nat×Nat)) (v:AV) (a:List AV) (h0:AH) (k:AV→AH→R):cD (vB c l v a h0 λz h=>some (z,h)) k=vB c l v a h0 k:=by
 unfold vB;cases v<;>first |rfl |skip
 rename_i t x;simp only[];cases U8 l t with
 |none=>rfl
 |some f=>simp[T8]
theorem jKf (h0 h1:AH) (v:AV) (k:AV→AH→R):cD (NF h0 v λz=>some (z,h1)) k=NF h0 v λz=>k z h1:=by
 unfold NF
 repeat' (first |rfl |split)
theorem qqe (h0:AH) (k:AV→AH→R):cD (XQ h0 λz h=>some (z,h)) k=XQ h0 k:=rfl
theorem jQT (h0 h1:AH) (v i:AV) (k:AV→AH→R):cD (KZ h0 v i λz=>some (z,h1)) k=KZ h0 v i λz=>k z h1:=by
 unfold KZ
 repeat' (first |rfl |split)
theorem jK1 (h0:AH) (v i:AV) (k:AV→AH→R):cD (Vi h0 v i λz h=>some (z,h)) k=Vi h0 v i k:=by
 unfold Vi
 repeat' (first |rfl |split)
theorem Es (h0:AH) (v i y:AV) (k:AV→AH→R):cD (Be h0 v i y λh=>some (.undef,h)) k=Be h0 v i y λh=>k .undef h:=by
 unfold Be
 repeat' (first |rfl |split)
theorem jKu (h0:AH) (v i y:AV) (k:AV→AH→R):cD (Ma h0 v i y λh=>some (.undef,h)) k=Ma h0 v i y λh=>k .undef h:=by
 unfold Ma
 repeat' (first |rfl |split)
theorem jVE (h0:AH) (v i:AV) (k:AV→AH→R):cD (ND h0 v i λz h=>some (z,h)) k=ND h0 v i k:=by
 unfold ND
 repeat' (first |rfl |split)
theorem jJ9 (h0:AH) (a b:AV) (n:Nat) (k:AV→AH→R):cD (zx h0 a b n λh=>some (.undef,h)) k=zx h0 a b n λh=>k .undef h:=by simp only[UT];repeat' (first |rfl |(simp only[jB,jS,xC,zF];done) |(rw[jB];refine qc λ_=>?_) |(rw[jS];refine jj ?_ ?_) |split)
theorem Et (op:BinOp) (t:TypeId) (a b:AV) (h:AH) (k:AV→AH→R):cD (DK P op t a b λz=>some (z,h)) k=DK P op t a b λz=>k z h:=by
 cases op<;>simp only[DK,jB,qy1]<;>refine qc λd=>?_
 all_goals cases d<;>simp only[El,Em,LS,En,jB,J1,xC]
theorem jK9 (s d:TypeId) (v:AV) (h:AH) (k:AV→AH→R):cD (Gb P s d v h λz h=>some (z,h)) k=Gb P s d v h k:=by
 simp only[Gb,jB];refine qc λds=>qc λdd=>?_;cases dd<;>cases ds<;>simp only[jZ4,jJe,xC,jB]<;>refine qc λe=>?_
 all_goals
  cases e<;>first |rfl |skip
  rename_i q;cases q<;>simp only[xC,Eo,jB,J1,Ep]
theorem T9 (o:Op) (r:Operand→Option AV) (h:AH) (k:AV→AH→R):bc P c o r h k=cD (cM P c o r h) k:=by
 unfold cM;cases o
 case convert s d x=>show(ob (r x) λv=>Gb P s d v h k)=cD (ob (r x) λv=>Gb P s d v h λv h'=>some (v,h')) k;rw[jB];exact qc λv=>(jK9 s d v h k).symm
 all_goals simp only[bc,jB,xC,zF,J1,jVC,Er,jJ9,Ek,Et,LU,qx4,qqi,jKd,jQT,jK1,jKu,Es]
 case slice t x lo hi mx=>
  cases mx<;>simp only[jB,xC]
  refine qc λ_=>qc λ_=>qc λ_=>qc λd=>?_;cases d<;>(first |rfl |simp[jB,qg4,LV,qkP])
 case build=>refine qc λ_=>qc λd=>?_;cases d<;>(first |rfl |simp[jB,jZI])
 case buildSlice=>refine qc λd=>?_;cases d<;>(first |rfl |simp[jB,J1,qzp])
 case load=>refine qc λ_=>qc λd=>?_;cases d<;>(simp[jQo,jZM])
 case makeInterface=>refine qc λd=>?_;grind
 case makeFunc fn _ _=>cases fn<;>(simp[jB])
 case makeSlice=>refine qc λd=>?_;cases d<;>(first |rfl |simp[jB,jX3])
 case field=>refine qc λ_=>qc λd=>?_;obtain⟨d,e⟩:=d;cases e<;>(simp[jJu,jJB])
 case indexAddr=>refine qc λ_=>qc λ_=>qc λd=>?_;cases d<;>(first |rfl |simp[jB,J1,jXn,jXo])
 case index=>refine qc λ_=>qc λ_=>qc λd=>?_;cases d<;>(first |rfl |simp[jB,J1,qxs,jQ4,jQF])
 case makeMap t hint=>cases hint<;>simp only[xC,J1,qqe]
 case range=>refine qc λd=>?_;cases d<;>(first |rfl |simp[jB,jXB])
 case typeAssert=>refine qc λ_=>qc λd=>?_;cases d<;>(first |rfl |simp only[jB,J1,qvh,qGO])
 case call cl=>
  cases cl.callee with
  |value f=>simp[jB,T8]
  |invoke _ _=>simp[jB,qxH]
  |builtin b=>
   cases b<;>first |rfl |(simp only[jB,LW];done) |skip
   case len=>
    generalize cl.args.toList=xs;generalize cl.argTypes.toList=ts;cases xs<;>cases ts<;>first |rfl |skip
    simp only[jB];refine qc λ_=>qc λd=>?_;cases d<;>(first |rfl |simp[qwo,jXi,jKf])
   case append=>
    generalize cl.args.toList=xs;generalize cl.argTypes.toList=ts;rcases xs with _ |⟨s,_ |⟨x,_ |⟨y,xs⟩⟩⟩<;>rcases ts with _ |⟨t,_ |⟨u,ts⟩⟩<;>first |rfl |skip
    simp only[jB];refine qc λdu=>?_;cases du<;>first |rfl |skip
    all_goals
     simp only[jB];refine qc λd=>?_;cases d<;>(first |rfl |simp only[jB,qwI])
   case copy=>
    generalize cl.args.toList=xs;generalize cl.argTypes.toList=ts;rcases xs with _ |⟨s,_ |⟨x,_ |⟨y,xs⟩⟩⟩<;>rcases ts with _ |⟨t,ts⟩<;>first |rfl |skip
    simp only[jB];refine qc λd=>?_;cases d<;>(first |rfl |simp[jB,jKL])
   case delete=>
    generalize cl.args.toList=xs;generalize cl.argTypes.toList=ts;rcases xs with _ |⟨s,_ |⟨x,_ |⟨y,xs⟩⟩⟩<;>rcases ts with _ |⟨t,ts⟩<;>first |rfl |skip
    simp[jB,J1,jVE]
theorem Yx {o:Op} {r:Operand→Option AV} {h:AH} {k:AV→AH→R} {q:AV×AH} (e:bc P c o r h k=some q) :
  ∃v h',cM P c o r h=some (v,h')∧k v h'=some q:=by
 rw[T9]at e;cases hs:cM P c o r h with
 |none=>simp_all
 |some z=>rw[hs]at e;exact⟨z.1,z.2,rfl,e⟩
end Go.Ae
namespace Go.Ae
open Go
variable {P:Program} {m:Mp} {D:Nat→Prop} {h h':AH} {w:World} {c:CV} {o:Oper} {v:AV}
theorem jXD (hc:y9 P c) {rd:Option Nat} {n nn:Nat} {ops:Array Oper} {Q:Exit→Act→World→Prop} {g:Option (Nat×Bool)} {p:Oper} {d:Tmp} {r:AV×AH} :
  ∀(l:List Oper) (j:Nat) (rest:List Nat) (m:Mp) (D:Nat→Prop) (h:AH) (w:World) (a:Act) (tm:PT AV) (k:PT AV→AH→R),
   (∀i o,l[i]? =some o→ops[j+i]? =some o∧o.guard=g)→
   (∀q,g=some q→ops[q.1]? =some p∧p.dst=some d∧writes d l=false∧yielded ops a.tmps q.1=some q.2)→
   Rel P m D h w→eJ m D n a tm→CJ P c n l tm h k=some r→
   (∀m' D' h' w' a' tm',Ao P m D h w n a.defers a' tm' m' D' h' w'→k tm' h'=some r→wpOpsIn (FW rd) nn P ops Q rest a' w')→
   wpOpsIn (FW rd) nn P ops Q (List.range' j l.length++rest) a w:=by
 intro l
 induction l with
 |nil=>intro j rest m D h w a tm k _ _ R T e hk;exact hk m D h w a tm ⟨Ext.refl ..,R,T,rfl⟩ e
 |cons o l ih=>
  intro j rest m D h w a tm k hl hg R T e hk;obtain⟨ho,fI⟩:=hl 0 o rfl;simp only[List.length_cons,List.range'_succ,List.cons_append];simp only[wpOpsIn];rw[show ops[j]? =some o from ho];have hw:Region.wanted o (yielded ops a.tmps)=true:=by
   unfold Region.wanted;rw[fI];cases g with
   |none=>rfl
   |some q=>obtain⟨_,_,_,hy⟩:=hg q rfl;simp[hy]
  simp only[hw,if_true];simp only[CJ]at e;obtain⟨v,h1,e1,e⟩:=Yx e;refine Ei hc T.ev R e1 ?_;intro m1 D1 w1 X R1 Bt;obtain⟨cN,e2,T1⟩:=(T.mono X).put Bt e;refine ih (j+1) rest m1 D1 h1 w1 _ cN k ?_ ?_ R1 T1 e2 ?_
  ·intro i o' hi;have:=hl (i+1) o' hi
   rwa [show j+(i+1)=j+1+i by omega]at this
  ·intro q hq;obtain⟨k1,k2,k3,k4⟩:=hg q hq;have dR:=Y9 k3;refine⟨k1,k2,?_,?_⟩
   ·simp only[writes,Bool.or_eq_false_iff]at k3;exact k3.2
   ·rw[Uu k1 k2 (dR o (iK ..))];omega
  ·intro m' D' h' w' a' tm' O e';refine hk m' D' h' w' a' tm' ⟨X.trans O.ext,O.rel,O.tm,?_⟩ e';rw[O.defers,kS]
end Go.Ae
namespace Go.Ae
open Go
variable {P:Program} {m:Mp} {D:Nat→Prop} {h h':AH} {w:World} {c:CV} {o:Oper} {v:AV}
theorem jQL {q:Nat×Bool} {y:Nat→Option Bool} (hg:o.guard=some q) (hy:y q.1=some q.2):Region.wanted o y=true:=by grind[Region.wanted]
theorem Om {q:Nat×Bool} {y:Nat→Option Bool} (hg:o.guard=some q) (hy:y q.1≠some q.2):Region.wanted o y=false:=by grind[Region.wanted]
theorem qz1 {rd:Option Nat} {n nn:Nat} {ops:Array Oper} {Q:Exit→Act→World→Prop} {q:Nat×Bool} {p:Oper} {d:Tmp} {r:AV×AH} :
  ∀(l:List Oper) (j:Nat) (rest:List Nat) (a:Act) (tm:PT AV) (k:PT AV→R),
   (∀i o,l[i]? =some o→ops[j+i]? =some o∧o.guard=some q)→
   ops[q.1]? =some p→p.dst=some d→writes d l=false→yielded ops a.tmps q.1≠some q.2→
   eJ m D n a tm→Mx n l tm k=some r→
   (∀a' tm',eJ m D n a' tm'→a'.defers=a.defers→k tm'=some r→wpOpsIn (FW rd) nn P ops Q rest a' w)→
   wpOpsIn (FW rd) nn P ops Q (List.range' j l.length++rest) a w:=by
 intro l
 induction l with
 |nil=>grind
 |cons o l ih=>
  intro j rest a tm k hl hp hd hw hy T e hk;obtain⟨ho,fI⟩:=hl 0 o rfl;simp only[List.length_cons,List.range'_succ,List.cons_append];simp only[wpOpsIn];rw[show ops[j]? =some o from ho];simp only[Om fI hy,Bool.false_eq_true,if_false];refine⟨λ_ _=>trivial,?_⟩;simp only[Mx]at e;obtain⟨cN,e2,T1⟩:=T.put (v:=.undef) trivial e;rw[TZ]at T1;have dR:=Y9 hw;refine ih (j+1) rest _ cN k ?_ hp hd ?_ ?_ T1 e2 ?_
  ·intro i o' hi;have:=hl (i+1) o' hi
   grind
  ·grind[writes,Bool.or_eq_false_iff]
  ·simp_all[Uu]
  grind[kS]
theorem eJ.bV {n:Nat} {a:Act} {tm:PT AV} (T:eJ m D n a tm):∀(L:List Nat) (acc:PT AV),eJ m D n a acc→yv tm L=true→eJ m D n a (kM L (wb L tm) acc):=by
 intro L
 induction L with
 |nil=>intro acc A _;exact A
 |cons t L ih=>
  intro acc A hh;simp only[yv,Bool.and_eq_true]at hh;simp only[wb,kM];refine ih _ ?_ hh.2;have h1:=hh.1;unfold has at h1
  split at h1
  ·rename_i v hv;refine⟨A.size,?_⟩;intro s u hs;rw[PT.bP]at hs;by_cases e:t=s
   ·subst e;rw[iJ rfl]at hs;cases hs;exact T.at_ t v hv
   ·rw[iQ e]at hs;exact A.at_ s u hs
  grind
theorem Ox {b:Bool} {x:R} {r:AV×AH}:cE b none x=some r↔b=false∧x=some r:=by grind
theorem PT.fE {α:Type} (i:Nat):(PT.e:PT α).get i=none:=rfl
theorem eJ.join {n:Nat} {a:Act} {tm:PT AV} (T:eJ m D n a tm) (L:List Nat) (hh:yv tm L=true):eJ m D n a (kM L (wb L tm) .e) :=
 T.bV L .e ⟨T.size,λt v hv=>by trivial⟩ hh
theorem Zk (g:Nat×Bool) (l:List Oper):(xQ g l).1++(xQ g l).2=l:=by
 induction l with
 |nil=>rfl
 |cons o l ih=>grind[xQ,Hy]
theorem Wa (g:Nat×Bool) (l:List Oper):∀o∈(xQ g l).1,o.guard=some g:=by
 induction l with
 |nil=>intro o ho;cases ho
 |cons x l ih=>
  intro o ho;simp only[xQ]at ho;cases hs:Hy g x<;>simp only[hs,cond_false,cond_true]at ho
  ·grind
  ·rcases List.mem_cons.1 ho with rfl |ho
   ·unfold Hy at hs
    split at hs
    ·rename_i g' LX;simp only[Bool.and_eq_true,beq_iff_eq]at hs;grind[zE]
    grind
   grind
theorem jZe (hc:y9 P c) {rd:Option Nat} {n nn:Nat} {ops:Array Oper} {Q:Exit→Act→World→Prop} {r:AV×AH} {ds:List Deferred} :
  ∀(f:Nat) (l:List Oper) (j:Nat) (Ls:List (List Nat)) (m:Mp) (D:Nat→Prop) (h:AH) (w:World) (a:Act) (tm:PT AV) (k:PT AV→AH→R),
   (∀i o,l[i]? =some o→ops[j+i]? =some o)→
   Rel P m D h w→eJ m D n a tm→a.defers=ds→Gu P c n ops.toList f l Ls tm h k=some r→
   (∀m' D' h' w' a' tm',Ao P m D h w n ds a' tm' m' D' h' w'→k tm' h'=some r→Q .normal a' w')→
   wpOpsIn (FW rd) nn P ops Q (List.range' j l.length) a w:=by
 intro f
 induction f with
 |zero=>
  intro l j Ls m D h w a tm k hl R T pW e hk;cases l with
  |nil=>exact hk m D h w a tm ⟨Ext.refl ..,R,T,pW⟩ e
  |cons o l=>grind
 |succ f ih=>
  intro l j Ls m D h w a tm k hl R T pW e hk;cases l with
  |nil=>exact hk m D h w a tm ⟨Ext.refl ..,R,T,pW⟩ e
  |cons o l=>
   cases hg:o.guard with
   |none=>
    simp only[Gu,hg]at e;obtain⟨v,h1,e1,e⟩:=Yx e;simp only[List.length_cons,List.range'_succ,wpOpsIn];rw[show ops[j]? =some o from hl 0 o rfl];have hw:Region.wanted o (yielded ops a.tmps)=true:=by simp_all[Region.wanted]
    simp only[hw,if_true];refine Ei hc T.ev R e1 ?_;intro m1 D1 w1 X R1 Bt;obtain⟨cN,e2,T1⟩:=(T.mono X).put Bt e;refine ih l (j+1) Ls m1 D1 h1 w1 _ cN k ?_ R1 T1 (by simp_all[kS]) e2 ?_
    ·intro i o' hi;have:=hl (i+1) o' hi
     rwa [show j+(i+1)=j+1+i by omega]at this
    ·intro m' D' h' w' a' tm' O e';exact hk m' D' h' w' a' tm' ⟨X.trans O.ext,O.rel,O.tm,O.defers⟩ e'
   |some g=>
    simp only[Gu,hg,qg]at e;obtain⟨d,hd,vg,uc,e⟩:=e;cases Ls with
    |nil=>grind
    |cons L Ab=>
     simp only[Ox]at e;obtain⟨lK,e⟩:=e;unfold QM at hd;rw[hg]at hd;simp only[Option.bind_some,yR,Array.getElem?_toList,Option.bind_eq_some_iff]at hd;obtain⟨p,hp,Eu⟩:=hd;have LY:=T.at_ d vg uc;have iB:o::l=(o::(xQ g l).1)++(xQ g l).2:=by rw[List.cons_append,Zk]
     have hlen:List.range' j (o::l).length=List.range' j (o::(xQ g l).1).length++List.range' (j+(o::(xQ g l).1).length) (xQ g l).2.length:=by rw[List.range'_append_1,← List.length_append,← iB]
     rw[hlen];have tu:∀i o',(o::(xQ g l).1)[i]? =some o'→ops[j+i]? =some o'∧o'.guard=some g:=by
      intro i o' hi;refine⟨hl i o' ?_,?_⟩
      ·rw[iB,List.getElem?_append_left (List.getElem?_eq_some_iff.1 hi).1];omega
      ·rcases List.mem_cons.1 (List.mem_of_getElem? hi)with rfl |hm
       ·omega
       ·exact Wa g l o' hm
     have nK:∀i o',(xQ g l).2[i]? =some o'→ops[j+(o::(xQ g l).1).length+i]? =some o':=by intro i o' hi;rw[Nat.add_assoc];refine hl _ o' ?_;rw[iB,List.getElem?_append_right omQ];simp;omega
     have fX:yielded ops a.tmps g.1=(match cv m vg with | .bool b=>some b |_=>none):=by unfold yielded;simp only[hp,Option.bind_some,Eu,LY.1];generalize cv m vg=z;cases z<;>rfl
     have fin:∀m1 D1 h1 w1 a1 cN,Ao P m D h w n ds a1 cN m1 D1 h1 w1→
       cE (yv cN L) (Gu P c n ops.toList f (xQ g l).2 Ab (kM L (wb L cN) .e) h1 k) none=some r→
       wpOpsIn (FW rd) nn P ops Q (List.range' (j+(o::(xQ g l).1).length) (xQ g l).2.length) a1 w1:=by
      intro m1 D1 h1 w1 a1 cN O e1;rw[zW]at e1;obtain⟨cQ,e1⟩:=e1;refine ih (xQ g l).2 _ Ab m1 D1 h1 w1 a1 _ k nK O.rel (O.tm.join L cQ) O.defers e1 ?_;intro m' D' h' w' a' tm' O' e';exact hk m' D' h' w' a' tm' ⟨O.ext.trans O'.ext,O'.rel,O'.tm,O'.defers⟩ e'
     simp only[yc]at e;rw[MX]at e;have go:∀(e:Mx n (o::(xQ g l).1) tm (λtm'=>cE (yv tm' L) (Gu P c n ops.toList f (xQ g l).2 Ab (kM L (wb L tm') .e) h k) none)=some r)
       (hy:yielded ops a.tmps g.1≠some g.2),wpOpsIn (FW rd) nn P ops Q (List.range' j (o::(xQ g l).1).length++List.range' (j+(o::(xQ g l).1).length) (xQ g l).2.length) a w:=by
      intro e hy;refine qz1 (o::(xQ g l).1) j _ a tm _ tu hp Eu lK hy T e ?_;intro a' tm' T' LZ e';exact fin m D h w a' tm' ⟨Ext.refl ..,R,T',by rw[LZ,pW]⟩ e'
     split at e
     ·rename_i t;simp only[cv]at fX;cases ht:(t==g.2)
      rotate_left
      ·rw[ht]at e;refine jXD (p:=p) (d:=d) hc (o::(xQ g l).1) j _ m D h w a tm _ tu ?_ R T e ?_
       ·intro q hq;cases hq;exact⟨hp,Eu,lK,by rw[fX];simpa using ht⟩
       ·intro m' D' h' w' a' tm' O e';exact fin m' D' h' w' a' tm' ⟨O.ext,O.rel,O.tm,by rw[O.defers,pW]⟩ e'
      ·rw[ht]at e;refine go e ?_;rw[fX];simpa using ht
     ·rename_i Ap;refine go e ?_;rw[fX];cases vg<;>simp only[cv]<;>first |(intro hh;cases hh;done) |grind |skip
end Go.Ae
namespace Go.Ae
open Go
variable {P:Program} {c:CV}
def Ev:AX→Exit
 | .normal=>.normal
 | .exit i=>.exit i
 | .goto l=>.goto l
 | .ret=>.ret
def Um (b:Nat):Deferred:={ target:=.collected b,args:=#[] }
def pA (m:Mp) (D:Nat→Prop) (ds:List Nat) (l:List Deferred):Prop:=(∀d∈ds,D d)∧l=ds.map λd=>Um (m d).1
def rS (m:Mp) (D:Nat→Prop) (rd rc:Option Nat):Prop:=match rd with
 |none=>rc=none
 |some l=>D l∧rc=some (m l).1
theorem pA.mono {m m':Mp} {D D':Nat→Prop} {h h':AH} {w w':World} {ds:List Nat} {l:List Deferred} (d:pA m D ds l) (e:Ext m D h w m' D' h' w'):pA m' D' ds l :=
 ⟨λb hb=>e.rE b (d.1 b hb),by rw[d.2];exact List.map_congr_left λb hb=>by rw[e.map b (d.1 b hb)]⟩
theorem rS.mono {m m':Mp} {D D':Nat→Prop} {h h':AH} {w w':World} {rd rc:Option Nat} (d:rS m D rd rc) (e:Ext m D h w m' D' h' w'):rS m' D' rd rc:=by
 cases rd with
 |none=>exact d
 |some l=>exact⟨e.rE l d.1,by rw[e.map l d.1];exact d.2⟩
structure St (P:Program) (m:Mp) (D:Nat→Prop) (h:AH) (w:World) (n:Nat) (ds:List Nat) (a:Act) (tm:PT AV) (rd rc:Option Nat):Prop where
  rel:Rel P m D h w
  tm:eJ m D n a tm
  df:pA m D ds a.defers
  rd:rS m D rd rc
theorem St.Aq {m m':Mp} {D D':Nat→Prop} {h h':AH} {w w':World} {n:Nat} {ds:List Nat} {a a':Act} {tm tm':PT AV} {rd rc:Option Nat} (s:St P m D h w n ds a tm rd rc)
  (o:Ao P m D h w n a.defers a' tm' m' D' h' w'):St P m' D' h' w' n ds a' tm' rd rc :=
 ⟨o.rel,o.tm,by rw[o.defers];exact s.df.mono o.ext,s.rd.mono o.ext⟩
def NX (P:Program) (c:CV):Prop:=∀(n nn:Nat) (ops:Array Oper) (Ls:List (List Nat)) (rc:Option Nat) (Q:Exit→Act→World→Prop) (r:AV×AH) (id:Nat)
 (m:Mp) (D:Nat→Prop) (h:AH) (w:World) (a:Act) (tm:PT AV) (k:PT AV→AH→R),Rel P m D h w→eJ m D n a tm→Ln P c n ops Ls tm h k=some r→
 (∀m' D' h' w' a' tm',Ao P m D h w n a.defers a' tm' m' D' h' w'→k tm' h'=some r→Q .normal a' w')→(Code.region id ops true).wpIn (FW rc) nn P Q a w
def QG (P:Program) (N:Nat) (c:CV) (f n:Nat) (rd:Option Nat) (code:Code):Prop :=
 ∀(rc:Option Nat) (nn:Nat) (Q:Exit→Act→World→Prop) (r:AV×AH) (pos:List Nat) (pl:Pl) (tm:PT AV) (h:AH) (ds:List Nat) (k:AX→PT AV→AH→List Nat→R)
  (m:Mp) (D:Nat→Prop) (w:World) (a:Act),St P m D h w n ds a tm rd rc→
  (∃fn bd,P.funcs[f]? =some fn∧fn.body=some bd∧fn.ntmps=n∧xF bd pos=some code)→
  wE P N c f n rd code pos pl tm h ds k=some r→
  (∀x m' D' h' w' a' tm' Ew,Ext m D h w m' D' h' w'→St P m' D' h' w' n Ew a' tm' rd rc→k x tm' h' Ew=some r→Q (Ev x) a' w')→
  code.wpIn (FW rc) nn P Q a w
theorem qGH (c:Code) (p q:List Nat) (s:Code) (h:xF c p=some s):xF c (p++q)=xF s q:=by
 induction p generalizing c with
 |nil=>grind[xF]
 |cons i p ih=>
  cases c<;>simp only[xF,reduceCtorEq,List.cons_append]at h ⊢
  case seq a b=>grind
  all_goals grind
theorem YI {f n:Nat} {code s:Code} {pos q:List Nat} (h:∃fn bd,P.funcs[f]? =some fn∧fn.body=some bd∧fn.ntmps=n∧xF bd pos=some code) (hs:xF code q=some s) :
  ∃fn bd,P.funcs[f]? =some fn∧fn.body=some bd∧fn.ntmps=n∧xF bd (pos++q)=some s:=by
 grind[qGH]
end Go.Ae
namespace Go.Ae
open Go
variable {P:Program} {c:CV}
theorem St.join {m:Mp} {D:Nat→Prop} {h:AH} {w:World} {n:Nat} {ds:List Nat} {a:Act} {tm:PT AV} {rd rc:Option Nat} (s:St P m D h w n ds a tm rd rc) {L:List Nat} (hh:yv tm L=true) :
  St P m D h w n ds a (kM L (wb L tm) .e) rd rc:=⟨s.rel,s.tm.join L hh,s.df,s.rd⟩
theorem qXu (hc:y9 P c) (hd:NX P c) {f n:Nat} {rd:Option Nat} {N id:Nat} {ops:Array Oper} {d:Bool}:QG P N c f n rd (.region id ops d):=by
 intro rc nn Q r pos pl tm h ds k m D w a S _ e hk;simp only[wE]at e;cases d with
 |true=>simp only[cE]at e;refine hd n nn ops (HM pl) rc Q r id m D h w a tm _ S.rel S.tm e ?_;intro m' D' h' w' a' tm' O e';exact hk .normal m' D' h' w' a' tm' ds O.ext (S.Aq O) e'
 |false=>
  simp only[cE]at e;refine wpIn_region ?_;have hr:List.range ops.size=List.range' 0 ops.toList.length:=by simp[List.range_eq_range']
  rw[hr];refine jZe (ds:=a.defers) hc _ ops.toList 0 (HM pl) m D h w a tm _ (λi o hi=>by grind) S.rel S.tm rfl e ?_;intro m' D' h' w' a' tm' O e';exact hk .normal m' D' h' w' a' tm' ds O.ext (S.Aq O) e'
theorem qgu {f n N:Nat} {rd:Option Nat} {x y:Code} (hx:QG P N c f n rd x) (hy:QG P N c f n rd y):QG P N c f n rd (.seq x y):=by
 intro rc nn Q r pos pl tm h ds k m D w a S dw e hk;simp only[wE]at e;have rJ:=YI (q:=[0]) dw (s:=x) (by simp[xF]);have Ih:=YI (q:=[1]) dw (s:=y) (by simp only[xF];rfl);refine wpIn_seq ?_;cases hL:Ad pl with
 |some L=>
  simp only[hL,yc]at e;refine hx rc nn _ r (pos++[0]) (nZ pl) tm h ds _ m D w a S rJ e ?_;intro z m1 D1 h1 w1 a1 cN ds1 X1 S1 e1;cases z with
  |normal=>simp only[zW]at e1;obtain⟨cQ,e1⟩:=e1;refine hy rc nn Q r (pos++[1]) (Ac pl) _ h1 ds1 k m1 D1 w1 a1 (S1.join cQ) Ih e1 ?_;intro z2 m2 D2 h2 w2 a2 Bu Ar X2 S2 e2;exact hk z2 m2 D2 h2 w2 a2 Bu Ar (X1.trans X2) S2 e2
  |exit i=>exact hk (.exit i) m1 D1 h1 w1 a1 cN ds1 X1 S1 e1
  |goto i=>exact hk (.goto i) m1 D1 h1 w1 a1 cN ds1 X1 S1 e1
  |ret=>exact hk .ret m1 D1 h1 w1 a1 cN ds1 X1 S1 e1
 |none=>
  simp only[hL]at e;refine hx rc nn _ r (pos++[0]) (nZ pl) tm h ds _ m D w a S rJ e ?_;intro z m1 D1 h1 w1 a1 cN ds1 X1 S1 e1;cases z with
  |normal=>refine hy rc nn Q r (pos++[1]) (Ac pl) _ h1 ds1 k m1 D1 w1 a1 S1 Ih e1 ?_;intro z2 m2 D2 h2 w2 a2 Bu Ar X2 S2 e2;exact hk z2 m2 D2 h2 w2 a2 Bu Ar (X1.trans X2) S2 e2
  |exit i=>exact hk (.exit i) m1 D1 h1 w1 a1 cN ds1 X1 S1 e1
  |goto i=>exact hk (.goto i) m1 D1 h1 w1 a1 cN ds1 X1 S1 e1
  |ret=>exact hk .ret m1 D1 h1 w1 a1 cN ds1 X1 S1 e1
theorem qqL {f n N:Nat} {rd:Option Nat} {o:Operand} {x y:Code} (hx:QG P N c f n rd x) (hy:QG P N c f n rd y):QG P N c f n rd (.cond o x y):=by
 intro rc nn Q r pos pl tm h ds k m D w a S dw e hk;simp only[wE,qg]at e;obtain⟨v,hv,e⟩:=e;have rJ:=YI (q:=[0]) dw (s:=x) (by simp[xF]);have Ih:=YI (q:=[1]) dw (s:=y) (by simp only[xF];rfl);obtain⟨h1,h2⟩:=S.tm.ev _ _ hv;rw[Tz]at e
 split at e
 ·rename_i t;refine wpIn_cond (t:=t) (by trivial) ?_;cases t with
  |true=>exact hx rc nn Q r (pos++[0]) (nZ pl) tm h ds k m D w a S rJ e hk
  |false=>exact hy rc nn Q r (pos++[1]) (Ac pl) tm h ds k m D w a S Ih e hk
 grind
theorem qKT {f n N id:Nat} {rd:Option Nat} {x:Code} (hx:QG P N c f n rd x):QG P N c f n rd (.block id x):=by
 intro rc nn Q r pos pl tm h ds k m D w a S dw e hk;simp only[wE]at e;have rJ:=YI (q:=[0]) dw (s:=x) (by simp[xF]);refine wpIn_block ?_;cases hL:Ad pl with
 |some L=>
  simp only[hL,yc]at e;refine hx rc nn _ r (pos++[0]) (nZ pl) tm h ds _ m D w a S rJ e ?_;intro z m1 D1 h1 w1 a1 cN ds1 X1 S1 e1;cases z with
  |normal=>simp only[zW]at e1;obtain⟨cQ,e1⟩:=e1;exact hk .normal m1 D1 h1 w1 a1 _ ds1 X1 (S1.join cQ) e1
  |exit i=>
   simp only[Ev,Exit.inBlock];by_cases hi:i=id
   ·subst hi;simp only[Nat.beq_refl,cE,if_true]at e1 ⊢;cases cQ:yv cN L
    ·grind
    ·rw[cQ]at e1;exact hk .normal m1 D1 h1 w1 a1 _ ds1 X1 (S1.join cQ) e1
   ·rw[iQ hi];simp only[yi hi,cE]at e1;exact hk (.exit i) m1 D1 h1 w1 a1 cN ds1 X1 S1 e1
  |goto i=>exact hk (.goto i) m1 D1 h1 w1 a1 cN ds1 X1 S1 e1
  |ret=>exact hk .ret m1 D1 h1 w1 a1 cN ds1 X1 S1 e1
 |none=>
  simp only[hL]at e;refine hx rc nn _ r (pos++[0]) (nZ pl) tm h ds _ m D w a S rJ e ?_;intro z m1 D1 h1 w1 a1 cN ds1 X1 S1 e1;cases z with
  |normal=>exact hk .normal m1 D1 h1 w1 a1 _ ds1 X1 S1 e1
  |exit i=>
   simp only[Ev,Exit.inBlock];by_cases hi:i=id
   ·subst hi;simp only[Nat.beq_refl,cE,if_true]at e1 ⊢;exact hk .normal m1 D1 h1 w1 a1 _ ds1 X1 S1 e1
   ·rw[iQ hi];simp only[yi hi,cE]at e1;exact hk (.exit i) m1 D1 h1 w1 a1 cN ds1 X1 S1 e1
  |goto i=>exact hk (.goto i) m1 D1 h1 w1 a1 cN ds1 X1 S1 e1
  |ret=>exact hk .ret m1 D1 h1 w1 a1 cN ds1 X1 S1 e1
theorem qYU {f n N:Nat} {rd:Option Nat} {x:Code} (hx:QG P N c f n rd x):QG P N c f n rd (.loop x):=by
 intro rc nn Q r pos pl tm h ds k m D w a S dw e hk;simp only[wE]at e;have rJ:=YI (q:=[0]) dw (s:=x) (by simp[xF]);cases hL:Ad pl with
 |none=>grind
 |some L=>
  simp only[hL,zW]at e;obtain⟨cQ,e⟩:=e;refine wpIn_loop_rounds N ?_;have key:∀(j:Nat) (s:tj L) (h1:AH) (ds1:List Nat) (m1:Mp) (D1:Nat→Prop) (w1:World) (a1:Act),Ext m D h w m1 D1 h1 w1→St P m1 D1 h1 w1 n ds1 a1 (kM L s .e) rd rc→
    GM (σ:=tj L) j (λih s h ds=>wE P N c f n rd x (pos++[0]) (nZ pl) (kM L s .e) h ds λx tm' h ds=>match x with
     | .normal=>cE (yv tm' L) (ih (wb L tm') h ds) none |x=>k x tm' h ds) s h1 ds1=some r→
    Code.roundsIn (FW rc) nn P x Q j a1 w1:=by
   intro j
   induction j with
   |zero=>nofun
   |succ j ih=>
    intro s h1 ds1 m1 D1 w1 a1 X1 S1 e1;rw[roundsIn_succ];refine hx rc nn _ r (pos++[0]) (nZ pl) _ h1 ds1 _ m1 D1 w1 a1 S1 rJ e1 ?_;intro z m2 D2 h2 w2 a2 Bu Ar X2 S2 e2;cases z with
    |normal=>simp only[zW]at e2;obtain⟨Ex,e2⟩:=e2;exact ih _ h2 Ar m2 D2 w2 a2 (X1.trans X2) (S2.join Ex) e2
    |exit i=>exact hk (.exit i) m2 D2 h2 w2 a2 Bu Ar (X1.trans X2) S2 e2
    |goto i=>exact hk (.goto i) m2 D2 h2 w2 a2 Bu Ar (X1.trans X2) S2 e2
    |ret=>exact hk .ret m2 D2 h2 w2 a2 Bu Ar (X1.trans X2) S2 e2
  exact key N _ h ds m D w a (Ext.refl ..) (S.join cQ) e
end Go.Ae
namespace Go.Ae
open Go
variable {P:Program} {c:CV}
theorem jQr {F:Fence} {n:Nat} {Q:Exit→Act→World→Prop} {a:Act} {w:World} (x:AX) (h:Q (Ev x) a w):(kY x).wpIn F n P Q a w:=by
 cases x with
 |normal=>exact wpIn_skip h
 |exit i=>exact wpIn_exit h
 |goto l=>exact wpIn_goto h
 |ret=>exact wpIn_ret h
theorem jK0 {x y:AX} (h:CK x y=true):x=y:=by
 cases x<;>cases y<;>simp only[CK,Bool.false_eq_true]at h ⊢ <;>exact congrArg _ (zE h)
theorem qGI {y:AX} {k:AX→R} {r:AV×AH}:∀{l:List AX},Vc (some y) k l=some r→k y=some r:=by
 intro l
 induction l with
 |nil=>simp
 |cons x l ih=>
  intro e;simp only[Vc,CM]at e;grind[CK,jK0]
theorem qK5 (L:List Nat) (tm:PT AV):(kf L tm).length=L.length:=by
 induction L with
 |nil=>rfl
 |cons t L ih=>grind[kf]
theorem qq0 {m:Mp} {D:Nat→Prop} {n:Nat} {a:Act} {tm:PT AV} (T:eJ m D n a tm):∀{L:List Nat},yv tm L=true→ba D (kf L tm)∧∀p∈L.zip (kf L tm),a.tmps[p.1]? =some (cv m p.2):=by
 intro L
 induction L with
 |nil=>intro _;exact⟨trivial,λp hp=>by cases hp⟩
 |cons t L ih=>
  intro h;simp only[yv,Bool.and_eq_true]at h;obtain⟨h1,h2⟩:=ih h.2;have h0:=h.1;unfold has at h0
  split at h0
  ·rename_i v hv;obtain⟨g1,g2⟩:=T.at_ t v hv;simp only[kf,hv,ba,List.zip_cons_cons,List.mem_cons];grind
  grind
theorem NV (hc:y9 P c) {f n nn:Nat} {rd rc:Option Nat} {g:Operand} {ps:Array Tmp} {assign body:Code} {Q:Exit→Act→World→Prop} {r:AV×AH} {pos:List Nat}
  {tm:PT AV} {h:AH} {ds:List Nat} {k:AX→PT AV→AH→List Nat→R} {m:Mp} {D:Nat→Prop} {w:World} {a:Act} (S:St P m D h w n ds a tm rd rc)
  (dw:∃fn bd,P.funcs[f]? =some fn∧fn.body=some bd∧fn.ntmps=n∧xF bd pos=some (.rangeFunc g ps assign body))
  {vf:AV} (An:ev tm g=some vf) {L:List Nat} (cQ:yv tm L=true)
  (hk:∀x m' D' h' w' a' tm' Ew,Ext m D h w m' D' h' w'→St P m' D' h' w' n Ew a' tm' rd rc→k x tm' h' Ew=some r→Q (Ev x) a' w')
  {d:Nat} {h1:AH} {ds1:List Nat} {m1:Mp} {D1:Nat→Prop} {w1:World} {mark:List Deferred}
  (X1:Ext m D h w m1 D1 h1 w1) (R1:Rel P m1 D1 h1 w1) (hd:D1 d) (pW:pA m1 D1 ds1 (mark++a.defers))
  (Wb:∀fn,(Instr.enterLoop fn a.tmps ps assign body rc).run P w=.ok (w1.heap.size,mark) (w1.alloc (.loop { state:=.ready,pending:=none,fn,tmps:=a.tmps,params:=ps,assign,body,defers:=(m1 d).1 })))
  (e:YT c vf [.yield h1.nx] (h1.new (.loop .ready none f pos L (kf L tm) d)) (λ_ h2=>
    wQ h2 h1.nx λp h3=>GN p (k .normal tm h3 ds1) (Vc p (λx=>k x tm h3 ds1) (Yy body [])))=some r) :
  (Code.rangeFunc g ps assign body).wpIn (FW rc) nn P Q a w:=by
 refine wpIn_rangeFunc ?_;intro fn _;obtain⟨fnn,bd,Wc,Wd,We,hf4⟩:=dw;have T1:=S.tm.mono X1;obtain⟨l1,l2⟩:=qq0 T1 cQ;obtain⟨o,ho⟩:∃o,o=Obj.loop { state:=.ready,pending:=none,fn,tmps:=a.tmps,params:=ps,assign,body,defers:=(m1 d).1 }:=⟨_,rfl⟩;have rT:dr P m1 (.loop .ready none f pos L (kf L tm) d) (w1.heap.size,0) (w1.alloc o):=by
  refine⟨fn,a.tmps,ps,g,assign,body,fnn,bd,?_,Wc,Wd,hf4,?_,(qK5 L tm).symm,l2⟩
  ·grind[World.alloc_heap_new]
  ·rw[We];exact S.tm.size
 obtain⟨m2,D2,X2,R2,L3,L4⟩:∃(m2:Mp) (D2:Nat→Prop),Ext m1 D1 h1 w1 m2 D2 (h1.new (.loop .ready none f pos L (kf L tm) d)) (w1.alloc o)∧
   Rel P m2 D2 (h1.new (.loop .ready none f pos L (kf L tm) d)) (w1.alloc o)∧(m2 h1.nx).1=w1.heap.size∧D2 h1.nx:=by
  have hn:=R1.new (w0:=w1.alloc o) (.loop .ready none f pos L (kf L tm) d) o 0 rfl rfl rfl rfl ⟨l1,hd⟩ rT;grind
 generalize h1.new (.loop .ready none f pos L (kf L tm) d)=hh at*;unfold YT at e
 split at e
 rotate_left
 ·grind
 rename_i f0 first cap
 rw[JD]at e
 split at e
 rotate_left
 ·grind
 rename_i q hq;have T2:=T1.mono X2;obtain⟨v1,v2⟩:=T2.ev _ _ An;have dI:=hc _ _ _ q hq m2 D2 (w1.alloc o) R2 v2 ⟨L4,trivial⟩;obtain⟨k1,k2⟩:=dI;simp only[cv]at v1;have hy:aW m2 [.yield h1.nx]=[.func (.yield w1.heap.size) #[] #[]]:=by grind[aW,cv]
 refine⟨w1.heap.size,mark,w1.alloc o,{ target:=.fn (.func f0) (aW m2 cap).toArray,args:=(aW m2 first).toArray++ #[.func (.yield w1.heap.size) #[] #[]] },w1.alloc o,f0,
  (aW m2 (first++[.yield h1.nx]++cap)).toArray,w1.alloc o,?_,?_,λ_ _=>trivial,?_,(λhh=>by cases hh),?_⟩
 ·rw[ho];exact Wb fn
 ·unfold resolve rangeCall;simp only[v1];simp[Act.eval,go_sem]
 ·show(callFunc f0 ((aW m2 first).toArray++ #[.func (.yield w1.heap.size) #[] #[]]++(aW m2 cap).toArray)).run P _=_;grind[Yt]
 ·refine CallsIn.mono (show CallsIn (FW rc) (nn-1) P f0 _ _ _ from k2 (nn-1)) ?_;rintro ee w3 ⟨m3,D3,rfl,X3,R3,hd3⟩
  replace e:wQ q.2 h1.nx (λp h3=>GN p (k .normal tm h3 ds1) (Vc p (λx=>k x tm h3 ds1) (Yy body [])))=some r:=e
  unfold wQ at e
  split at e
  rotate_left
  ·grind
  rename_i st cj f' pos' L' Ey d' cO;have mJ:D3 h1.nx:=X3.rE _ L4;obtain⟨x3,L5,hr3,hi3⟩:=R3.bp _ mJ;rw[cO]at L5;cases L5;obtain⟨fq,tq,pq,gq,aq,bq,Wf,Wg,bI,q1,q2,q3,q4,q5,q6⟩:=hr3;have tA:(m3 h1.nx).1=w1.heap.size:=by rw[X3.map _ L4];grind
  rw[tA]at bI;have bZ:st≠.busy:=by grind
  have e':GN cj (k .normal tm (q.2.put h1.nx (.loop .exhausted cj f' pos' L' Ey d')) ds1) (Vc cj (λx=>k x tm (q.2.put h1.nx (.loop .exhausted cj f' pos' L' Ey d')) ds1) (Yy body []))=some r:=by
   grind
  clear e;have bF:=(Array.getElem?_eq_some_iff.1 bI).1;obtain⟨X4,R4⟩:=R3.put (w0:=w3.putObj w1.heap.size (.loop { state:=.exhausted,pending:=cj.map kY,fn:=fq,tmps:=tq,params:=pq,assign:=aq,body:=bq,defers:=(m3 d').1 })) h1.nx (.loop .exhausted cj f' pos' L' Ey d') mJ
   ⟨_,cO,trivial⟩ aS (λcc fH=>World.putObj_heap_other (by grind)) rfl rfl rfl hi3
   ⟨fq,tq,pq,gq,aq,bq,Wf,Wg,by grind[World.putObj_heap_same],q1,q2,q3,q4,q5,q6⟩
  refine⟨cj.map kY,_,run_endLoop bI bZ,?_⟩;have XX:=((X1.trans X2).trans X3).trans X4;have SS:St P m3 D3 (q.2.put h1.nx (.loop .exhausted cj f' pos' L' Ey d')) (w3.putObj w1.heap.size (.loop { state:=.exhausted,pending:=cj.map kY,fn:=fq,tmps:=tq,params:=pq,assign:=aq,body:=bq,defers:=(m3 d').1 })) n ds1
    { a with defers:=mark++a.defers } tm rd rc:=⟨R4,⟨(T2.mono (X3.trans X4)).size,(T2.mono (X3.trans X4)).at_⟩,((pW.mono X2).mono X3).mono X4,S.rd.mono XX⟩
  cases cj with
  |none=>exact hk .normal _ _ _ _ _ _ _ XX SS e'
  |some y=>exact jQr y (hk y _ _ _ _ _ _ _ XX SS (qGI e'))
theorem qVf (hc:y9 P c) {f n N:Nat} {rd:Option Nat} {g:Operand} {ps:Array Tmp} {assign body:Code}:QG P N c f n rd (.rangeFunc g ps assign body):=by
 intro rc nn Q r pos pl tm h ds k m D w a S dw e hk;simp only[wE,qg]at e;obtain⟨vf,An,e⟩:=e;cases hL:Ad pl with
 |none=>grind
 |some L=>
  simp only[hL,zW]at e;obtain⟨cQ,e⟩:=e;cases rd with
  |none=>
   have Ii:=S.rd;simp only[rS]at Ii;subst Ii;have hn:=S.rel.new (w0:=w.alloc (.deferred (some []))) .lH (.deferred (some [])) 0 rfl rfl rfl rfl trivial (World.alloc_heap_new _ _);obtain⟨X,R⟩:=hn;refine NV hc S dw An cQ hk X R (d:=h.nx) (.inl rfl) (ds1:=h.nx::ds) (mark:=[Um w.heap.size]) ?_ ?_ e
   ·have:=S.df.mono X;refine⟨λb hb=>?_,?_⟩
    ·rcases List.mem_cons.1 hb with rfl |hb
     ·simp
     ·exact this.1 b hb
    ·rw[this.2];simp
   simp[Um,run_enterLoop_outer]
  |some l0=>
   obtain⟨mV,Ii⟩:=S.rd;subst Ii;unfold HL at e;simp only at e
   split at e
   rotate_left
   ·grind
   rename_i st cj f' pos' L' Ey d cO;obtain⟨x,hx,mS,pY⟩:=S.rel.bp _ mV;rw[cO]at hx;cases hx;obtain⟨fq,tq,pq,gq,aq,bq,Wf,Wg,bI,_⟩:=mS;refine NV hc S dw An cQ hk (Ext.refl ..) S.rel (d:=d) pY.2 (ds1:=ds) (mark:=[]) S.df ?_ e;simp_all[run_enterLoop_inner]
theorem L6 (hc:y9 P c) (hd:NX P c) (N f n:Nat) (rd:Option Nat) (code:Code):QG P N c f n rd code:=by
 induction code with
 |skip=>intro rc nn Q r pos pl tm h ds k m D w a S _ e hk;exact wpIn_skip (hk .normal m D h w a tm ds (Ext.refl ..) S e)
 |region id ops d=>grind[qXu]
 |seq x y hx hy=>grind[qgu]
 |cond o x y hx hy=>grind[qqL]
 |block id x hx=>grind[qKT]
 |loop x hx=>grind[qYU]
 |exit id=>intro rc nn Q r pos pl tm h ds k m D w a S _ e hk;exact wpIn_exit (hk (.exit id) m D h w a tm ds (Ext.refl ..) S e)
 |label l=>intro rc nn Q r pos pl tm h ds k m D w a S _ e hk;exact wpIn_label (hk .normal m D h w a tm ds (Ext.refl ..) S e)
 |goto l=>intro rc nn Q r pos pl tm h ds k m D w a S _ e hk;exact wpIn_goto (hk (.goto l) m D h w a tm ds (Ext.refl ..) S e)
 |ret=>intro rc nn Q r pos pl tm h ds k m D w a S _ e hk;exact wpIn_ret (hk .ret m D h w a tm ds (Ext.refl ..) S e)
 |rangeFunc g ps x y hx hy=>grind[qVf]
 |_=>intro rc nn Q r pos pl tm h ds k m D w a S _ e hk;grind
end Go.Ae
namespace Go.Ae
open Go
variable {P:Program} {c:CV} {m:Mp} {D:Nat→Prop} {h h':AH} {w:World}
def YL (tmps:Array Value):ResultVar→Sem Value
 | .tmp t=>pure (tmps.getD t undef)
 | .cell a t=>do loadVar t (← asAddr (tmps.getD a undef))
theorem qYO (RR:Rel P m D h w) {t:TypeId} {v:AV} (hd:bu D v) (hi:Qw P t=some none) {k:AV→R} {r:AV×AH} (e:ja h v k=some r) :
  ∃z,k z=some r∧bu D z∧(do loadVar t (← asAddr (cv m v)):Sem Value).run P w=.ok (cv m z) w:=by
 rcases Qq hi with⟨_,mI⟩ |⟨n,hn,_,_⟩
 rotate_left
 ·grind
 simp only[gM]at e
 split at e
 ·rename_i b off
  split at e
  ·rename_i cs t' op' hg;simp only[qg]at e;obtain⟨z,hz,e⟩:=e;obtain⟨z1,z2⟩:=RR.Ai hd hg hz;refine⟨z,e,z2,?_⟩;simp only[cv];rw[qV (show(asAddr (.pointer (some ⟨(m b).1,off,none⟩))).run P w=.ok ⟨(m b).1,off,none⟩ w from rfl)];simp_all[loadVar,wP]
  ·rename_i ti hg;simp only[qg]at e;obtain⟨z,hz,e⟩:=e;obtain⟨z1,z2⟩:=RR.rG hd hg hz;refine⟨z,e,z2,?_⟩;simp only[cv];rw[qV (show(asAddr (.pointer (some ⟨(m b).1,off,none⟩))).run P w=.ok ⟨(m b).1,off,none⟩ w from rfl)];simp_all[loadVar,wP]
  grind
 grind
theorem qqI (RR:Rel P m D h w) {t:TypeId} {v:AV} {n:Nat} (hd:bu D v) (hi:Qw P t=some (some n)) {k:AV→R} {r:AV×AH} (e:xH h v n k=some r) :
  ∃z,k z=some r∧bu D z∧(do loadVar t (← asAddr (cv m v)):Sem Value).run P w=.ok (cv m z) w:=by
 rcases Qq hi with⟨hn,_⟩ |⟨n',hn,mI,bF⟩
 ·grind
 cases hn;simp only[QK]at e
 split at e
 ·rename_i b off;simp only[qg]at e;obtain⟨z,hz,e⟩:=e;obtain⟨z1,z2,z3⟩:=RR.read hd hz;refine⟨.agg z,e,z2,?_⟩;simp only[cv];rw[qV (show(asAddr (.pointer (some ⟨(m b).1,off,none⟩))).run P w=.ok ⟨(m b).1,off,none⟩ w from rfl)];simp_all[loadVar,wP,run_sizeOf]
 grind
theorem jKB (RR:Rel P m D h w) {n:Nat} {a:Act} {tm:PT AV} (T:eJ m D n a tm) {r:AV×AH}:∀(l:List ResultVar) (k:List AV→R),MQ P tm h l k=some r→
  ∃vs,k vs=some r∧ba D vs∧(l.mapM (YL a.tmps)).run P w=.ok (aW m vs) w:=by
 intro l
 induction l with
 |nil=>intro k e;exact⟨[],e,trivial,by rfl⟩
 |cons x l ih=>
  intro k e;cases x with
  |tmp t=>
   simp only[MQ,qg]at e;obtain⟨v,hv,e⟩:=e;obtain⟨vs,e1,e2,e3⟩:=ih _ e;obtain⟨h1,h2⟩:=T.at_ t v hv;refine⟨v::vs,e1,⟨h2,e2⟩,?_⟩;rw[List.mapM_cons];have:(YL a.tmps (.tmp t)).run P w=.ok (cv m v) w:=by simp_all[YL,Array.getD_eq_getD_getElem?,Option.getD_some]
   rw[qV this,qV e3];rfl
  |cell x t=>
   simp only[MQ,qg]at e;obtain⟨v,hv,i,hi,e⟩:=e;obtain⟨h1,h2⟩:=T.at_ x v hv;have key:∃z,MQ P tm h l (λl=>k (z::l))=some r∧bu D z∧(YL a.tmps (.cell x t)).run P w=.ok (cv m z) w:=by
    simp only[YL,Array.getD_eq_getD_getElem?,h1,Option.getD_some];grind[qYO,qqI]
   obtain⟨z,e,z1,z2⟩:=key;obtain⟨vs,e1,e2,e3⟩:=ih _ e;refine⟨z::vs,e1,⟨z1,e2⟩,?_⟩;rw[List.mapM_cons,qV z2,qV e3];rfl
theorem jVI (m:Mp) (l:List AV):(if h:(aW m l).toArray.size=1 then(aW m l).toArray[0]else .tuple (aW m l).toArray)=cv m (lM l):=by
 match l with
 |[]=>rfl
 |[v]=>rfl
 |v::u::l=>rfl
theorem qVN (RR:Rel P m D h w) {fn:Func} {n:Nat} {a:Act} {tm:PT AV} (T:eJ m D n a tm) {r:AV×AH} (e:MQ P tm h fn.results.toList (λl=>some (lM l,h))=some r) :
  ∃v,r=(v,h)∧bu D v∧(results fn a.tmps).run P w=.ok (cv m v) w:=by
 obtain⟨vs,e1,e2,e3⟩:=jKB RR T _ _ e;simp only[Option.some.injEq]at e1;refine⟨lM vs,e1.symm,?_,?_⟩
 ·unfold lM
  split
  ·exact e2.1
  trivial
 ·have hm:(fn.results.mapM (YL a.tmps)).run P w=.ok (aW m vs).toArray w:=by
   simp_all[Array.mapM_eq_mapM_toList]
  show((fn.results.mapM (YL a.tmps))>>=λvs=>pure (if h:vs.size=1 then vs[0]else .tuple vs)).run P w=_;rw[qV hm];show Result.ok _ w=_;rw[jVI]
end Go.Ae
namespace Go.Ae
open Go
variable {P:Program} {c:CV} {m:Mp} {D:Nat→Prop} {h h':AH} {w:World}
theorem Wh {fn:Func} {a:Act} {tm:PT AV} {m0:Mp} {D0:Nat→Prop} {h0:AH} {w0:World} {r:AV×AH} {nn n:Nat} :
  ∀(ds:List Nat) (l:List Deferred) (m:Mp) (D:Nat→Prop) (h:AH) (w:World),Rel P m D h w→Ext m0 D0 h0 w0 m D h w→eJ m D n a tm→pA m D ds l→
   xL ds h (λh'=>MQ P tm h' fn.results.toList λl=>some (lM l,h'))=some r→
   LeavesInM Fence.wide nn P fn a.tmps (JQ P m0 D0 h0 w0 r) l .returning w:=by
 intro ds
 induction ds with
 |nil=>
  intro l m D h w RR X T df e;have:l=[]:=by rw[df.2];rfl
  subst this;obtain⟨v,rfl,v1,v2⟩:=qVN RR T e;exact⟨cv m v,v2,m,D,rfl,X,RR,v1⟩
 |cons d ds ih=>
  intro l m D h w RR X T df e;have hl:l=Um (m d).1::ds.map (λd=>Um (m d).1):=df.2;subst hl;have hd:=df.1 d (iK ..);simp only[xL]at e
  split at e
  rotate_left
  ·grind
  rename_i hg;obtain⟨x,hx,mS,pY⟩:=RR.bp d hd;rw[hg]at hx;cases hx;have hb:w.heap[(m d).1]? =some (.deferred (some [])):=mS;have bF:=(Array.getElem?_eq_some_iff.1 hb).1;obtain⟨X2,R2⟩:=RR.put (w0:=w.putObj (m d).1 (.deferred none)) d .pd hd ⟨_,hg,trivial⟩ aS (λc hc=>World.putObj_heap_other hc) rfl rfl rfl trivial
   ⟨_,World.putObj_heap_same bF⟩
  refine⟨by simp,.inl ⟨(m d).1,_,rfl,run_takeDeferred hb,?_⟩⟩;exact ih _ m D _ _ R2 (X.trans X2) (T.mono X2) ⟨λb hb=>df.1 b (iX _ hb),rfl⟩ e
theorem qxA:∀(l:List AV) (i:Nat) (t:PT AV) (j:Nat),(CN l i t).get j=if i≤j∧j<i+l.length then l[j-i]? else t.get j:=by
 intro l
 induction l with
 |nil=>simp[CN,List.length_nil,iQ,omQ]
 |cons a l ih=>
  intro i t j;simp only[CN,ih,List.length_cons];by_cases h1:i+1≤j∧j<i+1+l.length
  ·grind
  ·rw[iQ h1,PT.bP];grind
theorem qwr (hc:y9 P c) (hd:NX P c) {N:Nat} {pl:Pl} {f:FuncId} {args:List AV} {r:AV×AH} (e:xh P N pl c f args h=some r) (RR:Rel P m D h w) (ha:ba D args) (nn:Nat) :
  CallsIn Fence.wide nn P f (aW m args).toArray w (JQ P m D h w r):=by
 simp only[xh,qg]at e;obtain⟨fn,hf,b,hb,e⟩:=e;refine callsIn_of_wp_marks hf hb trivial ?_;have T:eJ m D fn.ntmps { tmps:=(aW m args).toArray++Array.replicate (fn.ntmps-(aW m args).toArray.size) undef,defers:=[] } (CN args 0 .e):=by
  refine⟨by grind,?_⟩;intro t v hv;rw[qxA]at hv
  split at hv
  ·rename_i ht;simp only[Nat.sub_zero]at hv;have hm:=List.mem_of_getElem? hv;simp_all[x8,Array.getElem?_append_left,xK]
  trivial
 refine L6 hc hd N f fn.ntmps none b none nn _ r [] pl _ h [] _ m D w _ ⟨RR,T,⟨λb hb=>(by grind),rfl⟩,rfl⟩ ⟨fn,b,hf,hb,rfl,by simp[xF]⟩ e ?_;intro x m1 D1 h1 w1 a1 cN ds1 X1 S1 e1;cases x with
 |normal=>exact Wh ds1 _ m1 D1 h1 w1 S1.rel X1 S1.tm S1.df e1
 |ret=>exact Wh ds1 _ m1 D1 h1 w1 S1.rel X1 S1.tm S1.df e1
 |exit i=>grind
 |goto l=>grind
theorem jQO {m:Mp} {D:Nat→Prop} {n:Nat} {a:Act} {k:PT AV→R} {r:AV×AH}:∀(L:List Nat) (vs:List AV) (t:PT AV),eJ m D n a t→(∀p∈L.zip vs,a.tmps[p.1]? =some (cv m p.2))→ba D vs→
  tT L vs t k=some r→∃t',k t'=some r∧eJ m D n a t':=by
 intro L
 induction L with
 |nil=>
  intro vs t T hz hd e;cases vs with
  |nil=>grind
  |cons v vs=>grind
 |cons x L ih=>
  intro vs t T hz hd e;cases vs with
  |nil=>grind
  |cons v vs=>
   simp only[tT]at e;refine ih vs _ ?_ (λp hp=>hz p (iX _ hp)) hd.2 e;refine⟨T.size,?_⟩;intro s u hs;rw[PT.bP]at hs;by_cases hx:x=s
   ·subst hx;rw[iJ rfl]at hs;cases hs;exact⟨hz (x,v) (iK ..),hd.1⟩
   ·rw[iQ hx]at hs;exact T.at_ s u hs
theorem qvt {m:Mp} {D:Nat→Prop} {n:Nat} {k:PT AV→R} {r:AV×AH}:∀(ps:List Tmp) (vs:List AV) (t:PT AV) (tmps:Array Value),eJ m D n { tmps,defers:=[] } t→ba D vs→
  HO ps vs n t k=some r→ps.length=vs.length∧∃t',k t'=some r∧eJ m D n { tmps:=(ps.zip (aW m vs)).foldl (λtmps (p:Tmp×Value)=>tmps.setIfInBounds p.1 p.2) tmps,defers:=[] } t':=by
 intro ps
 induction ps with
 |nil=>
  intro vs t tmps T hd e;cases vs with
  |nil=>exact⟨rfl,t,e,T⟩
  |cons v vs=>grind
 |cons p ps ih=>
  intro vs t tmps T hd e;cases vs with
  |nil=>grind
  |cons v vs=>
   simp only[HO,zW]at e;obtain⟨hp,e⟩:=e;have hp:=zL hp;have T':eJ m D n { tmps:=tmps.setIfInBounds p (cv m v),defers:=[] } (t.set p v):=by
    refine⟨by simpa using T.size,?_⟩;intro s u hs;rw[PT.bP]at hs;by_cases hx:p=s
    ·subst hx;rw[iJ rfl]at hs;cases hs;have:=T.size;simp only[]at this;refine⟨?_,hd.1⟩;grind
    ·rw[iQ hx]at hs;obtain⟨h1,h2⟩:=T.at_ s u hs;grind
   obtain⟨h1,t',h2,h3⟩:=ih vs _ _ T' hd.2 e;exact⟨by grind,t',h2,h3⟩
end Go.Ae
namespace Go.Ae
open Go
variable {P:Program} {c:CV} {m:Mp} {D:Nat→Prop} {h h':AH} {w:World}
theorem Zs {m0:Mp} {D0:Nat→Prop} {h0:AH} {w0:World} {r:AV×AH} {l:Nat} {lc:Nat} {rd rc:Option Nat} {n:Nat} {ds:List Nat} {a:Act} {tm:PT AV} {j:Option AX}
  (S:St P m D h w n ds a tm rd rc) (X:Ext m0 D0 h0 w0 m D h w) (hl:D l) (L7:(m l).1=lc) (e:yI h l j=some r) :
  ∃v w',(Instr.endRound lc (j.map kY)).run P w=.ok v w'∧JQ P m0 D0 h0 w0 r (.returned v) w':=by
 subst L7;unfold yI at e
 split at e
 rotate_left
 ·grind
 rename_i st cj f p L vs d hg;obtain⟨x,hx,mS,pY⟩:=S.rel.bp l hl;rw[hg]at hx;cases hx;obtain⟨f',tmps,ps,g,assign,body,fn,bd,q1,q2,q3,q4,q5,q6,q7⟩:=mS;have bF:=(Array.getElem?_eq_some_iff.1 q1).1;have he:=run_endRound (P:=P) (j.map kY) q1;refine⟨_,_,he,?_⟩;cases j with
 |none=>
  simp only[Option.some.injEq]at e;obtain⟨X2,R2⟩:=S.rel.put (w0:=w.putObj (m l).1 (.loop { state:=.ready,pending:=none,fn:=f',tmps:=tmps,params:=ps,assign:=assign,body:=body,defers:=(m d).1 })) l
   (.loop .ready none f p L vs d) hl ⟨_,hg,trivial⟩ aS (λc hc=>World.putObj_heap_other hc) rfl rfl rfl pY
   ⟨f',tmps,ps,g,assign,body,fn,bd,World.putObj_heap_same bF,q2,q3,q4,q5,q6,q7⟩
  subst e;exact⟨m,D,rfl,X.trans X2,R2,trivial⟩
 |some y=>
  simp only[Option.some.injEq]at e;obtain⟨X2,R2⟩:=S.rel.put (w0:=w.putObj (m l).1 (.loop { state:=.done,pending:=some (kY y),fn:=f',tmps:=tmps,params:=ps,assign:=assign,body:=body,defers:=(m d).1 })) l
   (.loop .done (some y) f p L vs d) hl ⟨_,hg,trivial⟩ aS (λc hc=>World.putObj_heap_other hc) rfl rfl rfl pY
   ⟨f',tmps,ps,g,assign,body,fn,bd,World.putObj_heap_same bF,q2,q3,q4,q5,q6,q7⟩
  subst e;exact⟨m,D,rfl,X.trans X2,R2,trivial⟩
theorem qx9 (hc:y9 P c) (hd:NX P c) {N:Nat} {pl:Pl} {f:FuncId} {pos L:List Nat} {l:Nat} {vs args:List AV} {r:AV×AH} {st:LoopState} {cj:Option AX} {d:Nat}
  (hg:h.get l=some (.loop st cj f pos L vs d)) (e:NR P N pl c f pos L l vs args h=some r) (RR:Rel P m D h w) (hl:D l) (ha:ba D args):Ig P m D h w args r (.yield l):=by
 obtain⟨x,hx,mS,pY⟩:=RR.bp l hl;rw[hg]at hx;cases hx;obtain⟨f',tmps,ps,g,assign,body,fn,bd,q1,q2,q3,q4,q5,q6,q7⟩:=mS;simp only[NR,qg]at e;obtain⟨Ij,Ik,L8,bJ,s,hs,e⟩:=e;rw[q2]at Ik;cases Ik;rw[q3]at bJ;cases bJ;rw[q4]at hs;cases hs;simp only[]at e;have T0:eJ m D fn.ntmps { tmps:=tmps,defers:=[] } .e:=⟨q5,λt v hv=>by trivial⟩;obtain⟨Lo,e,T1⟩:=jQO L vs .e T0 q7 pY.1 e;obtain⟨hlen,cN,e,T2⟩:=qvt ps.toList args Lo tmps T1 ha e;have bF:(aW m args).toArray.size=ps.size:=by simp_all
 have hy:=run_yield (P:=P) (args:=(aW m args).toArray) q1 bF;refine⟨f',_,assign,body,hy,?_⟩;intro nn;have Ez:(ps.zip (aW m args).toArray).foldl (λtmps (x:Tmp×Value)=>tmps.setIfInBounds x.1 x.2) tmps=(ps.toList.zip (aW m args)).foldl (λtmps (x:Tmp×Value)=>tmps.setIfInBounds x.1 x.2) tmps:=by rw[← Array.foldl_toList,Array.toList_zip]
 refine roundIn_of_wpIn trivial ?_;simp only[];have Bv:(ps.zip (aW m args).toArray).foldl (λtmps (x:Tmp×Value)=>match x with |(t,a)=>tmps.setIfInBounds t a) tmps=(ps.toList.zip (aW m args)).foldl (λtmps (x:Tmp×Value)=>tmps.setIfInBounds x.1 x.2) tmps:=Ez;rw[Bv];have dw:∃Ij L8,P.funcs[f]? =some Ij∧Ij.body=some L8∧Ij.ntmps=fn.ntmps∧xF L8 pos=some (.rangeFunc g ps assign body):=⟨fn,bd,q2,q3,rfl,q4⟩;have L9:=YI (q:=[0]) dw (s:=assign) (by simp[xF]);have Pa:=YI (q:=[1]) dw (s:=body) (by simp only[xF];rfl);refine L6 hc hd N f fn.ntmps (some l) assign (some (m l).1) nn _ r (pos++[0]) (nZ pl) _ h [] _ m D w _ ⟨RR,T2,⟨λb hb=>(by grind),rfl⟩,⟨hl,rfl⟩⟩ L9 e ?_;intro x m1 D1 h1 w1 a1 cN ds1 X1 S1 e1;cases x with
 |exit i=>grind
 |goto i=>grind
 |ret=>grind
 |normal=>
  simp only[]at e1;unfold YD at e1
  split at e1
  rotate_left
  ·grind
  rename_i As f1 Pb L1 vs1 d1 ud;have tu:=X1.rE l hl;have rU:(m1 l).1=(m l).1:=by rw[X1.map l hl]
  obtain⟨x,hx,mS,Pc⟩:=S1.rel.bp l tu;rw[ud]at hx;cases hx;obtain⟨f2,Au,Wi,g2,oM,Av,fn2,bd2,p1,p2,p3,p4,p5,p6,p7⟩:=mS;rw[rU]at p1;have rP:=(Array.getElem?_eq_some_iff.1 p1).1;refine⟨_,run_beginRound p1 rfl,?_⟩;obtain⟨X2,R2⟩:=S1.rel.put (w0:=w1.putObj (m l).1 (.loop { state:=.busy,pending:=As.map kY,fn:=f2,tmps:=Au,params:=Wi,assign:=oM,body:=Av,defers:=(m1 d1).1 })) l
   (.loop .busy As f1 Pb L1 vs1 d1) tu ⟨_,ud,trivial⟩ aS (λc hc=>World.putObj_heap_other (by grind)) rfl rfl rfl Pc
   ⟨f2,Au,Wi,g2,oM,Av,fn2,bd2,by grind[World.putObj_heap_same],p2,p3,p4,p5,p6,p7⟩
  refine L6 hc hd N f fn.ntmps (some l) body (some (m l).1) nn _ r (pos++[1]) (Ac pl) _ _ ds1 _ m1 D1 _ _ ⟨R2,S1.tm.mono X2,S1.df.mono X2,S1.rd.mono X2⟩ Pa e1 ?_;intro y m3 D3 h3 w3 a3 tm3 ds3 X3 S3 e3;have XX:=(X1.trans X2).trans X3;have Il:=XX.rE l hl;have tA:(m3 l).1=(m l).1:=by rw[XX.map l hl]
  cases y with
  |normal=>exact Zs S3 XX Il tA e3
  |exit i=>exact Zs (j:=some (.exit i)) S3 XX Il tA e3
  |goto i=>exact Zs (j:=some (.goto i)) S3 XX Il tA e3
  |ret=>exact Zs (j:=some .ret) S3 XX Il tA e3
def pB (P:Program) (f:Nat) (w:WF):Prop:=∀c l h r,w c l h=some r→∀m D W,Rel P m D h W→ba D l→∀n,CallsIn Fence.wide n P f (aW m l).toArray W (JQ P m D h W r)
def WX (P:Program) (f:Nat) (w:WF):Prop:=hZ P f w∨pB P f w
structure TabOk (P:Program) (tab:BT) (rt:List RT):Prop where
  w:∀f g,tab.get f=some g→WX P f g
  enter:∀f g,tab.get f=some g→∀(as:Array Value) (W:World),(callFunc f as).run P W=.ok (.enter f as) W
  r:∀p∈rt,DO P p.f p.pos p.L p.run
theorem Wj:∀{a b:List Nat},KY a b=true→a=b:=by
 intro a
 induction a with
 |nil=>intro b h;cases b<;>first |rfl |cases h
 |cons x a ih=>
  intro b h;cases b with
  |nil=>cases h
  |cons y b=>simp only[KY,Bool.and_eq_true]at h;grind[zE]
theorem qZn:∀{rt:List RT} {f:Nat} {pos L:List Nat} {g:VF},Gm rt f pos L=some g→∃p∈rt,p.f=f∧p.pos=pos∧p.L=L∧p.run=g:=by
 intro rt
 induction rt with
 |nil=>nofun
 |cons x rt ih=>
  intro f pos L g h;simp only[Gm]at h;cases hb:Nat.beq x.f f&&(KY x.pos pos&&KY x.L L)
  ·grind
  ·rw[hb]at h;simp only[Bool.and_eq_true]at hb;simp only[cond_true,Option.some.injEq]at h;exact⟨x,iK ..,zE hb.1,Wj hb.2.1,Wj hb.2.2,h⟩
theorem WX.call {f:Nat} {g:WF} {args:List AV} {r:AV×AH} (x:WX P f g) (hc:y9 P c) (hd:NX P c) (e:g c args h=some r) (RR:Rel P m D h w) (ha:ba D args) (n:Nat):CallsIn Fence.wide n P f (aW m args).toArray w (JQ P m D h w r):=by
 rcases x with x |x
 ·obtain⟨pl,e⟩:=x _ _ _ _ e;exact qwr hc hd e RR ha n
 ·exact x _ _ _ _ e m D w RR ha n
theorem qzu {tab:BT} {rt:List RT} (ht:TabOk P tab rt) (hd:∀c,y9 P c→NX P c):∀k,y9 P (callT tab rt k):=by
 intro k
 induction k with
 |zero=>nofun
 |succ k ih=>
  intro vf args h r e m D w RR hv ha;cases vf with
  |fn f first cap=>
   have e:Option.rec (motive:=λ_=>R) none (λg=>g (callT tab rt k) (first++args++cap) h) (BT.get tab f)=some r:=e;cases hg:BT.get tab f with
   |some g=>rw[hg]at e;refine⟨ht.enter f g hg,λn=>(ht.w f g hg).call ih (hd _ ih) e RR ?_ n⟩;exact gw.2 ⟨gw.2 ⟨hv.1,ha⟩,hv.2⟩
   |none=>simp_all
  |yield l=>
   have e:(match h.get l with
    |some (.loop .ready _ f pos L vs _)=>(match Gm rt f pos L with |some g=>g (callT tab rt k) l vs args h |none=>none)
    |_=>none)=some r:=e
   split at e
   ·rename_i cj f pos L vs d hg
    split at e
    ·rename_i g hgr;obtain⟨p,hp,rfl,rfl,rfl,rfl⟩:=qZn hgr;obtain⟨pl,e⟩:=ht.r p hp _ _ _ _ _ _ e;exact qx9 ih (hd _ ih) hg e RR hv ha
    grind
   grind
  |_=>cases e
end Go.Ae
