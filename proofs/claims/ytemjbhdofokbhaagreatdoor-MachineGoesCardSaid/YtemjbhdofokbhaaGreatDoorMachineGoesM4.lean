/- Lemmas for 'quietus/quietuslaw28.MachineGoes': Threads: plain: what a step keeps;A run on a view that knows less: it asks for a word, or does the same. Plain;What a run writes lies within the heap: plain;... No condition. -/
import Derived.Test.YtemjbhdofokbhaaGreatDoorMachineGoesM3
import Derived.Test.YtemjbhdofokbhaaGreatDoorMachineGoesM2
import Derived.Test.YtemjbhdofokbhaaGreatDoorMachineGoesM1
namespace Go.Proofs.YtemjbhdofokbhaaGreatDoor
open Go Go.Ae
set_option maxRecDepth 100000
section
def uX:GT→Bool
 | .prog _=>false
 | .aE _ _=>true
structure kA (x y:qf):Prop where
  me:y.me=x.me
  set:y.set=x.set
  sw:uX y.aN=uX x.aN
theorem kA.refl (x:qf):kA x x:=⟨rfl,rfl,rfl⟩
theorem kA.trans {x y z:qf} (a:kA x y) (b:kA y z):kA x z:=⟨b.me.trans a.me,b.set.trans a.set,b.sw.trans a.sw⟩
theorem qVt (x:qf):kA x (xK x).2:=by
 unfold xK;cases hx:x.aN with
 |prog q=>exact⟨rfl,rfl,by rw[hx];rfl⟩
 |aE bs k=>exact⟨rfl,rfl,by rw[hx];rfl⟩
theorem qQi (x:qf) (k e:Int):kA x (yX x k e):=by
 unfold yX
 repeat' split
 all_goals exact⟨rfl,rfl,rfl⟩
theorem UE (x:qf):kA x (zn x):=(qVt x).trans (qQi ..)
theorem VN (x:qf):kA x (jt x):=by
 unfold jt
 split
 ·exact⟨rfl,rfl,rfl⟩
 ·split
  ·exact(kA.trans (y:={ x with r:=(gT x.r (yZ x.f)).2,v:=(xz x.v x.v.aC (xn x.f)).2 }) ⟨rfl,rfl,rfl⟩ (UE _))
  ·split<;>exact⟨rfl,rfl,rfl⟩
theorem Xa (x:qf):kA x (q8 x):=by
 have hs:∀y:qf,kA y (jV y):=λy=>by
  unfold jV
  repeat' split
  all_goals exact⟨rfl,rfl,rfl⟩
 unfold q8;refine kA.trans ?_ (hs _)
 split
 ·exact .refl x
 ·split
  ·exact⟨rfl,rfl,rfl⟩
  ·unfold jr
   split
   ·simp[VN]
   ·repeat' split
    all_goals exact⟨rfl,rfl,rfl⟩
theorem Kb (x:qf) (a:cE):kA x (qL x a):=by
 unfold qL
 split
 ·exact .refl x
 ·split
  ·exact⟨rfl,rfl,rfl⟩
  ·split
   ·exact⟨rfl,rfl,rfl⟩
   ·split
    ·exact⟨rfl,rfl,rfl⟩
    ·split
     ·simp[UE]
     ·split
      ·exact⟨rfl,rfl,rfl⟩
      ·split
       ·exact kA.trans (y:={ x with f:=jP x.f a }) ⟨rfl,rfl,rfl⟩ (Xa _)
       ·split
        ·exact kA.trans (y:={ x with c:=x.c.map λc=>qn c a }) ⟨rfl,rfl,rfl⟩ (Xa _)
        ·exact kA.trans (y:={ x with e:=zw x.e a }) ⟨rfl,rfl,rfl⟩ (Xa _)
structure ThrB (t:qd):Prop where
  set:xZ t.set
  me:0≤t.me∧t.me<t.set.ag
  aD:∀l∈t.aD,(xO l).2=0∧Quiet l
  jl:t.aD.length≤6
  aN:0≤t.aN∧t.aN≤t.aD.length
  ay:t.ay.length+t.au.length≤9000*t.results.length
  ah:t.ah.length≤6
  ak:0≤t.ak∧t.ak≤t.ao.length
  aI:0≤t.aI∧t.aI≤t.ak
  oh:t.aE=false→t.au=[]
structure QH (t:qd):Prop extends ThrB t where
  now:∀x,t.now=some x→zG x∧x.me=t.me∧x.set=t.set∧uX x.aN=t.aE
  lt:t.aN<t.aD.length
  some:t.now≠none
structure xr (t:qd):Prop where
  st:1≤t.state∧t.state≤6
  b:ThrB t
  c:t.state≠6→QH t
  fin:t.state=6→t.aN=t.aD.length∧t.now=none
  lV:(t.results.length:Int)≤t.aN+(if t.state≠6∧(t.aE=true∨t.state=5)then 1 else 0)
  Lz:t.state=5→(t.ah.length:Int)<t.set.ag∧(t.ah.length:Int)≠t.me
  A4:t.state=3→0<t.br∧t.br≤8
  Tc:t.state=2→0≤t.ch∧t.ch<t.set.ag
  LA:t.state=5→t.aE=false
variable {t:qd}
theorem ThrB.len (B:ThrB t) (h:(t.results.length:Int)≤t.aN+1):t.ay.length+t.au.length≤63000:=by have h1:=B.jl;have h2:=B.aN;have h3:=B.ay;omega
theorem kM (B:ThrB t) (hr:(t.results.length:Int)≤t.aN+(if t.aE=true∧t.aN≠t.aD.length then 1 else 0)):xr (zO t):=by
 have hlen:=B.len (by grind);have hs:=B.set.start.1;have td:=kF B.set;unfold zO
 split
 ·rename_i hj;refine⟨by simp,⟨B.set,B.me,B.aD,B.jl,B.aN,B.ay,B.ah,B.ak,B.aI,B.oh⟩,λh=>absurd rfl h,λ_=>⟨hj,rfl⟩,?_,λh=>(by grind),λh=>(by grind),λh=>(by grind),λh=>by grind⟩;grind
 ·rename_i hj;have B':ThrB { t with born:=0,cH:=false,state:=1,now:=some (if t.aE=true then QZ t.me t.set (t.au.map (·.1))else Qm t.me t.set ((t.aD[t.aN.toNat]?).getD [])) }:=⟨B.set,B.me,B.aD,B.jl,B.aN,B.ay,B.ah,B.ak,B.aI,B.oh⟩;refine⟨by simp,B',λ_=>⟨B',λx hx=>?_,by have:=B.aN;grind,λh=>by grind⟩,λh=>(by grind),?_,λh=>(by grind),λh=>(by grind),λh=>(by grind),λh=>by grind⟩
  ·cases hx
   split
   ·rename_i fi;exact⟨qXF hs (by grind),rfl,td,fi.symm⟩
   ·rename_i fi;have ax:t.aN.toNat<t.aD.length:=by have:=B.aN;omega
    rw[iW ax];have:=B.aD _ (List.getElem_mem ax);exact⟨qVu hs this.1 this.2,rfl,td,by simp only[Bool.not_eq_true]at fi;exact fi.symm⟩
  grind
theorem Jj (B:ThrB { t with aN:=t.aN+1,aE:=false,au:=[],ak:=0,aI:=0 }) (hr:(t.results.length:Int)≤t.aN+1):xr (xw t):=by simp_all[xw,kM]
theorem JH (B:ThrB t) (hj:t.aN<t.aD.length) (hr:(t.results.length:Int)≤t.aN+1):xr (xw t):=by have:=B.aN;have:=B.ak;refine Jj ⟨B.set,B.me,B.aD,B.jl,by grind,?_,B.ah,by simp,by simp,λ_=>rfl⟩ hr;have:=B.ay;grind
theorem Td (c:Int):1≤vI c∧vI c≤8:=by
 grind[vI]
theorem QH.go (C:QH t) {u:qd} (h1:u.set=t.set) (h2:u.me=t.me) (h3:u.aD=t.aD) (h4:u.aN=t.aN) (h5:u.ay=t.ay) (h6:u.au=t.au) (h7:u.results=t.results) (h8:u.ah.length≤6) (h9:0≤u.ak∧u.ak≤u.ao.length) (eM:0≤u.aI∧u.aI≤u.ak) (dO:u.now=t.now) (mP:u.aE=t.aE):QH u:=by have B:=C.toThrB;refine⟨⟨by rw[h1];exact B.set,by rw[h1,h2];exact B.me,by rw[h3];exact B.aD,by rw[h3];exact B.jl,by rw[h3,h4];exact B.aN,by rw[h5,h6,h7];exact B.ay,h8,h9,eM,by rw[mP,h6];exact B.oh⟩,by rw[dO,h1,h2,mP];exact C.now,by rw[h3,h4];exact C.lt,by rw[dO];exact C.some⟩
theorem Na (C:QH t) {draw:Int} (_:0≤draw) (hr:(t.results.length:Int)≤t.aN+(if t.aE=true then 1 else 0)):xr (xE t draw):=by
 have hm:=Td t.aI;have ax:=C.lt;unfold xE
 split
 ·refine kM (C.go (u:={ t with br:=0,state:=3 }) rfl rfl rfl rfl rfl rfl rfl C.ah C.ak C.aI rfl rfl).toThrB ?_;grind
 ·rename_i hn;have C':QH { t with br:=draw%(vI t.aI+1),state:=3 }:=C.go rfl rfl rfl rfl rfl rfl rfl C.ah C.ak C.aI rfl rfl;have h1:=Int.emod_nonneg draw (show vI t.aI+1≠0 by omega);have h2:=Int.emod_lt_of_pos draw (show 0<vI t.aI+1 by omega);refine⟨by simp,C'.toThrB,λ_=>C',λh=>(by grind),?_,λh=>(by grind),λ_=>⟨by grind,by grind⟩,λh=>(by grind),λh=>by grind⟩;grind
theorem qXs {α:Type} (p:α→Bool) (l:List α):(l.filter p).length+(l.filter λx=>!p x).length=l.length:=by
 induction l with
 |nil=>rfl
 |cons x r ih=>grind
theorem Zi (C:QH t) (hr:(t.results.length:Int)≤t.aN+1) (h5:t.state=5) (hl:(t.ah.length:Int)≤t.set.ag) (fi:t.aE=false):xr (yQ t):=by
 have h4:=C.set.ag;have ax:=C.lt;have hg:=C.oh fi;have rC:=C.ay;rw[hg]at rC;unfold yQ;have key:∀u:qd,u={ t with ah:=u.ah }→(u.ah.length:Int)≤5→(u.ah.length:Int)≠t.me→xr (yG u):=by
  intro u hu uY mc;have C':QH u:=by rw[hu];exact C.go rfl rfl rfl rfl rfl rfl rfl (by grind) C.ak C.aI rfl rfl
  have FK:(u.ah.length:Nat)≤6:=by omega
  unfold yG;have e1:u.set=t.set:=by rw[hu]
  have e2:u.ay=t.ay:=by rw[hu]
  have e3:u.results=t.results:=by rw[hu]
  have e4:u.aN=t.aN:=by rw[hu]
  have e5:u.state=5:=by grind
  have e6:u.me=t.me:=by rw[hu]
  have e7:u.aD=t.aD:=by rw[hu]
  have e8:u.au=[]:=by grind
  have hf:=qXs (λr:V9=>jI u.ah r.2) u.ay
  split
  ·rename_i h;refine⟨by omega,C'.toThrB,λ_=>C',λh=>by omega,?_,λ_=>⟨h,by grind⟩,λh=>by omega,λh=>by omega,λ_=>by grind⟩;grind
  ·split
   ·refine JH ⟨C'.set,C'.me,C'.aD,C'.jl,C'.aN,?_,FK,C'.ak,C'.aI,C'.oh⟩ C'.lt (by grind);grind
   ·refine kM ⟨C'.set,C'.me,C'.aD,C'.jl,C'.aN,?_,FK,by simp,by simp,λh=>by grind⟩ ?_
    all_goals grind
 grind
theorem qY5 (lv:List bM):(wN lv).length≤bX lv:=by simp[wN,bX,List.length_flatMap,List.map_reverse,List.sum_reverse]
theorem Uy {x:qf} (O:zG x) (hp:uX x.aN=false):(zr x).length≤9000:=by
 unfold zr
 split
 ·cases hj:x.aN with
  |prog q=>dsimp only;have h1:=O.fr;grind[qY5]
  |aE bs k=>rw[hj]at hp;cases hp
 simp
theorem qGf (C:QH t) {x:qf} (hx:t.now=some x) (_:t.state=1) {draw pick:Int} (hd:0≤draw) (hr:(t.results.length:Int)≤t.aN+(if t.aE=true then 1 else 0)):xr (zP t x draw pick):=by
 have ht:=C.ak;have hc:=C.aI;have ax:=C.lt;have hlen:(t.ao++[jY t x pick]).length=t.ao.length+1:=by simp
 have hr1:(t.results.length:Int)≤t.aN+1:=by grind
 have hr6:∀s:Int,s≠6→(t.results.length:Int)≤t.aN+(if s≠6∧(t.aE=true∨s=5)then 1 else 0):=λs h6=>by
  grind
 unfold zP;dsimp only
 split
 ·split
  ·rename_i hb;have C':QH { t with ao:=t.ao++[jY t x pick],ak:=t.ak+1,aI:=t.aI+1,state:=2,ch:=Qw x,aX:=false } :=
    C.go rfl rfl rfl rfl rfl rfl rfl C.ah (by grind) (by grind) rfl rfl
   exact⟨by simp,C'.toThrB,λ_=>C',λh=>(by grind),hr6 2 od,λh=>(by grind),λh=>(by grind),λ_=>hb,λh=>by grind⟩
  ·exact Na (t:={ t with ao:=t.ao++[jY t x pick],ak:=t.ak+1,aI:=t.aI+1 }) (C.go rfl rfl rfl rfl rfl rfl rfl C.ah (by grind) (by grind) rfl rfl) hd hr
 ·have C':∀s:Int,QH { t with ao:=t.ao++[jY t x pick],ak:=t.ak+1,state:=s }:=λs=>
   C.go rfl rfl rfl rfl rfl rfl rfl C.ah (by grind) (by grind) rfl rfl
  have CB:=(C' t.state).toThrB
  split
  ·split
   ·refine kM (t:={ t with ao:=t.ao++[jY t x pick],ak:=t.ak+1 }) CB ?_;grind
   ·exact⟨by simp,(C' 4).toThrB,λ_=>C' 4,λh=>(by grind),hr6 4 od,λh=>(by grind),λh=>(by grind),λh=>(by grind),λh=>by grind⟩
  ·split
   ·rename_i fi;unfold Qz
    split
    ·refine Jj ⟨C.set,C.me,C.aD,C.jl,by grind,?_,C.ah,by grind,by simp,λ_=>rfl⟩ hr1;have:=C.ay;grind
    grind[JH,jY]
   ·rename_i fi;have fi:t.aE=false:=by grind
    have hn:=C.now x hx;have Lk:=Uy hn.1 (hn.2.2.2.trans fi);rw[fi,iQ aW]at hr;have BQ:=C.oh fi;have rC:=C.ay;rw[BQ]at rC;unfold Qr;have e1:(t.results++[(⟨jh x,ym x,xq x,x.ad⟩:OW)]).length=t.results.length+1:=by simp
    have e2:(t.ay++(zr x).map λb=>(b,x.ad)).length=t.ay.length+(zr x).length:=by simp
    have B2:ThrB { t with ao:=t.ao++[jY t x pick],ak:=t.ak+1,results:=t.results++[⟨jh x,ym x,xq x,x.ad⟩],ay:=t.ay++(zr x).map λb=>(b,x.ad) } :=
     ⟨C.set,C.me,C.aD,C.jl,C.aN,by grind,
      C.ah,by grind,by grind,C.oh⟩
    dsimp only
    split
    ·grind[JH,jh,ym,xq]
    ·refine Zi
      ⟨⟨B2.set,B2.me,B2.aD,B2.jl,B2.aN,B2.ay,Nat.zero_le _,B2.ak,B2.aI,B2.oh⟩,C.now,C.lt,C.some⟩ (by grind) rfl (by have:=C.set.ag;grind) fi
theorem U7 (O:xr t) {a:cE} (ha:vB a) {draw pick:Int} (hd:0≤draw):xr (jQ t a draw pick):=by
 have cS:=O.lV;unfold jQ
 split
 ·rename_i h1;have C:=O.c omQ;cases hn:t.now with
  |none=>grind
  |some x=>
   have hx:=C.now x hn;have hS:=Kb x a;have hr:(t.results.length:Int)≤t.aN+(if t.aE=true then 1 else 0):=by
    grind
   unfold zU;dsimp only
   have C':∀b:Int,QH { t with now:=some (qL x a),born:=b }:=λb=>⟨⟨C.set,C.me,C.aD,C.jl,C.aN,C.ay,C.ah,C.ak,C.aI,C.oh⟩,λy hy=>by
    cases hy
    exact⟨XN hx.1 ha,hS.me.trans hx.2.1,hS.set.trans hx.2.2.1,hS.sw.trans hx.2.2.2⟩,C.lt,λh=>by grind⟩
   split
   ·exact⟨O.st,(C' _).toThrB,λ_=>C' _,λh=>absurd h (by grind),O.lV,λh=>absurd h (by grind),λh=>absurd h (by grind),λh=>absurd h (by grind),λh=>absurd h (by grind)⟩
   ·exact qGf (C' _) rfl h1 hd hr
 ·split
  ·rename_i h2;have C:=O.c omQ
   split
   ·have C':QH { t with aX:=true,since:=a.word }:=C.go rfl rfl rfl rfl rfl rfl rfl C.ah C.ak C.aI rfl rfl;exact⟨O.st,C'.toThrB,λ_=>C',λh=>absurd h (by grind),O.lV,λh=>absurd h (by grind),λh=>absurd h (by grind),O.Tc,λh=>absurd h (by grind)⟩
   simp_all[Na]
  ·split
   ·rename_i A5;have C:=O.c omQ;have ng:=O.Lz A5;rw[iJ ⟨by omega,.inr A5⟩]at cS;have h4:=C.set.ag;have e:(t.ah++[if a.err≠0 then 0 else a.word]).length=t.ah.length+1:=by simp
    refine Zi (C.go rfl rfl rfl rfl rfl rfl rfl (by grind) C.ak C.aI rfl rfl) cS A5 ?_ (O.LA A5);grind
   grind
theorem Vw (O:xr t):xr (jK t):=by
 have cS:=O.lV;unfold jK
 split
 ·rename_i h3;have C:=O.c omQ;have hp:=O.A4 h3
  split
  ·refine kM (C.go (u:={ t with br:=0 }) rfl rfl rfl rfl rfl rfl rfl C.ah C.ak C.aI rfl rfl).toThrB ?_;have ax:=C.lt;grind
  ·have C':QH { t with br:=t.br-1 }:=C.go rfl rfl rfl rfl rfl rfl rfl C.ah C.ak C.aI rfl rfl;exact⟨O.st,C'.toThrB,λ_=>C',λh=>absurd h (by grind),O.lV,λh=>absurd h (by grind),λ_=>(by grind),λh=>absurd h (by grind),λh=>absurd h (by grind)⟩
 grind
theorem ZI (O:xr t) {s v:Int}:xr (jm t s v):=by
 have cS:=O.lV;unfold jm
 split
 ·grind
 ·split
  ·split
   ·rename_i h4;have C:=O.c omQ;refine kM C.toThrB ?_;have ax:=C.lt;grind
   ·split
    ·rename_i h1;have C:=O.c omQ;have C':QH { t with cH:=true }:=C.go rfl rfl rfl rfl rfl rfl rfl C.ah C.ak C.aI rfl rfl;exact⟨O.st,C'.toThrB,λ_=>C',O.fin,O.lV,O.Lz,O.A4,O.Tc,O.LA⟩
    grind
  grind
theorem qw1 {me:Int} {s:jz} {aD:List (List qR)} (hs:0≤s.start) (hj:∀l∈aD,(xO l).2=0∧Quiet l):xr (Uc me s aD):=by have S:=gW hs;have h4:=S.ag;refine Jj ⟨S,by grind,λl hl=>hj l (List.mem_of_mem_take hl),?_,by simp,Nat.le_refl _,Nat.zero_le _,by simp,by simp,λ_=>rfl⟩ (by simp);grind
end
section
structure yE (V W:VM):Prop where
  sz:V.sz=W.sz
  most:V.most=W.most
  lv:V.lv=W.lv
  K:∀p x,zk p V.K=some x→zk p W.K=some x
theorem yE.same {V W:VM} (h:yE V W) (lv:List bM):yE { V with lv:=lv } { W with lv:=lv }:=⟨h.sz,h.most,rfl,h.K⟩
theorem yE.read {V W:VM} (h:yE V W) (p:Int):(qs V p).1.2=11∨((qs V p).1=(qs W p).1∧yE (qs V p).2 (qs W p).2):=by
 unfold qs;rw[← h.sz,← h.lv]
 split
 ·cases hl:UQ p V.lv with
  |some x=>grind
  |none=>
   cases hk:zk p V.K with
   |some x=>rw[h.K p x hk];grind
   |none=>simp
 grind
theorem yE.take {V W:VM} (h:yE V W) (cs:List Cl):(zf V cs).1=(zf W cs).1∧yE (zf V cs).2 (zf W cs).2:=by
 unfold zf;rw[← h.sz,← h.lv,← h.most]
 split
 ·exact⟨rfl,⟨rfl,rfl,rfl,h.K⟩⟩
 grind
theorem yE.ask {V W:VM} (h:yE V W) (b:Int):(zH V b).1.2.2=11∨((zH V b).1=(zH W b).1∧yE (zH V b).2 (zH W b).2):=by
 unfold zH;rw[← h.sz]
 split
 ·grind
 ·rcases h.read (b-1)with e |⟨e,h2⟩
  all_goals grind
theorem yE.again {V W:VM} (h:yE V W) (c b:Int):(yl V c b).1.2=11∨((yl V c b).1=(yl W c b).1∧yE (yl V c b).2 (yl W c b).2):=by
 unfold yl
 split
 ·grind
 ·rcases h.read b with e |⟨e,h2⟩
  ·grind
  ·rw[← e];have ht:=h2.take [(c,(qs V b).1.1),(b-1,c+8)];grind
theorem yE.grown {V W:VM} (h:yE V W) (c:Int):(yf V c).1.2=11∨((yf V c).1=(yf W c).1∧yE (yf V c).2 (yf W c).2):=by
 unfold yf;rw[← h.sz];rcases h.read 5 with e |⟨e,h2⟩
 ·grind
 ·rw[← e];have ht:=h2.take [(5,(qs V 5).1.1+1+wy c),((qs V 5).1.1,c+8)];grind
theorem yE.alloc {V W:VM} (h:yE V W) (n:Int):(xP V n).1.2=11∨((xP V n).1=(xP W n).1∧yE (xP V n).2 (xP W n).2):=by
 unfold xP
 split
 ·grind
 ·rcases h.read (yg n)with e |⟨e,h2⟩
  ·grind
  ·rw[← e]
   split
   ·split
    ·exact h2.grown _
    ·exact h2.again _ _
   grind
theorem yE.free {V W:VM} (h:yE V W) (b:Int):(wZ V b).1=11∨((wZ V b).1=(wZ W b).1∧yE (wZ V b).2 (wZ W b).2):=by
 unfold wZ;rcases h.ask b with e |⟨e,h2⟩
 ·grind
 ·rw[← e];have ht:=h2.take [(b-1,(zH V b).1.1)];rw[← ht.1]
  split
  ·split
   ·split
    ·refine .inr ⟨rfl,?_⟩;unfold fU;rw[← ht.2.lv];exact⟨ht.2.sz,ht.2.most,rfl,ht.2.K⟩
    grind
   grind
  grind
theorem yE.mR {V W:VM} (h:yE V W) (b:Int):(yC V b).1=11∨((yC V b).1=(yC W b).1∧yE (yC V b).2 (yC W b).2):=by
 unfold yC;rcases h.ask b with e |⟨e,h2⟩
 ·grind
 ·rw[← e]
  split
  ·split
   ·grind
   ·rcases h2.read (zH V b).1.1 with e2 |⟨e2,h3⟩
    ·grind
    ·rw[← e2]
     split
     ·exact .inr (h3.take _)
     grind
  grind
theorem yE.nW {V W:VM} (h:yE V W):(gG V).1=(gG W).1∧yE (gG V).2 (gG W).2:=by unfold gG;rw[← h.lv];exact⟨rfl,h.same _⟩
theorem yE.drop {V W:VM} (h:yE V W):(yA V).1=(yA W).1∧yE (yA V).2 (yA W).2:=by unfold yA;rw[← h.lv];exact⟨rfl,h.same _⟩
theorem yE.keep {V W:VM} (h:yE V W):(gi V).1=(gi W).1∧yE (gi V).2 (gi W).2:=by unfold gi;rw[← h.lv];exact⟨rfl,h.same _⟩
structure VE (a b:SM):Prop where
  e:a.e=b.e
  nx:a.nx=b.nx
  bG:a.bG=b.bG
  s:a.s=b.s
  v:yE a.v b.v
theorem yE.bB {V W:VM} (h:yE V W) (op a nx:Int) (s:IM):VE (zo op a nx s V) (zo op a nx s W):=by
 unfold zo;rw[← h.nW.1]
 split
 ·exact⟨rfl,rfl,rfl,rfl,h.nW.2⟩
 ·exact⟨rfl,rfl,rfl,rfl,h.nW.2⟩
theorem yE.tw {mt:List Int} {s:IM}:∀(o:List eZ) {V W:VM},yE V W→VE (vt mt o s V) (vt mt o s W):=by
 intro o
 induction o with
 |nil=>intro V W h;exact⟨rfl,rfl,rfl,rfl,h⟩
 |cons p o ih=>
  intro V W h;unfold vt;rw[← h.drop.1]
  split
  ·split
   ·exact h.drop.2.bB ..
   ·exact ih h.drop.2
  ·exact⟨rfl,rfl,rfl,rfl,h.drop.2⟩
theorem yE.Cf {V W:VM} (h:yE V W) (mt:List Int) (s:IM) (op:Int):VE (kg mt s V op) (kg mt s W op):=by
 unfold kg
 split
 ·exact h.bB ..
 ·split
  ·exact⟨h.keep.1,rfl,rfl,rfl,h.keep.2⟩
  ·split
   ·exact⟨h.keep.1,rfl,rfl,rfl,h.keep.2⟩
   ·split
    ·exact⟨h.drop.1,rfl,rfl,rfl,h.drop.2⟩
    grind[yE.tw]
theorem yE.tx {V W:VM} (h:yE V W) (s:IM) (x:qR):(zq s V x).1=11∨((zq s V x).1=(zq s W x).1∧(zq s V x).2.1=(zq s W x).2.1∧yE (zq s V x).2.2 (zq s W x).2.2):=by
 unfold zq
 split
 ·split
  ·rcases h.read (vO (qg s.az x.2.2.1) x.2.2.2.1).1 with e |⟨e,h2⟩
   all_goals grind
  grind
 ·split
  ·split
   ·have ht:=h.take [((vO (qg s.az x.2.1) x.2.2.2.1).1,qg s.az x.2.2.1)];grind
   grind
  ·split
   ·split
    ·grind
    ·rcases h.alloc (qg s.az x.2.2.1)with e |⟨e,h2⟩
     all_goals grind
   ·split
    ·grind
    ·rcases h.free (qg s.az x.2.1)with e |⟨e,h2⟩
     all_goals grind
theorem vE {c:Prop} [Decidable c] {a b a' b':SM} (ha:a.e=11∨VE a a') (hb:b.e=11∨VE b b'):(if c then a else b).e=11∨VE (if c then a else b) (if c then a' else b'):=by
 grind
theorem yE.do_ {V W:VM} (h:yE V W) (mt:List Int) (s:IM) (x:qR):(cm mt s V x).e=11∨VE (cm mt s V x) (cm mt s W x):=by
 have sm:∀(e nx:Int) (b:Bool) (s':IM),(⟨e,nx,b,s',V⟩:SM).e=11∨VE ⟨e,nx,b,s',V⟩ ⟨e,nx,b,s',W⟩:=λe nx b s'=>.inr ⟨rfl,rfl,rfl,rfl,h⟩;unfold cm;refine vE (sm ..) (vE (sm ..) (vE (sm ..) (vE (sm ..) (vE (sm ..) (vE (sm ..) (vE (sm ..) (vE (sm ..) (vE (sm ..) (vE (vE (sm ..) (sm ..)) (vE (sm ..) (vE ?_ (.inr (h.Cf ..)))))))))))));rcases h.tx s x with e |⟨e1,e2,h2⟩
 ·grind
 ·exact .inr ⟨e1,rfl,rfl,e2,h2⟩
end
section
theorem qJR {p v:Int} {l:List Cl} {c:Cl} (h:c∈gJ p v l):c=(p,v)∨c∈l:=by
 induction l with
 |nil=>exact .inl (List.mem_singleton.1 h)
 |cons d l ih=>
  unfold gJ at h
  grind
theorem qJf {cs:List Cl}:∀{l:List Cl} {c:Cl},c∈vN l cs→c∈cs∨c∈l:=by
 induction cs with
 |nil=>intro l c h;exact .inr h
 |cons d r ih=>
  intro l c h;rcases ih h with h |h
  ·grind
  ·rcases qJR h with h |h
   all_goals grind
theorem qjr:∀{lv:List bM} {out:List Cl} {c:Cl},c∈lv.foldl (λout x=>vN x.1 out) out→c∈out∨∃x∈lv,c∈x.1:=by
 intro lv
 induction lv with
 |nil=>simp
 |cons x r ih=>
  intro out c h;rcases ih h with h |⟨y,hy,h⟩
  ·rcases qJf h with h |h
   all_goals grind
  grind
theorem Nd {lv:List bM} {c:Cl} (h:c∈jk lv):∃x∈lv,c∈x.1:=by
 rcases qjr h with h |h
 all_goals grind
theorem qqm {lv:List bM} (h:∀x∈lv,∀c∈x.1,0≤c.2∧c.2<18446744073709551616):∀c∈jk lv,0≤c.2∧c.2<18446744073709551616:=λc hc=>by
 obtain⟨x,hx,h1⟩:=Nd hc;grind
def Dp (n:Nat) (lv:List bM):Prop:=∀x∈lv,∀c∈x.1,1≤c.1∧c.1<n
theorem qwf {n most:Nat} {lv:List bM} {p v:Int} (h:Dp n lv) (hp:1≤p∧p<n):Dp n (wM most lv p v).2:=by
 unfold wM;cases lv with
 |nil=>grind
 |cons x r=>
  dsimp only
  split
  ·grind
  ·split
   ·grind
   ·intro y hy c hc;rcases List.mem_cons.1 hy with rfl |hy
    ·rcases qJR hc with rfl |hc
     ·grind
     ·exact h x (iK ..) c hc
    ·exact h y (iX _ hy) c hc
theorem qq7 {n most:Nat} {aw:List bM} (hw:Dp n aw):∀{cs:List Cl} {lv:List bM},Dp n lv→(∀c∈cs,1≤c.1∧c.1<n)→Dp n (wV most aw lv cs).2:=by
 intro cs
 induction cs with
 |nil=>intro lv h _;exact h
 |cons c cs ih=>
  intro lv h hc;rw[wP]
  split
  all_goals simp_all[qwf]
def cF (V:VM):Prop:=Dp V.sz V.lv
theorem cF.read {V:VM} (h:cF V) (p:Int):cF (qs V p).2:=by
 unfold qs
 repeat' split
 all_goals exact h
theorem cF.take {V:VM} (h:cF V) (cs:List Cl):cF (zf V cs).2:=by
 unfold zf
 split
 ·rename_i hc;exact qq7 h h hc
 grind
theorem cF.ask {V:VM} (h:cF V) (b:Int):cF (zH V b).2:=by
 unfold zH
 repeat' split
 all_goals first |exact h |exact h.read _
theorem cF.again {V:VM} (h:cF V) (c b:Int):cF (yl V c b).2:=by
 unfold yl
 repeat' split
 all_goals first |exact h |exact h.read _ |exact(h.read _).take _
theorem cF.grown {V:VM} (h:cF V) (c:Int):cF (yf V c).2:=by
 unfold yf
 repeat' split
 all_goals first |exact h |exact h.read _ |exact(h.read _).take _
theorem cF.alloc {V:VM} (h:cF V) (n:Int):cF (xP V n).2:=by
 unfold xP
 repeat' split
 all_goals first |exact h |exact h.read _ |exact(h.read _).grown _ |exact(h.read _).again _ _
theorem cF.FM {V:VM} (h:cF V) (b:Int):cF (fU V b):=by
 intro x hx c hc;have hx:x∈YN V.lv b:=hx;unfold YN at hx;cases hl:V.lv with
 |nil=>grind
 |cons y r=>
  rw[hl]at hx;rcases List.mem_cons.1 hx with rfl |hx
  ·exact h y (by grind) c hc
  ·exact h x (by grind) c hc
theorem cF.free {V:VM} (h:cF V) (b:Int):cF (wZ V b).2:=by
 unfold wZ
 repeat' split
 all_goals first |exact(((h.ask _).take _).FM _) |exact(h.ask _).take _ |exact h.ask _
theorem cF.mR {V:VM} (h:cF V) (b:Int):cF (yC V b).2:=by
 unfold yC
 repeat' split
 all_goals first |exact((h.ask _).read _).take _ |exact(h.ask _).read _ |exact h.ask _
theorem cF.nW {V:VM} (h:cF V):cF (gG V).2:=by
 unfold gG JF
 split
 ·omega
 ·intro x hx c hc;rcases List.mem_cons.1 hx with rfl |hx
  ·grind
  ·exact h x hx c hc
theorem cF.drop {V:VM} (h:cF V):cF (yA V).2:=by
 unfold yA JE
 split
 ·omega
 ·intro x hx c hc;exact h x (List.mem_of_mem_tail hx) c hc
theorem cF.keep {V:VM} (h:cF V):cF (gi V).2:=by
 intro x hx c hc;have hx:x∈(Xx V.lv).2:=hx;unfold Xx at hx
 split at hx
 ·rename_i a b r hl;rcases List.mem_cons.1 hx with rfl |hx
  ·rcases qJf hc with hc |hc
   ·exact h a (by grind) c hc
   ·exact h b (by grind) c hc
  ·exact h x (by grind) c hc
 ·exact h x hx c hc
theorem cF.bB {V:VM} (h:cF V) {op a nx:Int} {s:IM}:cF (zo op a nx s V).v:=by
 unfold zo
 split<;>exact h.nW
theorem cF.tw {mt:List Int} {s:IM}:∀(o:List eZ) {V:VM},cF V→cF (vt mt o s V).v:=by
 intro o
 induction o with
 |nil=>intro V h;exact h
 |cons p o ih=>
  intro V h;unfold vt
  split
  ·split
   ·exact(cF.bB h.drop)
   ·exact ih h.drop
  ·exact h.drop
theorem cF.Cf {V:VM} (h:cF V) (mt:List Int) (s:IM) (op:Int):cF (kg mt s V op).v:=by
 unfold kg
 split
 ·exact cF.bB h
 ·split
  ·exact h.keep
  ·split
   ·exact h.keep
   ·split
    ·exact h.drop
    grind[cF.tw]
theorem cF.tx {V:VM} (h:cF V) (s:IM) (x:qR):cF (zq s V x).2.2:=by
 unfold zq
 split
 ·split
  ·split<;>exact h.read _
  grind
 ·split
  ·split
   ·exact h.take _
   grind
  ·split
   ·split
    ·grind
    ·split<;>exact h.alloc _
   ·split
    ·grind
    ·exact h.free _
theorem jXP {c:Prop} [Decidable c] {a b:SM} (ha:cF a.v) (hb:cF b.v):cF (if c then a else b).v:=by
 grind
theorem cF.do_ {V:VM} (h:cF V) (mt:List Int) (s:IM) (x:qR):cF (cm mt s V x).v:=by
 have ht:=h.tx s x;have hu:=h.Cf mt s x.1;unfold cm;generalize zq s V x=T at*;generalize kg mt s V x.1=U at*
 repeat' (first |exact h |exact ht |exact hu |apply jXP)
theorem cF.run {l:List qR} {mt:List Int}:∀(n:Nat) {s:IM} {V:VM},cF V→cF (zD l mt n s V).v:=by
 intro n
 induction n with
 |zero=>grind[JJ]
 |succ n ih=>
  intro s V h;have hd:=h.do_ mt s (qO l s.pc);rw[JT];grind
theorem cF.gives:∀(bs:List Int) (k:Nat) {V:VM},cF V→cF (xS V bs k).2:=by
 intro bs
 induction bs with
 |nil=>intro k V h;exact h
 |cons b r ih=>
  intro k V h;unfold xS
  split
  ·exact ih _ (h.mR b)
  ·exact h.mR b
end
section
abbrev nq (z:Int):Prop:=0≤z∧z<18446744073709551616
structure Cg (M:jX):Prop where
  w:∀z∈M.w,nq z
  n:nq M.n
  s:∀z∈M.s,nq z
theorem qWH {l:List Int} (h:∀z∈l,nq z) (i:Int):nq (qg l i):=by
 unfold qg;cases hi:l[i.toNat]? with
 |none=>grind
 |some z=>exact h z (List.mem_of_getElem? hi)
theorem Te {l:List Int} (h:∀z∈l,nq z) {i:Nat} {w:Int} (hw:nq w):∀z∈l.set i w,nq z:=λz hz=>by
 grind
theorem Xs {M:jX} {o:dG} (R:Cg M) (ho:nq o.word):vB (qF M o).1∧Cg (qF M o).2:=by
 have z0:nq (0:Int):=⟨Int.le_refl _,by simp⟩;have key:vB (yR M o).1∧Cg (yR M o).2:=by
  unfold yR
  split
  ·unfold Kk
   split
   ·trivial
   ·split
    ·exact⟨qWH R.w _,R⟩
    ·exact⟨z0,⟨Te R.w ho,R.n,R.s⟩⟩
  ·split
   ·unfold Xi
    repeat' split
    all_goals exact⟨z0,⟨R.w,R.n,R.s⟩⟩
   ·split
    ·unfold JZ
     split
     ·exact⟨R.n,R⟩
     ·repeat' split
      all_goals first |exact⟨z0,R⟩ |exact⟨z0,⟨R.w,ho,R.s⟩⟩
    ·split
     ·unfold VO
      split
      ·trivial
      ·split
       ·exact⟨qWH R.s _,R⟩
       ·exact⟨z0,⟨R.w,R.n,Te R.s ho⟩⟩
     trivial
 rw[ve]
 split
 ·exact⟨key.1,⟨key.2.w,key.2.n,key.2.s⟩⟩
 grind
theorem Zk {M:jX} {o:dG}:(qF M o).2.aT≤M.aT+1∧M.aT≤(qF M o).2.aT:=by
 grind[qXl,ve,yR]
theorem GM {c:q9} {f e y:Int}:(jN c f e y).cells=c.cells:=by grind[jN,zc]
theorem Oy {c:q9} {l:cK}:(zx c l).cells=c.cells:=by 
 grind[zx,GM]
theorem ZN {c:q9}:(zg c).cells=c.cells:=by grind[zg]
theorem Np {c:q9}:(jo c).cells=c.cells:=by 
 grind[jo,ZN]
theorem KE {c:q9}:(zj c).cells=c.cells:=Np
theorem VH:∀(n:Nat) (c:q9),(ja c n).cells=c.cells:=by
 intro n
 induction n with
 |zero=>intro c;exact KE
 |succ n ih=>
  grind[ja,GM,KE]
theorem qqd {c:q9} {a:cE}:(qn c a).cells=c.cells:=by
 unfold qn
 split
 ·rfl
 ·split
  ·unfold yH
   split
   ·exact Oy
   ·split
    ·rfl
    ·split
     all_goals rfl
  ·split
   ·unfold xe
    split
    ·exact GM
    ·split
     ·rfl
     ·split
      ·rfl
      ·split
       ·exact KE
       ·exact VH _ _
   ·split
    ·unfold xI
     split
     ·exact Oy
     ·split
      ·exact GM
      ·exact VH _ _
    grind[Np,ZN,zc]
def G4 (x:qf):Prop:=∀c,x.c=some c→∀q∈c.cells,nq q.2
theorem qzR {x:qf} {k e:Int} (G:zK x.v) (W:G4 x):G4 (yX x k e):=by
 unfold yX
 split
 ·exact W
 ·split
  ·exact W
  ·split
   ·exact W
   ·split
    ·exact W
    ·intro c hc;cases hc;exact qqm G.wd.l
theorem O9 {x:qf} (B:Qk x) (hj:bS True x.v x.aN) (W:G4 x):G4 (zn x):=by have D:=GC B.aJ B.fr hj;refine qzR D.aJ ?_;intro c hc;rw[D.same.2.2.2.2]at hc;exact W c hc
theorem qzH {x:qf} {a:cE} (O:zG x) (W:G4 x) (ha:vB a):G4 (qL x a):=by
 have cd:=O.st;have stamped:∀{y:qf},G4 y→G4 (jV y):=λ{y} h=>by
  unfold jV
  split
  ·split<;>exact h
  grind
 have told:∀{y:qf},zG y→3≤y.state→y.state≤6→G4 y→G4 (q8 y):=λ{y} O h3 h6 W=>by
  refine stamped ?_;show G4 (if(zN y).1=0 then y else if(zN y).1=5 then zT y 5 0 (zN y).2 else jr y)
  split
  ·grind
  ·split
   ·exact W
   ·unfold jr
    split
    ·rename_i hs;have hw:=Gj (O.f hs).2;unfold jt
     split
     ·exact W
     ·split
      ·have hj:=(O.aN.same λ_=>by omega:bS True y.v y.aN).lN (p:=y.v.aC) hw;refine O9 ⟨O.set,Qu O.aJ hw,by show((xz y.v y.v.aC (xn y.f)).2.sz:Int)=y.set.words;rw[kQ.2];exact O.sz,by show bX (xz y.v y.v.aC (xn y.f)).2.lv<9000;rw[kQ.1];exact O.fr,Xv O.r,hj.same λh=>h.elim,O.c⟩ hj W
      ·split<;>exact W
    ·split
     ·exact W
     ·split
      ·exact W
      ·split<;>exact W
 unfold qL
 split
 ·grind
 ·split
  ·exact W
  ·split
   ·exact W
   ·split
    ·exact W
    ·split
     ·exact O9 O.b (O.aN.same λ_=>by omega) W
     ·split
      ·exact W
      ·split
       ·rename_i hs;have hf:=O.f hs;refine told ?_ (by grind) (by grind) W;exact⟨O.set,O.aJ,O.sz,O.fr,O.r,O.aN,O.st,λ_=>⟨Kv hf.1,XP hf.2 ha⟩,O.aC,O.e,O.c,O.c0,O.c6⟩
       ·split
        ·rename_i hs;refine told ?_ (by grind) (by grind) ?_
         ·refine⟨O.set,O.aJ,O.sz,O.fr,O.r,O.aN,O.st,O.f,O.aC,O.e,λc h=>?_,λh=>absurd h (by grind),λh hn=>O.c6 h ?_⟩
          ·obtain⟨c',h1,rfl⟩:=Option.map_eq_some_iff.1 h;exact yP (O.c c' h1) ha
          simp_all
         ·intro c h;obtain⟨c',h1,rfl⟩:=Option.map_eq_some_iff.1 h;rw[qqd];exact W c' h1
        ·refine told ?_ (by grind) (by grind) W;exact⟨O.set,O.aJ,O.sz,O.fr,O.r,O.aN,O.st,O.f,O.aC,λh1 h2=>KC (O.e h1 h2),O.c,O.c0,O.c6⟩
theorem qze {x:qf} {o:dG} (O:zG x) (W:G4 x) (h:jd x=some o):nq o.word:=by
 have z0:nq (0:Int):=⟨Int.le_refl _,by simp⟩;unfold jd at h
 split at h
 ·cases h;exact⟨by show(0:Int)≤1;simp,by show(1:Int)<_;simp⟩
 ·split at h
  ·cases h;exact z0
  ·split at h
   ·cases h;exact Lp _
   ·split at h
    ·cases h;exact z0
    ·split at h
     ·grind
     ·split at h
      ·unfold kl at h
       split at h
       ·grind
       ·split at h<;>(cases h;exact z0)
      ·split at h
       ·rename_i h6;cases hc:x.c with
        |none=>grind
        |some c=>
         rw[hc]at h;have hn:=(O.c c hc).now;have h:xX c=some o:=h;unfold xX at h
         split at h
         ·grind
         ·split at h
          ·cases h;exact z0
          ·split at h
           ·grind
           ·split at h
            ·cases h;exact z0
            ·split at h
             ·grind
             ·split at h
              ·cases h;exact z0
              ·split at h
               ·cases h;show nq (yF c.cells c.at_).2;unfold yF;cases hi:c.cells[c.at_.toNat]? with
                |none=>grind
                |some q=>exact W c hc q (List.mem_of_getElem? hi)
               grind
       ·unfold ko at h
        split at h
        ·grind
        ·split at h<;>(cases h;exact z0)
theorem qyC {me:Int} {S:jz} {j:GT}:G4 (NZ me S j):=λc h=>by cases h
end
section
inductive tA:Nat→qf→jX→qf→jX→Prop
  |nil {x:qf} {M:jX}:tA 0 x M x M
  |cons {k:Nat} {x y:qf} {M N:jX} {o:dG} (hn:jd x=some o) (r:tA k (qL x (qF M o).1) (qF M o).2 y N):tA (k+1) x M y N
theorem tA.trans {a b:Nat} {x y z:qf} {M N O:jX} (s:tA a x M y N) (t:tA b y N z O):tA (a+b) x M z O:=by
 induction s with
 |nil=>grind
 |cons hn _ ih=>rw[Nat.add_right_comm];exact .cons hn (ih t)
theorem tA.one {x y:qf} {M N:jX} {o:dG} (hn:jd x=some o) (e:qF M o=(⟨0,bK,false,0⟩,N)) (h:qL x ⟨0,bK,false,0⟩=y):tA 1 x M y N:=by refine .cons hn ?_;rw[e];rw[h];exact .nil
theorem tA.step {x y:qf} {M N:jX} {o:dG} {a:cE} (hn:jd x=some o) (e:qF M o=(a,N)) (h:qL x a=y):tA 1 x M y N:=by refine .cons hn ?_;rw[e];rw[h];exact .nil
def bump (M:jX) (k:Int):jX:={ M with aT:=M.aT+k }
structure Mv (S:jz) (M:jX) (me:Int):Prop where
  w:(M.w.length:Int)=S.words
  l:(M.l.length:Int)=S.ae
  s:(M.s.length:Int)=S.ag
  me:0≤me∧me<S.ag
  lk:∀i:Nat,i<M.l.length→∃v:Int,qP M.l i=(v,false,0)∧0≤v∧v≤M.n
  n:0≤M.n∧M.n<4611686018427387902
  wd:∀z∈M.w,0≤z∧z<18446744073709551616
section
variable {S:jz} {M:jX} {me:Int}
theorem Mv.bump (C:Mv S M me) (k:Int):Mv S (bump M k) me:=⟨C.w,C.l,C.s,C.me,C.lk,C.n,C.wd⟩
theorem Mv.at (C:Mv S M me) {s:Int} (h:0≤s∧s<S.ae):∃v:Int,qP M.l s=(v,false,0)∧0≤v∧v≤M.n:=by have hl:=C.l;obtain⟨k,rfl⟩:∃k:Nat,s=k:=⟨s.toNat,by omega⟩;exact C.lk k omQ
theorem qxl {S:jz} (O:xZ S) {p:Int} (hp:0≤p):0≤ofM p S.ae S.wide∧ofM p S.ae S.wide<S.ae:=by have h:=O.ae;unfold ofM;rw[iQ omQ,show max 1 (min S.ae 16)=S.ae by omega];exact⟨Int.emod_nonneg _ omQ,Int.emod_lt_of_pos _ omQ⟩
structure Me (S:jz) (M:jX) (r:List zd):Prop where
  at_:∀y∈r,0≤y.1∧y.1<S.ae∧y.2=(qP M.l y.1).1
  un:(r.map (·.1)).Nodup
theorem Me.len {r:List zd} (O:xZ S) (R:Me S M r):r.length≤16:=by
 have:=Ke 16 (r.map (·.1)) R.un (λx hx=>by
  obtain⟨y,hy,rfl⟩:=List.mem_map.1 hx;have h1:=R.at_ y hy;have h2:=O.ae
  omega)
 grind
theorem Me.add {r:List zd} (O:xZ S) (C:Mv S M me) (R:Me S M r) {s:Int} (hs:0≤s∧s<S.ae):(gT r (s,(qP M.l s).1)).1=0∧Me S M (gT r (s,(qP M.l s).1)).2:=by
 obtain⟨v,e,h0,h1⟩:=C.at hs;have cd:=O.ae;have hn:=C.n;unfold gT;rw[iQ (by grind)];cases hf:r.find? λy=>decide (y.1=(s,(qP M.l s).1).1)with
 |some y=>
  have hy:=List.find?_some hf;have hm:=List.mem_of_find?_eq_some hf;have h2:=R.at_ y hm;grind
 |none=>
  have bQ:∀y∈r,y.1≠s:=λy hy h=>by
   grind
  have hnd:(s::r.map (·.1)).Nodup:=List.nodup_cons.2 ⟨λh=>by grind,R.un⟩
  have hl:=Ke 16 _ hnd (λx hx=>by
   rcases List.mem_cons.1 hx with rfl |hx
   ·omega
   ·obtain⟨y,hy,rfl⟩:=List.mem_map.1 hx;have h1:=R.at_ y hy
    omega)
  simp at hl;rw[iQ omQ];refine⟨rfl,λy hy=>?_,?_⟩
  ·rcases List.mem_append.1 hy with hy |hy
   ·exact R.at_ y hy
   grind
  grind
theorem zZ {x:qf} (h:x.c=none):ql x=false:=by simp_all[ql,Bool.and_false]
theorem UG {x:qf} (h:x.c=none):ql (zn x)=false:=by
 have hc:(xK x).2.c=none:=by
  grind[xK]
 unfold zn yX;generalize(xK x).2=y at*
 split
 ·exact zZ hc
 ·split
  ·exact zZ hc
  ·split
   ·exact zZ hc
   ·split
    ·exact zZ hc
    rfl
end
end
section
theorem Y2 {l t:List qR} {j:Nat} (h:j<l.length):qO (l++t) (j:Int)=qO l (j:Int):=by grind[qO,Int.toNat_natCast,List.getElem?_append_left]
theorem XT {l t:List qR} {k:Nat} {x:qR} (h:t[k]? =some x):qO (l++t) ((l.length+k:Nat):Int)=x:=by unfold qO;grind
theorem kE {l t:List qR}:∀i,i≤l.length→qE (l++t) i=qE l i:=by
 intro i
 induction i with
 |zero=>intro _;rfl
 |succ i ih=>intro h;rw[jU,jU,ih omQ,Y2 omQ]
theorem jQO {l t:List qR} {st:List Int} (h:cL l.length st):cU (l++t) st=cU l st:=by
 unfold cU;by_cases h0:st=[]
 ·grind
 ·rw[iQ h0,iQ h0];have hb:=h.eP h0;obtain⟨p,hp⟩:∃p:Nat,jq st=p:=⟨(jq st).toNat,by omega⟩;rw[hp,Y2 omQ]
theorem Ov {l t:List qR} {st:List Int} {x:qR} (h:cL l.length st):xW (l++t) st x=xW l st x:=by grind[xW,jQO]
theorem cL.mono {i j:Nat} {st:List Int} (h:cL i st) (sB:i≤j):cL j st:=λy hy=>by have:=h y hy;omega
def qgf (l:List qR) (calm:Bool) (j:Nat) (x:qR):Prop:=(x.1=12∨x.1=13)→∃c:Nat,x.2.2.2.1=c∧c≤l.length∧qE l c=qE l j∧(calm=true→j<c)
structure Uv (calm:Bool) (x:qR):Prop where
  may:wq x=true
  no:x.1≠23
  n:0≤x.2.2.2.2∧x.2.2.2.2<18446744073709551616
  cal:calm=true→x.1≠20∧x.1≠22∧x.1≠12
structure dC (calm:Bool) (l:List qR) (st:List Int):Prop where
  ok:∀x∈l,Uv calm x
  wr:∀j,j<l.length→xW l (qE l j) (qO l j)=0
  top:qE l l.length=st
  jp:∀j,j<l.length→qgf l calm j (qO l j)
  oV:st.length≤5
def zz (l:List qR) (st:List Int):List Int:=st.map λp=>(qO l p).1
theorem GH {l t:List qR} {st:List Int} (h:cL l.length st):zz (l++t) st=zz l st:=by unfold zz;refine List.map_congr_left λp hp=>?_;have:=h p hp;obtain⟨q,rfl⟩:∃q:Nat,p=q:=⟨p.toNat,by omega⟩;rw[Y2 omQ]
theorem dC.tB {calm:Bool} {l:List qR} {st:List Int} (B:dC calm l st):cL l.length st:=by rw[← B.top];exact(VI l.length).1
theorem dC.nil (calm:Bool):dC calm [] []:=⟨λx hx=>(by grind),λj hj=>(by grind),rfl,λj hj=>(by grind),aW⟩
theorem dC.ext {calm:Bool} {l t:List qR} {st:List Int} (B:dC calm l st) (h1:∀x∈t,Uv calm x) (h2:∀k,k<t.length→xW (l++t) (qE (l++t) (l.length+k)) (qO (l++t) ((l.length+k:Nat):Int))=0)
  (h3:∀k,k<t.length→qgf (l++t) calm (l.length+k) (qO (l++t) ((l.length+k:Nat):Int))) (h5:(qE (l++t) (l++t).length).length≤5):dC calm (l++t) (qE (l++t) (l++t).length):=by
 refine⟨?_,?_,rfl,?_,h5⟩
 ·intro x hx;rcases List.mem_append.1 hx with hx |hx
  ·exact B.ok x hx
  grind
 ·intro j hj;by_cases fQ:j<l.length
  ·rw[kE j omQ,Y2 fQ,Ov ((VI j).1.mono omQ)];exact B.wr j fQ
  ·have:=h2 (j-l.length) (by grind)
   simp_all
 ·intro j hj;by_cases fQ:j<l.length
  ·intro ho;rw[Y2 fQ]at ho ⊢;obtain⟨c,c1,c2,c3,c4⟩:=B.jp j fQ ho;exact⟨c,c1,by grind,by rw[kE c c2,kE j omQ];grind,c4⟩
  ·have:=h3 (j-l.length) (by grind)
   simp_all
theorem qj6 {l:List qR} {x:qR}:qE (l++[x]) (l.length+1)=jE (qE l l.length) l.length x.1:=by have e:=XT (l:=l) (t:=[x]) (k:=0) (x:=x) rfl;simp_all[Nat.add_zero,jU,kE]
theorem dC.lf {calm:Bool} {l:List qR} {st:List Int} (B:dC calm l st) {x:qR} (h1:Uv calm x) (h2:xW l st x=0) (h3:x.1≠12∧x.1≠13) (h5:(jE st l.length x.1).length≤5):dC calm (l++[x]) (jE st l.length x.1):=by
 have e:=XT (l:=l) (t:=[x]) (k:=0) (x:=x) rfl;rw[Nat.add_zero]at e;have hs:qE (l++[x]) (l++[x]).length=jE st l.length x.1:=by rw[List.length_append,List.length_singleton,qj6,B.top]
 rw[← hs]at h5 ⊢;refine B.ext (by grind) ?_ ?_ h5
 ·intro k hk;obtain rfl:k=0:=by grind
  rw[Nat.add_zero,e,kE _ (Nat.le_refl _),B.top,Ov B.tB];grind
 ·intro k hk;obtain rfl:k=0:=by grind
  rw[Nat.add_zero,e];intro ho;omega
def Flat (op:Int):Prop:=op≠14∧op≠15∧op≠16∧op≠17∧op≠18∧op≠19
theorem Flat.behind {op:Int} (h:Flat op) (st:List Int) (i:Int):jE st i op=st:=by obtain⟨h1,h2,h3,h4,h5,h6⟩:=h;simp_all[jE,xf,zA]
theorem Flat.tC {x:qR} (h:Flat x.1) (hm:wq x=true) (l:List qR) (st:List Int):xW l st x=0:=by
 obtain⟨h1,h2,h3,h4,h5,h6⟩:=h;simp_all[xW,zA,xf]
theorem dC.flat {calm:Bool} {l:List qR} {st:List Int} (B:dC calm l st) {x:qR} (h1:Uv calm x) (hf:Flat x.1) (h3:x.1≠12∧x.1≠13):dC calm (l++[x]) st:=by
 have:=B.lf h1 (hf.tC h1.may l st) h3 (by rw[hf.behind];exact B.oV)
 rwa [hf.behind]at this
theorem dC.two {calm:Bool} {l:List qR} {st:List Int} (B:dC calm l st) {x y:qR} (hx:Uv calm x) (hy:Uv calm y) (fx:Flat x.1) (fy:Flat y.1)
  (jx:(x.1=12∨x.1=13)→x.2.2.2.1=((l.length+2:Nat):Int)) (jy:(y.1=12∨y.1=13)→y.2.2.2.1=(l.length:Int)∧calm=false):dC calm (l++[x,y]) st:=by
 have e0:=XT (l:=l) (t:=[x,y]) (k:=0) (x:=x) rfl;have e1:=XT (l:=l) (t:=[x,y]) (k:=1) (x:=y) rfl;rw[Nat.add_zero]at e0;have s0:qE (l++[x,y]) l.length=st:=by rw[kE _ (Nat.le_refl _),B.top]
 have s1:qE (l++[x,y]) (l.length+1)=st:=by rw[jU,s0,e0,fx.behind]
 have s2:qE (l++[x,y]) (l.length+2)=st:=by rw[show l.length+2=l.length+1+1 from rfl,jU,s1,e1,fy.behind]
 have hs:qE (l++[x,y]) (l++[x,y]).length=st:=by grind
 have:=B.ext (t:=[x,y]) (by grind) (λk hk=>by
  have hk:k=0∨k=1:=by grind
  rcases hk with rfl |rfl
  ·rw[Nat.add_zero,e0];exact fx.tC hx.may _ _
  ·rw[e1];exact fy.tC hy.may _ _) (λk hk=>by
  have hk:k=0∨k=1:=by grind
  rcases hk with rfl |rfl
  ·rw[Nat.add_zero,e0];intro ho;grind
  ·rw[e1];intro ho;grind) (by rw[hs];exact B.oV)
 grind
abbrev one (op:Int):qR:=(op,0,0,0,0)
theorem Tf (calm:Bool) {op:Int} (h:op=14∨op=15∨op=16∨op=17∨op=18∨op=19):Uv calm (one op):=by refine⟨?_,by grind,by simp,λ_=>by grind⟩;rcases h with rfl |rfl |rfl |rfl |rfl |rfl<;>decide
theorem dC.begin {calm:Bool} {l:List qR} {st:List Int} (B:dC calm l st) {op:Int} (h:op=14∨op=17) (h5:st.length<5):dC calm (l++[one op]) (st++[(l.length:Int)])∧zz (l++[one op]) (st++[(l.length:Int)])=zz l st++[op]:=by
 have hb:jE st l.length op=st++[(l.length:Int)]:=by unfold jE;rw[iJ (.inl (by simp_all[xf,iG])),iQ (by rcases h with rfl |rfl<;>decide)]
 have hw:xW l st (one op)=0:=by unfold xW;rw[iQ (by rcases h with rfl |rfl<;>decide),iQ (λhh=>by have:=hh.1;rcases h with rfl |rfl<;>exact absurd this od),iQ (λhh=>by grind),iQ omQ]
 have:=B.lf (Tf calm omQ) hw (by grind) (by grind);rw[hb]at this;refine⟨this,?_⟩;unfold zz;rw[List.map_append]
 congr 1
 ·exact GH B.tB
 ·have e:=XT (l:=l) (t:=[one op]) (k:=0) (x:=one op) rfl;grind
theorem dC.Tg {calm:Bool} {l:List qR} {st:List Int} (B:dC calm l st) (h:cU l st=14):dC calm (l++[one 16]) st:=by
 have hb:jE st l.length 16=st:=by rfl
 have hw:xW l st (one 16)=0:=by unfold xW;rw[iQ od,iQ (λhh=>absurd hh.1 od),iQ (λhh=>hh.2 h),iQ (λhh=>absurd hh.1 od)]
 have:=B.lf (Tf calm omQ) hw od (by rw[hb];exact B.oV)
 grind
def gu (o:Int):Int:=if o=14 then 15 else if o=17 then 18 else 19
def XR (l:List qR) (st:List Int):List qR:=l++[one (gu (cU l st))]
def Ge (l:List qR) (st:List Int):List Int:=if cU l st=17 then st.dropLast++[(l.length:Int)]else st.dropLast
theorem dC.shut {calm:Bool} {l:List qR} {st:List Int} (B:dC calm l st) (_:st≠[]) (ho:cU l st=14∨cU l st=17∨cU l st=18):dC calm (XR l st) (Ge l st)∧
  zz (XR l st) (Ge l st)=(zz l st).dropLast++(if cU l st=17 then[18]else[]):=by
 have hs:zA (gu (cU l st))=cU l st:=by rcases ho with h |h |h<;>rw[h]<;>decide
 have LC:gu (cU l st)=15∨gu (cU l st)=18∨gu (cU l st)=19:=by
  grind[gu]
 have he:0<zA (gu (cU l st)):=by grind
 have hb:jE st l.length (gu (cU l st))=Ge l st:=by
  unfold jE Ge;rw[iJ he];by_cases pK:cU l st=17
  ·rw[iJ pK,iJ (.inr (by rw[pK];rfl))]
  ·rw[iQ pK,iQ];rcases ho with h |h |h
   ·rw[h];decide
   ·grind
   ·rw[h];decide
 have hw:xW l st (one (gu (cU l st)))=0:=by
  unfold xW
  rw[iQ (by rcases LC with h |h |h<;>rw[h]<;>decide),iQ (λhh=>hh.2 hs.symm),iQ (λhh=>by grind),iQ (λhh=>by
   have:=hh.1
   rcases LC with h |h |h<;>rw[h]at this<;>exact absurd this od)]
 have h5:=B.oV;have:=B.lf (Tf calm omQ) hw (by grind) (by grind[Ge]);rw[hb]at this;refine⟨this,?_⟩;unfold XR Ge zz;have hd:(st.dropLast.map λp=>(qO (l++[one (gu (cU l st))]) p).1)=(zz l st).dropLast:=by have:=GH (t:=[one (gu (cU l st))]) B.tB.dropLast;simp_all[zz,List.map_dropLast]
 split
 ·rename_i pK;have e:=XT (l:=l) (t:=[one (gu (cU l st))]) (k:=0) (x:=one (gu (cU l st))) rfl;rw[Nat.add_zero]at e;rw[List.map_append,hd,List.map_singleton,e,pK];rfl
 ·rw[hd,List.append_nil];rfl
theorem qKe {l:List qR} {st:List Int} (hn:st≠[]):cU l st=(zz l st).getLast?.getD 0:=by unfold cU zz jq;simp_all[List.getLast?_eq_some_getLast]
theorem dC.fit {calm:Bool} {l:List qR} (B:dC calm l []) (h0:0<l.length) (h40:l.length≤40):xO l=(0,0):=by
 have key:∀d i,i+d=l.length→mB l (l.drop i) i (qE l i)=.inr []:=by
  intro d
  induction d with
  |zero=>
   intro i hi;obtain rfl:i=l.length:=by omega
   rw[List.drop_length,B.top];rfl
  |succ d ih=>
   intro i hi;have ax:i<l.length:=by omega
   rw[Uz ax];have hw:=B.wr i ax;rw[yN ax]at hw;rw[iJ hw];have:=ih (i+1) omQ;grind[jU,yN]
 have hg:=key l.length 0 omQ;have Th:∀j,j<l.length→(gr l 0 [])[j]? =some (jq (qE l j)):=λj hj=>by
  have:=OR (l:=l) l.length 0 omQ j omQ;rw[Nat.zero_add]at this;trivial
 have tD:∀j:Nat,j<l.length→qg (gr l 0 []) (j:Int)=jq (qE l j):=λj hj=>by
  grind[qg,Int.toNat_natCast]
 have hj:∀d i,i+d=l.length→YM l (gr l 0 []) (l.drop i) i=(0,0):=by
  intro d
  induction d with
  |zero=>
   intro i hi;obtain rfl:i=l.length:=by omega
   rw[List.drop_length];rfl
  |succ d ih=>
   intro i hi;have ax:i<l.length:=by omega
   rw[KV ax,iQ,ih (i+1) omQ];rintro⟨ho,hc⟩;have hB:=B.jp i ax;rw[yN ax]at hB;obtain⟨c,c1,c2,c3,_⟩:=hB ho;rw[c1]at hc;rcases hc with hc |⟨hc,nD⟩ |⟨hc,nD⟩
   ·omega
   ·have:c=l.length:=by omega
    subst this;rw[B.top]at c3;rw[tD i ax,← c3]at nD;trivial
   grind
 unfold xO;rw[iQ omQ];have pu:mB l l 0 []=.inr []:=hg;rw[pu];dsimp only;rw[iJ rfl];exact hj l.length 0 omQ
end
section
variable {g h:AH} {L R:List SP}
def Dq (zs:List Int):Prop:=∀z∈zs,0≤z∧z<18446744073709551616
theorem Dq.set {zs:List Int} {i:Nat} {x:Int} (h:Dq zs) (hx:0≤x∧x<18446744073709551616):Dq (zs.set i x):=by
 intro z hz;rcases List.mem_or_eq_of_mem_set hz with h1 |rfl
 ·exact h z h1
 grind
theorem ww {x lo hi:Int} (h:lo≤hi):lo≤zQ x lo hi∧zQ x lo hi≤hi:=by
 unfold zQ;have:=Yq x (show 0<hi-lo+1 by omega)
 grind
def Ti (zs:List Int):Prop:=Dq zs∧zs[0]? =some 0
theorem Ti.set {zs:List Int} {i:Nat} {x:Int} (h:Ti zs) (hx:0≤x∧x<18446744073709551616) (hi:0<i):Ti (zs.set i x):=⟨h.1.set hx,by rw[List.getElem?_set_ne omQ];exact h.2⟩
end
section
variable {g h:AH} {L R:List SP}
def xU (lv:AV) (l:List qR):SP:=aa 46 5 l.length lv (l.flatMap jM)
def KD (ov:AV) (o:List Int):SP:=aa 3 1 o.length ov (o.map (.int .i64))
theorem Gk {n:Nat} (hn:2≤n) {x:Int}:aH n 54 [.int .i64 x] h λv h'=>v=.int .i64 (zQ x 0 6)∧h'=h:=by
 refine aG rfl omQ λk hk=>?_;unfold S54;try simp only[iZ]
 refine qW (xV omQ omQ omQ omQ) ?_;rintro _ _ ⟨rfl,rfl⟩;exact qY ⟨rfl,rfl⟩
theorem Qo {l:List qR} {lv:AV} {t:List qR} {tv:AV} {K2:AV→AH→Go.Ae.R} {Q:AV→AH→Prop} {D':Nat→Prop} (H:HS g h (xU lv l::R)) (S:Sl D' h 5 t.length tv (t.flatMap jM)) (hl:l.length+t.length≤100000)
  (w:∀v' h',HS g h' (xU v' (l++t)::R)→wp (K2 v' h') Q):wp (xk h 46 5 lv tv K2) Q:=by
 refine zX H S omQ omQ (VY t) λv' h' H'=>w v' h' ?_;simp_all[xU,List.length_append,List.flatMap_append]
theorem Tj {a n:Int} (h:0≤a∧a≤7):wq (1,a,0,0,n)=true:=by grind[wq,zJ,wW]
theorem FN {a b:Int} (h:0≤a∧a≤7) (h2:0≤b∧b≤7):wq (2,a,b,0,0)=true:=by grind[wq,zJ,wW]
theorem FO {o a b c:Int} (ho:3≤o∧o≤7) (h:0≤a∧a≤7) (h2:0≤b∧b≤7) (h3:0≤c∧c≤7):wq (o,a,b,c,0)=true:=by
 rcases(show o=3∨o=4∨o=5∨o=6∨o=7 by omega)with rfl |rfl |rfl |rfl |rfl<;>(grind[wq,zJ,wW])
theorem K3 {o a b c:Int} (ho:o=8∨o=9) (h:0≤a∧a≤7) (h2:0≤b∧b≤7) (h3:0≤c∧c≤15):wq (o,a,b,c,0)=true:=by
 rcases ho with rfl |rfl<;>(grind[wq,zJ,wW])
theorem qk7 {a b:Int} (h:0≤a∧a≤7) (h2:0≤b∧b≤7):wq (10,a,b,0,0)=true:=by grind[wq,zJ,wW]
theorem qg2 {o a:Int} (ho:o=11∨o=21) (h:0≤a∧a≤7):wq (o,a,0,0,0)=true:=by
 rcases ho with rfl |rfl<;>(grind[wq,zJ,wW])
theorem qkC {a c:Int} (h:0≤a∧a≤7) (h3:0≤c∧c≤40):wq (13,a,0,c,0)=true:=by grind[wq,zJ,wW]
structure NF (x:qR):Prop where
  flat:Flat x.1
  nj:x.1≠12∧x.1≠13
  ok:∀calm,Uv calm x
theorem NF.of {x:qR} (h1:wq x=true) (h2:(1≤x.1∧x.1≤11)∨x.1=21) (h3:0≤x.2.2.2.2∧x.2.2.2.2<18446744073709551616):NF x :=
 ⟨⟨by omega,by omega,by omega,by omega,by omega,by omega⟩,by omega,λ_=>⟨h1,by omega,h3,λ_=>by omega⟩⟩
set_option maxHeartbeats 4000000 in
theorem G6 {n:Nat} (hn:3≤n) {kx:qR} (hN:0≤kx.2.2.2.2∧kx.2.2.2.2<18446744073709551616) (H:HS g h R) :
  aH n 55 [.agg (jM kx)] h λr h'=>∃x,r=.agg (jM x)∧NF x∧HS g h' R:=by
 refine aG rfl omQ λk hk=>?_;unfold S55;try simp only[iZ]
 refine qM H rfl λb0 h1 H1=>?_;refine qM H1 rfl λb2 h2 H2=>?_;have H2:HS g h2 (qk b2 [.int .i64 ((0:Nat):Int),.int .i64 ((0:Nat):Int),.int .i64 ((0:Nat):Int),.int .i64 ((0:Nat):Int),.int .u64 ((0:Nat):Int)]::qk b0 (jM kx)::R):=H2;clear H H1;refine qX ?_
 try dsimp only
 refine qQ (qK H2 e_1 rfl ?_);refine qW (Gk omQ) ?_;rintro _ _ ⟨rfl,rfl⟩;refine qQ (qK H2 e_1 rfl ?_);refine qW (Gk omQ) ?_;rintro _ _ ⟨rfl,rfl⟩;refine qQ (qK H2 e_1 rfl ?_);refine qW (Gk omQ) ?_;rintro _ _ ⟨rfl,rfl⟩;refine qT H2 e_1 rfl H2 e_1 rfl (HS.lt H2 e_1)<|qT H2 e_1 rfl H2 e_1 rfl (HS.lt H2 e_1)<|qT H2 e_1 rfl H2 e_1 rfl (HS.lt H2 e_1)<|qQ (qK H2 e_1 rfl ?_);refine qW (xV omQ omQ omQ omQ) ?_;rintro _ _ ⟨rfl,rfl⟩;refine qQ (qK H2 e_1 rfl ?_);refine qW (xV omQ omQ omQ omQ) ?_;rintro _ _ ⟨rfl,rfl⟩;have ha:=zu kx.2.1 (show(0:Int)≤6 by omega);have hb:=zu kx.2.2.1 (show(0:Int)≤6 by omega);have hc:=zu kx.2.2.2.1 (show(0:Int)≤6 by omega);have dJ:=zu kx.2.2.2.1 (show(((6:Nat):Int))≤((15:Nat):Int) by omega);have hw:=zu kx.1 (show(((0:Nat):Int))≤((19:Nat):Int) by omega);generalize zQ kx.2.1 0 6=a at*;generalize zQ kx.2.2.1 0 6=b at*;generalize zQ kx.2.2.2.1 0 6=c at*;generalize zQ kx.2.2.2.1 ((6:Nat):Int) ((15:Nat):Int)=at_ at*;generalize zQ kx.1 ((0:Nat):Int) ((19:Nat):Int)=w at*;have fin:∀(x:qR) (h0:AH),NF x→HS g h0 (qk b2 [.int .i64 ((0:Nat):Int),.int .i64 ((0:Nat):Int),.int .i64 ((0:Nat):Int),.int .i64 ((0:Nat):Int),.int .u64 ((0:Nat):Int)]::qk b0 (jM kx)::R)→
   wp (zV h0 (.ptr b2 0) (.agg (jM x)) 5 λh22=>xB [] h22 λsZ=>zp sZ (.ptr b2 0) 5 λv24=>some (v24,sZ)) λr h'=>∃x,r=.agg (jM x)∧NF x∧HS g h' R:=by
  intro x h0 hx H0;refine qe H0 .here rfl (by simp) rfl λh6 H6=>?_;have H6:HS g h6 (qk b2 (jM x)::qk b0 (jM kx)::R):=H6;refine qx (qD H6 .here rfl omQ rfl ?_);exact qY ⟨x,rfl,hx,H6.drop.drop⟩
 have z0:(0:Int)≤0∧(0:Int)<18446744073709551616:=by omega
 have hd:w=0∨w=1∨w=2∨w=3∨w=4∨w=5∨w=6∨w=7∨w=8∨w=9∨w=10∨w=11∨w=12∨w=13∨w=14∨w=15∨w=16∨17≤w:=by omega
 rcases hd with h0 |h0 |h0 |h0 |h0 |h0 |h0 |h0 |h0 |h0 |h0 |h0 |h0 |h0 |h0 |h0 |h0 |h0
 all_goals (first |with_reducible (refine qX<|qV omQ<|qJ<|qV omQ<|qJ<|qV omQ<|qJ<|qV omQ<|qJ<|qV omQ<|qJ<|qX<|qV omQ<|qJ<|qV omQ<|qJ<|qV omQ<|qJ<|qX<|qV omQ<|qJ<|qV omQ<|qJ<|qV omQ<|qJ<|qV omQ<|qJ<|qV omQ<|qJ<|qX<|qV omQ<|qJ<|qV omQ<|qJ<|qV omQ<|qJ<|qz omQ<|qZ<|qI rfl ?_) |with_reducible (refine qX<|qV omQ<|qJ<|qV omQ<|qJ<|qV omQ<|qJ<|qV omQ<|qJ<|qV omQ<|qJ<|qX<|qV omQ<|qJ<|qV omQ<|qJ<|qV omQ<|qJ<|qX<|qV omQ<|qJ<|qV omQ<|qJ<|qV omQ<|qJ<|qV omQ<|qJ<|qV omQ<|qJ<|qX<|qV omQ<|qJ<|qV omQ<|qJ<|qV omQ<|qJ<|qV omQ<|qJ<|qI rfl ?_) |with_reducible (refine qX<|qV omQ<|qJ<|qV omQ<|qJ<|qV omQ<|qJ<|qV omQ<|qJ<|qV omQ<|qJ<|qX<|qV omQ<|qJ<|qV omQ<|qJ<|qV omQ<|qJ<|qX<|qV omQ<|qJ<|qV omQ<|qJ<|qV omQ<|qJ<|qV omQ<|qJ<|qV omQ<|qJ<|qX<|qV omQ<|qJ<|qV omQ<|qJ<|qz omQ<|qZ<|qI rfl ?_) |with_reducible (refine qX<|qV omQ<|qJ<|qV omQ<|qJ<|qV omQ<|qJ<|qV omQ<|qJ<|qV omQ<|qJ<|qX<|qV omQ<|qJ<|qV omQ<|qJ<|qV omQ<|qJ<|qX<|qV omQ<|qJ<|qV omQ<|qJ<|qV omQ<|qJ<|qV omQ<|qJ<|qV omQ<|qJ<|qX<|qV omQ<|qJ<|qz omQ<|qZ<|qI rfl ?_) |with_reducible (refine qX<|qV omQ<|qJ<|qV omQ<|qJ<|qV omQ<|qJ<|qV omQ<|qJ<|qV omQ<|qJ<|qX<|qV omQ<|qJ<|qV omQ<|qJ<|qV omQ<|qJ<|qX<|qV omQ<|qJ<|qV omQ<|qJ<|qV omQ<|qJ<|qV omQ<|qJ<|qV omQ<|qJ<|qX<|qz omQ<|qZ<|qZ<|qI rfl ?_) |with_reducible (refine qX<|qV omQ<|qJ<|qV omQ<|qJ<|qV omQ<|qJ<|qV omQ<|qJ<|qV omQ<|qJ<|qX<|qV omQ<|qJ<|qV omQ<|qJ<|qV omQ<|qJ<|qX<|qV omQ<|qJ<|qV omQ<|qJ<|qV omQ<|qJ<|qV omQ<|qJ<|qz omQ<|qZ<|qQ<|qK ‹_› e_1 rfl ?_) |with_reducible (refine qX<|qV omQ<|qJ<|qV omQ<|qJ<|qV omQ<|qJ<|qV omQ<|qJ<|qV omQ<|qJ<|qX<|qV omQ<|qJ<|qV omQ<|qJ<|qV omQ<|qJ<|qX<|qV omQ<|qJ<|qV omQ<|qJ<|qV omQ<|qJ<|qz omQ<|qZ<|qQ<|qK ‹_› e_1 rfl ?_) |with_reducible (refine qX<|qV omQ<|qJ<|qV omQ<|qJ<|qV omQ<|qJ<|qV omQ<|qJ<|qV omQ<|qJ<|qX<|qV omQ<|qJ<|qV omQ<|qJ<|qV omQ<|qJ<|qX<|qV omQ<|qJ<|qV omQ<|qJ<|qz omQ<|qZ<|qI rfl ?_) |with_reducible (refine qX<|qV omQ<|qJ<|qV omQ<|qJ<|qV omQ<|qJ<|qV omQ<|qJ<|qV omQ<|qJ<|qX<|qV omQ<|qJ<|qV omQ<|qJ<|qV omQ<|qJ<|qX<|qV omQ<|qJ<|qz omQ<|qZ<|qZ<|qI rfl ?_) |with_reducible (refine qX<|qV omQ<|qJ<|qV omQ<|qJ<|qV omQ<|qJ<|qV omQ<|qJ<|qV omQ<|qJ<|qX<|qV omQ<|qJ<|qV omQ<|qJ<|qV omQ<|qJ<|qX<|qz omQ<|qZ<|qZ<|qI rfl ?_) |with_reducible (refine qX<|qV omQ<|qJ<|qV omQ<|qJ<|qV omQ<|qJ<|qV omQ<|qJ<|qV omQ<|qJ<|qX<|qV omQ<|qJ<|qV omQ<|qJ<|qz omQ<|qZ<|qI rfl ?_) |with_reducible (refine qX<|qV omQ<|qJ<|qV omQ<|qJ<|qV omQ<|qJ<|qV omQ<|qJ<|qV omQ<|qJ<|qX<|qV omQ<|qJ<|qz omQ<|qZ<|qZ<|qI rfl ?_) |with_reducible (refine qX<|qV omQ<|qJ<|qV omQ<|qJ<|qV omQ<|qJ<|qV omQ<|qJ<|qV omQ<|qJ<|qX<|qz omQ<|qZ<|qZ<|qI rfl ?_) |with_reducible (refine qX<|qV omQ<|qJ<|qV omQ<|qJ<|qV omQ<|qJ<|qV omQ<|qJ<|qz omQ<|qZ<|qQ<|qK ‹_› e_1 rfl ?_) |with_reducible (refine qX<|qV omQ<|qJ<|qz omQ<|qZ<|qQ<|qK ‹_› e_1 rfl<|qI rfl ?_) |with_reducible (refine qX<|qV omQ<|qJ<|qV omQ<|qJ<|qz omQ<|qZ<|qQ<|qK ‹_› e_1 rfl ?_) |with_reducible (refine qX<|qV omQ<|qJ<|qV omQ<|qJ<|qV omQ<|qJ<|qz omQ<|qZ<|qI rfl ?_) |with_reducible (refine qX<|qz omQ<|qZ<|qZ<|qQ<|qK ‹_› e_1 rfl<|qI rfl ?_))
 ·exact fin (1,a,0,0,kx.2.2.2.2) _ (.of (Tj omQ) (by dsimp only;omega) hN) H2
 ·exact fin (1,a,0,0,kx.2.2.2.2) _ (.of (Tj omQ) (by dsimp only;omega) hN) H2
 ·refine QD od ?_;obtain⟨m,hm⟩:∃m:Nat,kx.2.2.2.2=m:=⟨kx.2.2.2.2.toNat,by omega⟩;have ht:kx.2.2.2.2.tmod ((20:Nat):Int)=((m%20:Nat):Int):=by rw[hm];rfl
  rw[ht];refine qI rfl<|fin (1,a,0,0,((m%20:Nat):Int)) _ (.of (Tj omQ) (by dsimp only;omega) (by dsimp only;omega)) H2
 ·exact fin (2,a,b,0,0) _ (.of (FN omQ omQ) (by dsimp only;omega) z0) H2
 ·refine QD od ?_;obtain⟨m,hm⟩:∃m:Nat,kx.2.2.2.2=m:=⟨kx.2.2.2.2.toNat,by omega⟩;have ht:kx.2.2.2.2.tmod ((64:Nat):Int)=((m%64:Nat):Int):=by rw[hm];rfl
  rw[ht];refine yz omQ<|qW (xV omQ omQ omQ omQ) ?_;rintro _ _ ⟨rfl,rfl⟩;have ho:=zu ((m%64:Nat):Int) (show(((0:Nat):Int))≤((4:Nat):Int) by omega);generalize zQ ((m%64:Nat):Int) ((0:Nat):Int) ((4:Nat):Int)=o at*;refine qa omQ<|qI rfl<|fin (((3:Nat):Int)+o,a,b,c,0) _ (.of (FO omQ omQ omQ omQ) (by dsimp only;omega) z0) H2
 ·exact fin (8,a,7,at_,0) _ (.of (K3 (.inl rfl) omQ omQ omQ) (by dsimp only;omega) z0) H2
 ·exact fin (8,a,7,at_,0) _ (.of (K3 (.inl rfl) omQ omQ omQ) (by dsimp only;omega) z0) H2
 ·exact fin (8,a,7,at_,0) _ (.of (K3 (.inl rfl) omQ omQ omQ) (by dsimp only;omega) z0) H2
 ·exact fin (9,7,b,at_,0) _ (.of (K3 (.inr rfl) omQ omQ omQ) (by dsimp only;omega) z0) H2
 ·exact fin (9,7,b,at_,0) _ (.of (K3 (.inr rfl) omQ omQ omQ) (by dsimp only;omega) z0) H2
 ·exact fin (9,7,b,at_,0) _ (.of (K3 (.inr rfl) omQ omQ omQ) (by dsimp only;omega) z0) H2
 ·refine qW (xV omQ omQ omQ omQ) ?_;rintro _ _ ⟨rfl,rfl⟩;have ho:=zu kx.2.2.2.1 (show(((0:Nat):Int))≤((3:Nat):Int) by omega);generalize zQ kx.2.2.2.1 ((0:Nat):Int) ((3:Nat):Int)=o at*;refine qI rfl<|fin (8,a,b,o,0) _ (.of (K3 (.inl rfl) omQ omQ omQ) (by dsimp only;omega) z0) H2
 ·refine qW (xV omQ omQ omQ omQ) ?_;rintro _ _ ⟨rfl,rfl⟩;have ho:=zu kx.2.2.2.1 (show(((0:Nat):Int))≤((3:Nat):Int) by omega);generalize zQ kx.2.2.2.1 ((0:Nat):Int) ((3:Nat):Int)=o at*;refine qI rfl<|fin (9,a,b,o,0) _ (.of (K3 (.inr rfl) omQ omQ omQ) (by dsimp only;omega) z0) H2
 ·exact fin (10,a,b,0,0) _ (.of (qk7 omQ omQ) (by dsimp only;omega) z0) H2
 ·exact fin (10,a,b,0,0) _ (.of (qk7 omQ omQ) (by dsimp only;omega) z0) H2
 ·exact fin (11,a,0,0,0) _ (.of (qg2 (.inl rfl) omQ) (by dsimp only;omega) z0) H2
 ·exact fin (8,a,7,at_,0) _ (.of (K3 (.inl rfl) omQ omQ omQ) (by dsimp only;omega) z0) H2
 ·exact fin (21,a,0,0,0) _ (.of (qg2 (.inr rfl) omQ) (by dsimp only;omega) z0) H2
end
section
variable {g h:AH} {L R:List SP}
theorem qVe (l:List Int):qt (l.map (AV.int .i64))=true:=by unfold qt;rw[List.all_eq_true];intro y hy;obtain⟨z,_,rfl⟩:=List.mem_map.1 hy;rfl
theorem kS (l:List qR) (st:List Int):(zz l st).length=st.length:=by simp[zz]
theorem Tk {l:List qR} {st:List Int} (hn:st≠[]):(zz l st)[st.length-1]? =some (cU l st):=by have hl:=List.length_pos_iff.2 hn;rw[qKe hn,List.getLast?_eq_getElem?,kS,iW (by grind[kS])];rfl
theorem N0 {l:List qR} {st:List Int}:(XR l st).length=l.length+1:=by simp[XR]
theorem qJ2 {n:Nat} (hn:1≤n) {calm:Bool} {l:List qR} {st:List Int} {lv ov:AV} (B:dC calm l st) (bJ:st≠[]) (ho:cU l st=14∨cU l st=17∨cU l st=18) (hl:l.length≤1000)
  (H:HS g h (xU lv l::KD ov (zz l st)::R)) :
  aH n 53 [lv,ov] h λr h'=>∃pL pM,r=.cn [pL,pM]∧HS g h' (xU pL (XR l st)::KD pM (zz (XR l st) (Ge l st))::R):=by
 refine bw (S:=S53) rfl omQ λk hk=>?_;unfold S53;try simp only[iZ]
 have hp:=List.length_pos_iff.2 bJ;have h5:=B.oV;have eu:=kS l st;have dJ:=Tk (l:=l) bJ;obtain⟨B2,rD⟩:=B.shut bJ ho;rw[rD];have H0:HS g h (aa 46 5 l.length lv (l.flatMap jM)::aa 3 1 (zz l st).length ov ((zz l st).map (.int .i64))::R):=H;refine qu H0 e_1 ?_;rw[eu];refine zL omQ ?_;rw[show(st.length:Int)-((1:Nat):Int)=((st.length-1:Nat):Int) by omega];refine zY (H0.sl e_1) (x:=.int .i64 (cU l st)) (by grind) ?_;have hdl:(zz l st).dropLast=(zz l st).take (st.length-1):=by rw[List.dropLast_eq_take,eu]
 have tail:∀(op:Int),(cU l st=14∧op=15∨cU l st=18∧op=19)→
   wp (yp (α:=AV×AV×Unit→AH→Go.Ae.R) (λs5 h6=>some ((.cn [s5.2.1,s5.1]),h6)) λj7=>yi [(.int .i64 ((0:Nat):Int)),(.int .i64 ((0:Nat):Int)),(.int .i64 ((0:Nat):Int)),(.int .i64 ((0:Nat):Int)),(.int .u64 ((0:Nat):Int))] [(0,1,(.int .i64 op))] λv8=>
    xL h 46 [(.int .i64 ((0:Nat):Int)),(.int .i64 ((0:Nat):Int)),(.int .i64 ((0:Nat):Int)),(.int .i64 ((0:Nat):Int)),(.int .u64 ((0:Nat):Int))] 1 [(0,5,v8)] λv9 eM=>
    xk eM 46 5 lv v9 λv11 mP=>yh mP 3 1 ov none (some (.int .i64 ((st.length-1:Nat):Int))) λog=>
    Xz ov (some (3*65536+1)) og eM mP h.nx<| j7 (og,v11,()) mP)
   λr h'=>∃pL pM,r=.cn [pL,pM]∧HS g h' (xU pL (XR l st)::KD pM ((zz l st).dropLast++(if cU l st=17 then[18]else[]))::R):=by
  intro op lD;refine qX ?_
  try dsimp only
  refine qI (l:=jM (one op)) rfl<|qh (n:=1) (l:=jM (one op)) (sz:=5) H0 rfl rfl rfl rfl λv9 eM fw=>?_;have S:Sl (λ_=>True) eM 5 [one op].length v9 ([one op].flatMap jM):=fw.sl .here;refine Qo (fw.aM (P:=xU lv l) e_1) S (by grind) λv11 mP cw=>?_;refine Y8 (hi:=st.length-1) (cw.aM (P:=aa 3 1 (zz l st).length ov ((zz l st).map (.int .i64))) e_2) omQ omQ λog Di=>?_;refine qv6 fw (s:=e_2) cw e_2 H0 e_1 omQ omQ rfl ?_;rw[Nat.mul_one,← List.map_take,← hdl]at Di;have pK:¬cU l st=17:=by omega
  rw[iQ pK,List.append_nil];refine qY ⟨v11,og,rfl,?_⟩;have e:XR l st=l++[one op]:=by
   grind[XR,gu]
  rw[e];unfold KD;rw[show(zz l st).dropLast.length=st.length-1 by grind];exact Di.pk [1,0] 1
 by_cases A6:cU l st=14
 ·refine qz A6 (qZ ?_);exact tail 15 (.inl ⟨A6,rfl⟩)
 refine qV A6 (qJ ?_);by_cases LD:cU l st=17
 ·refine qz LD (qZ ?_);refine Y8 (hi:=st.length-1) (H0.aM e_1) omQ omQ λsY H2=>?_;rw[Nat.mul_one,← List.map_take,← hdl]at H2;have hdn:(zz l st).dropLast.length=st.length-1:=by grind
  have S:Sl (λ_=>True) h 1 (st.length-1) sY ((zz l st).dropLast.map (.int .i64)):=H2.sl .here;refine zX (H2.ap) S omQ omQ (qVe _) λrN h3 H3=>?_;rw[List.nil_append,Nat.zero_add]at H3;refine qh H3 rfl rfl rfl rfl λoP h4 H4=>?_;refine zX (H4.aM e_1) (H4.sl .here) omQ omQ rfl λv20 h5 H5=>?_;refine qI rfl<|qh H5 rfl rfl rfl rfl λrO h6 H6=>?_;have S6:Sl (λ_=>True) h6 5 [one 18].length rO ([one 18].flatMap jM):=H6.sl .here;refine Qo (H6.aM e_4) S6 (by grind) λpH h7 H7=>?_;rw[iJ LD];refine qY ⟨pH,v20,rfl,?_⟩;have e:XR l st=l++[one 18]:=by grind[XR,gu]
  rw[e];unfold KD;rw[List.length_append,hdn,List.map_append];exact H7.pk [0,1] 3
 ·refine qV LD (qJ ?_);exact tail 19 (.inr ⟨by omega,rfl⟩)
def X8 (o:List Int):Nat:=(o.map λx=>if x=17 then 2 else 1).sum
theorem qZn (a b:List Int):X8 (a++b)=X8 a+X8 b:=by simp[X8]
theorem jZC (o:List Int):X8 o≤2*o.length:=by
 induction o with
 |nil=>simp[X8]
 |cons x o ih=>simp only[X8,List.map_cons,List.sum_cons,List.length_cons]at*;grind
theorem qj2 {l:List qR} {st:List Int} (bJ:st≠[]):X8 ((zz l st).dropLast++(if cU l st=17 then[18]else[]))+1=X8 (zz l st):=by
 have h1:zz l st≠[]:=by intro h;have:=congrArg List.length h;simp_all[kS,iA]
 have h2:=List.dropLast_concat_getLast h1;have h3:(zz l st).getLast h1=cU l st:=by grind[qKe,List.getLast?_eq_some_getLast]
 grind[X8,zz,cU,qZn]
def oW (l:List qR) (st:List Int):Prop:=∀o∈zz l st,o=14∨o=17∨o=18
theorem oW.at {l:List qR} {st:List Int} (h:oW l st) (bJ:st≠[]):cU l st=14∨cU l st=17∨cU l st=18:=h _ (List.mem_of_getElem? (Tk bJ))
set_option maxHeartbeats 8000000 in
theorem qvI {n:Nat} (hn:5≤n) {calm:Bool} {ks:List qR} {kv:AV} {most:Int} (hN:∀x∈ks,0≤x.2.2.2.2∧x.2.2.2.2<18446744073709551616) (hm:1≤most∧most≤40) (H:HS g h R) (S:Rd g R 5 ks.length kv (ks.flatMap jM)) :
  aH n 29 [kv,.int .i64 most,.bool calm] h λr h'=>∃lv l,r=.agg [lv]∧dC calm l []∧0<l.length∧(l.length:Int)≤most∧HS g h' (xU lv l::R):=by
 refine cY (S:=S29) rfl omQ λk hk=>?_;unfold S29;try simp only[iZ]
 refine qM H rfl λb0 h1 H1=>?_;clear H;have H1:=(H1.ap (e:=3) (sz:=1)).ap (e:=46) (sz:=5);refine zv [] (λs h'=>∃(l:List qR) (st:List Int) (lv ov:AV),s=(ov,lv,.ptr b0 0,())∧dC calm l st∧oW l st∧(l.length:Int)+2*st.length≤most∧HS g h' (xU lv l::KD ov (zz l st)::qk b0 [.ap]::R)) ?_ ?_
 rotate_left
 ·rintro s h2 ⟨l,st,lv,ov,rfl,B,OK,hle,H2⟩;dsimp only;have hW:(l.length:Int)+X8 (zz l st)≤most:=by
   have:=jZC (zz l st);rw[kS]at this;omega
  refine jS (λm s h'=>∃(l:List qR) (st:List Int) (lv ov:AV),s=(ov,lv,.ptr b0 0,())∧m=X8 (zz l st)∧dC calm l st∧oW l st∧(l.length:Int)+X8 (zz l st)≤most∧HS g h' (xU lv l::KD ov (zz l st)::qk b0 [.ap]::R))
   ?_ (m:=X8 (zz l st)) (by show _<1000000000;omega) ⟨l,st,lv,ov,rfl,rfl,B,OK,hW,H2⟩
  clear H2 hW hle OK B st lv ov l;rintro m ih s h3 bN ⟨l,st,lv,ov,rfl,rfl,B,OK,hW,H⟩;dsimp only;have eu:=kS l st;refine qu (n:=(zz l st).length) (H:HS g h3 (xU lv l::aa 3 1 (zz l st).length ov ((zz l st).map (.int .i64))::qk b0 [.ap]::R)) e_1 ?_;rw[eu];by_cases h0:st=[]
  ·subst h0;refine yj aW (qJ ?_);refine zv [] (λs h'=>∃(l:List qR) (lv:AV),s=(lv,.ptr b0 0,())∧dC calm l []∧0<l.length∧(l.length:Int)≤most∧HS g h' (xU lv l::qk b0 [.ap]::R)) ?_ ?_
   ·intro j hj;refine qu (n:=l.length) (H:HS g h3 (aa 46 5 l.length lv (l.flatMap jM)::KD ov (zz l [])::qk b0 [.ap]::R)) .here ?_;by_cases l5:l.length=0
    ·refine qz omQ (qZ ?_);obtain rfl:=iA l5;refine qI (l:=jM (1,0,0,0,1)) rfl<|qh (n:=1) (l:=jM (1,0,0,0,1)) (sz:=5) H rfl rfl rfl rfl λuJ h4 H4=>?_;have S1:Sl (λ_=>True) h4 5 [((1,0,0,0,1):qR)].length uJ ([((1,0,0,0,1):qR)].flatMap jM):=H4.sl .here;refine Qo (H4.aM (P:=xU lv []) e_1) S1 aW λE8 h5 H5=>?_;refine hj _ _ ⟨_,E8,rfl,B.flat (x:=(1,0,0,0,1)) ⟨by decide,by decide,by decide,λ_=>by decide⟩ (by unfold Flat;decide) od,by simp,by simp;omega,H5.sub (.cons .here (.drop (.drop (.cons .here .refl))))⟩
    ·refine qV omQ (qJ ?_);exact hj _ _ ⟨l,lv,rfl,B,by omega,by omega,H.sub (.cons .here (.drop (.cons .here .refl)))⟩
   ·rintro s h5 ⟨l,lv,rfl,B,l5,hlm,H5⟩;dsimp only;have ol:=H5.one (e:=46) (sz:=5) (n:=l.length) .here;refine qI (l:=[lv]) (by simp only[vL,ol.1];rfl)<|qe H5 (b:=b0) e_1 rfl aW (by show qt [lv]=true;simp[qt,ol.2]) λh6 H6=>?_;have H6:HS g h6 (qk b0 [lv]::xU lv l::R):=H6;refine qx (qD H6 (b:=b0) (off:=0) .here rfl omQ (l:=[lv]) rfl ?_);exact qY ⟨lv,l,rfl,B,l5,hlm,H6.drop⟩
  ·have hp:=List.length_pos_iff.2 h0;refine yc omQ (qZ ?_);refine qW (qJ2 omQ B h0 (OK.at h0) omQ H) ?_;rintro _ h4 ⟨pL,pM,rfl,H4⟩;obtain⟨B2,rD⟩:=B.shut h0 (OK.at h0);have hw:=qj2 (l:=l) h0;rw[← rD]at hw;refine qy rfl (qy rfl ?_);refine bN (X8 (zz (XR l st) (Ge l st))) _ _ omQ ⟨_,_,pL,pM,rfl,rfl,B2,?_,by rw[N0];omega,H4⟩;intro o ho;rw[rD]at ho;rcases List.mem_append.1 ho with ho |ho
   ·exact OK o ((List.dropLast_sublist _).subset ho)
   ·split at ho
    ·rw[List.mem_singleton]at ho;omega
    ·cases ho
 intro j5 LH;refine jS (λm s h'=>∃(i:Nat) (l:List qR) (st:List Int) (lv ov:AV),s=(.int .i64 (i:Int),ov,lv,.ptr b0 0,.bool calm,.int .i64 most,kv,())∧m=41-l.length∧i≤l.length∧dC calm l st∧oW l st∧(l.length:Int)+2*st.length≤most∧HS g h' (xU lv l::KD ov (zz l st)::qk b0 [.ap]::R))
  ?_ (m:=41) (by show _<1000000000;omega) ⟨0,[],[],.ap,.ap,rfl,rfl,by simp,dC.nil calm,(λo ho=>by cases ho),by simp;omega,H1⟩
 clear H1;rintro m ih s h2 bN ⟨i,l,st,lv,ov,rfl,rfl,mN,B,OK,hle,H⟩;dsimp only;refine yy (S.sl H.drop.drop.drop)<|xp (λax=>qZ ?_) λeY=>qJ (LH _ _ ⟨l,st,lv,ov,rfl,B,OK,hle,H⟩);have ax:i<ks.length:=by omega
 refine xQ (l:=jM ks[i]) (S.sl H.drop.drop.drop) ax omQ (vP (sz:=5) (λ_=>rfl) (iW ax)) ?_;have Tl:=hN ks[i] (List.getElem_mem ax);generalize ks[i]=kx at*;refine qM H rfl λb3 h3 H3=>qe H3 .here rfl (by show 0+5≤5;omega) rfl λh5 H5=>?_;have H5:HS g h5 (qk b3 (jM kx)::xU lv l::KD ov (zz l st)::qk b0 [.ap]::R):=H5;have H6:HS g h5 (qk b3 (jM kx)::aa 46 5 l.length lv (l.flatMap jM)::aa 3 1 (zz l st).length ov ((zz l st).map (.int .i64))::qk b0 [.ap]::R):=H5;clear H H3;have eu:=kS l st;refine qu H6 e_2 ?_;rw[eu];refine qu H6 e_1<|Vl omQ (qa omQ (qa omQ ?_));refine QQ (λhg=>qZ (LH _ _ ⟨l,st,lv,ov,rfl,B,OK,hle,H5.drop⟩)) λhg=>qJ<|qQ (qK H5 (b:=b3) .here rfl ?_);refine qW (xV omQ omQ omQ omQ) ?_;rintro _ h5 ⟨rfl,rfl⟩;have rS:=zu kx.1 (show(((0:Nat):Int))≤((40:Nat):Int) by omega);generalize zQ kx.1 ((0:Nat):Int) ((40:Nat):Int)=w at*;refine zv [] (λs h'=>∃(l':List qR) (st':List Int) (pL pM:AV),s=(.int .i64 (i:Int),pM,pL,.ptr b0 0,.bool calm,.int .i64 most,kv,())∧dC calm l' st'∧oW l' st'∧(l'.length:Int)+2*st'.length≤most∧l.length<l'.length∧HS g h' (xU pL l'::KD pM (zz l' st')::qk b0 [.ap]::R)) ?_ ?_
 rotate_left
 ·rintro s h7 ⟨l',st',pL,pM,rfl,B',OK',uv,uA,H7⟩;dsimp only;refine qa omQ<|bN (41-l'.length) _ _ omQ ⟨i+1,l',st',pL,pM,rfl,rfl,by omega,B',OK',uv,H7⟩
 intro j hj;have hfive:=B.oV;have sh:l.length≤100:=by omega
 have same:∀{t:List qR},oW (l++t) st:=λ{t} o ho=>OK o (by rw[GH B.tB]at ho;exact ho);have lO:∀{t:List qR},zz (l++t) st=zz l st:=GH B.tB
 have eH:wp (zp h5 (.ptr b3 0) 5 λv218=>zS (callT tab qj k) (.fn 55 [] []) [v218] h5 λTm Tn=>xL Tn 46 [(.int .i64 ((0:Nat):Int)),(.int .i64 ((0:Nat):Int)),(.int .i64 ((0:Nat):Int)),(.int .i64 ((0:Nat):Int)),(.int .u64 ((0:Nat):Int))] 1 [(0,5,Tm)] λTo Tp=>
   xk Tp 46 5 lv To λTq Ts=>j (.int .i64 (i:Int),ov,Tq,.ptr b0 0,.bool calm,.int .i64 most,kv,()) Ts []) (λr h'=>∃lv l,r=.agg [lv]∧dC calm l []∧0<l.length∧(l.length:Int)≤most∧HS g h' (xU lv l::R)):=by
  refine qD H5 (b:=b3) (off:=0) .here rfl omQ (l:=jM kx) rfl<|qW (G6 omQ Tl H5) ?_;rintro _ h7 ⟨x,rfl,hx,H7⟩;refine qh (n:=1) (l:=jM x) (sz:=5) H7 rfl rfl rfl rfl λv8 h8 H8=>?_;have S1:Sl (λ_=>True) h8 5 [x].length v8 ([x].flatMap jM):=by simpa using H8.sl .here
  refine Qo (H8.aM (P:=xU lv l) e_2) S1 (by simp;omega) λv9 h9 H9=>?_;refine hj _ _ ⟨l++[x],st,v9,ov,rfl,B.flat (hx.ok calm) hx.flat hx.nj,same,by simp;omega,by simp,?_⟩;rw[lO];exact H9.sub (.cons .here (.drop (.drop (.cons .here (.cons .here .refl)))))
 have Tt:∀op:Int,op=14∨op=17→st.length<5→wp (xL h5 46 [(.int .i64 ((0:Nat):Int)),(.int .i64 ((0:Nat):Int)),(.int .i64 ((0:Nat):Int)),(.int .i64 ((0:Nat):Int)),(.int .u64 ((0:Nat):Int))] 1 [(0,5,.agg (jM (one op)))] λRV RX=>xk RX 46 5 lv RV λLh h66=>
   xL h66 3 [(.int .i64 ((0:Nat):Int))] 1 [(0,1,(.int .i64 op))] λRY RZ=>xk RZ 3 1 ov RY λR0 h70=>j (.int .i64 (i:Int),R0,Lh,.ptr b0 0,.bool calm,.int .i64 most,kv,()) h70 []) (λr h'=>∃lv l,r=.agg [lv]∧dC calm l []∧0<l.length∧(l.length:Int)≤most∧HS g h' (xU lv l::R)):=by
  intro op lD hs5;refine qh (n:=1) (l:=jM (one op)) (sz:=5) H5 rfl rfl rfl rfl λv8 h8 H8=>?_;have S1:Sl (λ_=>True) h8 5 [one op].length v8 ([one op].flatMap jM):=by simpa using H8.sl .here
  refine Qo (H8.aM (P:=xU lv l) e_2) S1 (by simp;omega) λv9 h9 H9=>?_;refine qh (n:=1) (l:=[.int .i64 op]) (sz:=1) H9 rfl rfl rfl rfl λv10 eM fw=>?_;refine zX (fw.aM (P:=aa 3 1 (zz l st).length ov ((zz l st).map (.int .i64))) e_4) (fw.sl .here) omQ omQ rfl λv11 dO mA=>?_;obtain⟨B2,ho2⟩:=B.begin lD hs5;refine hj _ _ ⟨l++[one op],st++[(l.length:Int)],v9,v11,rfl,B2,?_,by simp;omega,by simp,?_⟩
  ·intro o ho;rw[ho2]at ho;rcases List.mem_append.1 ho with ho |ho
   ·exact OK o ho
   ·rw[List.mem_singleton]at ho;omega
  ·rw[ho2];unfold KD;rw[List.length_append,List.map_append];exact mA.sub (.cons e_2 (.cons .here (.drop (.drop (.drop (.cons .here .refl))))))
 have shu:0<st.length→wp (zS (callT tab qj k) (.fn 53 [] []) [lv,ov] h5 λv98 h99=>xC v98 0 λTu=>xC v98 1 λoQ=>j (.int .i64 (i:Int),oQ,Tu,.ptr b0 0,.bool calm,.int .i64 most,kv,()) h99 []) (λr h'=>∃lv l,r=.agg [lv]∧dC calm l []∧0<l.length∧(l.length:Int)≤most∧HS g h' (xU lv l::R)):=by
  intro hp;have bJ:=List.length_pos_iff.1 hp;refine qW (qJ2 omQ B bJ (OK.at bJ) omQ (H5.sub (L':=xU lv l::KD ov (zz l st)::qk b3 (jM kx)::qk b0 [.ap]::R) (.cons e_1 (.cons e_1 (.cons .here (.cons .here .refl)))))) ?_;rintro _ h7 ⟨pL,pM,rfl,H7⟩;obtain⟨B2,rD⟩:=B.shut bJ (OK.at bJ);have ng:(Ge l st).length≤st.length:=by unfold Ge;split<;>simp<;>omega
  refine qy rfl (qy rfl ?_);refine hj _ _ ⟨_,_,pL,pM,rfl,B2,?_,by rw[N0];omega,by rw[N0];omega,H7.sub (.cons .here (.cons .here (.drop (.cons .here .refl))))⟩;intro o ho;rw[rD]at ho;rcases List.mem_append.1 ho with ho |ho
  ·exact OK o ((List.dropLast_sublist _).subset ho)
  ·split at ho
   ·rw[List.mem_singleton]at ho;omega
   ·cases ho
 have und:cU l st=14→wp (xL h5 46 [(.int .i64 ((0:Nat):Int)),(.int .i64 ((0:Nat):Int)),(.int .i64 ((0:Nat):Int)),(.int .i64 ((0:Nat):Int)),(.int .u64 ((0:Nat):Int))] 1 [(0,5,.agg (jM (one 16)))] λv8 h8=>xk h8 46 5 lv v8 λv9 h9=>j (.int .i64 (i:Int),ov,v9,.ptr b0 0,.bool calm,.int .i64 most,kv,()) h9 []) (λr h'=>∃lv l,r=.agg [lv]∧dC calm l []∧0<l.length∧(l.length:Int)≤most∧HS g h' (xU lv l::R)):=by
  intro oO;refine qh (n:=1) (l:=jM (one 16)) (sz:=5) H5 rfl rfl rfl rfl λv8 h8 H8=>?_;have S1:Sl (λ_=>True) h8 5 [one 16].length v8 ([one 16].flatMap jM):=by simpa using H8.sl .here
  refine Qo (H8.aM (P:=xU lv l) e_2) S1 (by simp;omega) λv9 h9 H9=>?_;refine hj _ _ ⟨l++[one 16],st,v9,ov,rfl,B.Tg oO,same,by simp;omega,by simp,?_⟩;rw[lO];exact H9.sub (.cons .here (.drop (.drop (.cons .here (.cons .here .refl)))))
 have pair:∀(x y:qR) (h7:AH),HS g h7 (qk b3 (jM kx)::xU lv l::KD ov (zz l st)::qk b0 [.ap]::R)→dC calm (l++[x,y]) st→(l.length:Int)+2*st.length+5≤most→wp (xL h7 46 [(.int .i64 ((0:Nat):Int)),(.int .i64 ((0:Nat):Int)),(.int .i64 ((0:Nat):Int)),(.int .i64 ((0:Nat):Int)),(.int .u64 ((0:Nat):Int))] 2 [(0,5,.agg (jM x)),(5,5,.agg (jM y))] λv8 h8=>
   xk h8 46 5 lv v8 λv9 h9=>j (.int .i64 (i:Int),ov,v9,.ptr b0 0,.bool calm,.int .i64 most,kv,()) h9 []) (λr h'=>∃lv l,r=.agg [lv]∧dC calm l []∧0<l.length∧(l.length:Int)≤most∧HS g h' (xU lv l::R)):=by
  intro x y h7 H7 B7 hm7;refine qh (n:=2) (l:=jM x++jM y) (sz:=5) H7 rfl rfl rfl rfl λv8 h8 H8=>?_;have S1:Sl (λ_=>True) h8 5 [x,y].length v8 ([x,y].flatMap jM):=by simpa using H8.sl .here
  refine Qo (H8.aM (P:=xU lv l) e_2) S1 (by simp;omega) λv9 h9 H9=>?_;refine hj _ _ ⟨l++[x,y],st,v9,ov,rfl,B7,same,by simp;omega,by simp,?_⟩;rw[lO];exact H9.sub (.cons .here (.drop (.drop (.cons .here (.cons .here .refl)))))
 have zer:∀r:Int,0≤r∧r≤6→Uv calm (13,r,0,((l.length:Int)+((2:Nat):Int)),0):=λr hr=>⟨qkC omQ omQ,by show(13:Int)≠23;decide,by show(0:Int)≤0∧(0:Int)<18446744073709551616;decide,λ_=>by show(13:Int)≠20∧(13:Int)≠22∧(13:Int)≠12;decide⟩
 have two:∀op:Int,op=20∨op=22→calm=false→wp (zS (callT tab qj k) (.fn 54 [] []) [.int .i64 kx.2.1] h5 λv131 Tv=>Qb lv λTw=>zB .add Tw (.int .i64 ((2:Nat):Int)) λTx=>
   yi [(.int .i64 ((0:Nat):Int)),(.int .i64 ((0:Nat):Int)),(.int .i64 ((0:Nat):Int)),(.int .i64 ((0:Nat):Int)),(.int .u64 ((0:Nat):Int))] [(0,1,(.int .i64 ((13:Nat):Int))),(1,1,v131),(3,1,Tx)] λTy=>yi [(.int .i64 ((0:Nat):Int)),(.int .i64 ((0:Nat):Int)),(.int .i64 ((0:Nat):Int)),(.int .i64 ((0:Nat):Int)),(.int .u64 ((0:Nat):Int))] [(0,1,(.int .i64 op))] λTz=>
   xL Tv 46 [(.int .i64 ((0:Nat):Int)),(.int .i64 ((0:Nat):Int)),(.int .i64 ((0:Nat):Int)),(.int .i64 ((0:Nat):Int)),(.int .u64 ((0:Nat):Int))] 2 [(0,5,Ty),(5,5,Tz)] λv8 h8=>xk h8 46 5 lv v8 λv9 h9=>j (.int .i64 (i:Int),ov,v9,.ptr b0 0,.bool calm,.int .i64 most,kv,()) h9 []) (λr h'=>∃lv l,r=.agg [lv]∧dC calm l []∧0<l.length∧(l.length:Int)≤most∧HS g h' (xU lv l::R)):=by
  intro op lD fM;refine qW (Gk omQ) ?_;rintro _ h5 ⟨rfl,rfl⟩;have hr:=zu kx.2.1 (show(0:Int)≤6 by omega);refine qu (n:=l.length) H6 e_1 (qa omQ ?_);refine qI (l:=jM (13,zQ kx.2.1 0 6,0,((l.length:Int)+((2:Nat):Int)),0)) rfl<|qI (l:=jM (one op)) rfl<|pair _ _ _ H5 (B.two (zer _ hr) ⟨by rcases lD with rfl |rfl<;>decide,by dsimp only;omega,by show(0:Int)≤0∧(0:Int)<18446744073709551616;decide,λhh=>by rw[fM]at hh;cases hh⟩ (by show Flat 13;unfold Flat;decide) (by unfold Flat;dsimp only;omega) (λ_=>rfl) (λhh=>by dsimp only at hh;omega)) omQ
 have ovr:wp (yp (α:=AV×AV×AV×AV×AV×AV×AV×Unit→AH→Go.Ae.R) (λfA Ch=>j (fA.1,fA.2.1,fA.2.2.1,fA.2.2.2.1,fA.2.2.2.2.1,fA.2.2.2.2.2.1,fA.2.2.2.2.2.2.1,()) Ch []) λCi=>
   zS (callT tab qj k) (.fn 54 [] []) [.int .i64 kx.2.2.1] h5 λTA Cj=>Qb lv λTB=>zB .add TB (.int .i64 ((2:Nat):Int)) λTC=>
   yi [(.int .i64 ((0:Nat):Int)),(.int .i64 ((0:Nat):Int)),(.int .i64 ((0:Nat):Int)),(.int .i64 ((0:Nat):Int)),(.int .u64 ((0:Nat):Int))] [(0,1,(.int .i64 ((13:Nat):Int))),(1,1,TA),(3,1,TC)] λTD=>zp Cj (.ptr b3 0) 5 λFP=>zS (callT tab qj k) (.fn 55 [] []) [FP] Cj λTE TF=>
   xL TF 46 [(.int .i64 ((0:Nat):Int)),(.int .i64 ((0:Nat):Int)),(.int .i64 ((0:Nat):Int)),(.int .i64 ((0:Nat):Int)),(.int .u64 ((0:Nat):Int))] 2 [(0,5,TD),(5,5,TE)] λv193 TG=>xk TG 46 5 lv v193 λTH TI=>
   Xz (.ptr b3 0) (some 5) FP h5 Cj h5.nx<| Ci (.int .i64 (i:Int),ov,TH,.ptr b0 0,.bool calm,.int .i64 most,kv,()) TI) (λr h'=>∃lv l,r=.agg [lv]∧dC calm l []∧0<l.length∧(l.length:Int)≤most∧HS g h' (xU lv l::R)):=by
  refine qX ?_
  try dsimp only
  refine qW (Gk omQ) ?_;rintro _ h5 ⟨rfl,rfl⟩;have hr:=zu kx.2.2.1 (show(0:Int)≤6 by omega);refine qu (n:=l.length) H6 e_1 (qa omQ ?_);refine qI (l:=jM (13,zQ kx.2.2.1 0 6,0,((l.length:Int)+((2:Nat):Int)),0)) rfl<|qD H5 (b:=b3) (off:=0) .here rfl omQ (l:=jM kx) rfl<|qW (G6 omQ Tl H5) ?_;rintro _ h7 ⟨x,rfl,hx,H7⟩;refine qh (n:=2) (l:=jM (13,zQ kx.2.2.1 0 6,0,((l.length:Int)+((2:Nat):Int)),0)++jM x) (sz:=5) H7 rfl rfl rfl rfl λv8 h8 H8=>?_;have S1:Sl (λ_=>True) h8 5 [((13,zQ kx.2.2.1 0 6,0,((l.length:Int)+((2:Nat):Int)),0):qR),x].length v8 ([((13,zQ kx.2.2.1 0 6,0,((l.length:Int)+((2:Nat):Int)),0):qR),x].flatMap jM):=by simpa using H8.sl .here
  refine Qo (H8.aM (P:=xU lv l) e_2) S1 (by simp;omega) λv9 h9 H9=>?_;refine xG H5 (b:=b3) .here rfl H5 .here rfl rfl omQ (HS.lt H5 .here)<|hj _ _ ⟨_,st,v9,ov,rfl,B.two (zer _ hr) (hx.ok calm) (by show Flat 13;unfold Flat;decide) hx.flat (λ_=>rfl) (λhh=>by have:=hx.nj;omega),same,by simp;omega,by simp,?_⟩;rw[lO];exact H9.sub (.cons .here (.drop (.drop (.cons .here (.cons .here .refl)))))
 have bak:calm=false→wp (yp (α:=AV×AV×AV×AV×AV×AV×AV×Unit→AH→Go.Ae.R) (λfA Ch=>j (fA.1,fA.2.1,fA.2.2.1,fA.2.2.2.1,fA.2.2.2.2.1,fA.2.2.2.2.2.1,fA.2.2.2.2.2.2.1,()) Ch []) λCi=>
   zp h5 (.ptr b3 0) 5 λTJ=>zS (callT tab qj k) (.fn 55 [] []) [TJ] h5 λv206 Ck=>jJ (.ptr b3 0) 2 λv208=>ji Ck v208 λFQ=>
   zS (callT tab qj k) (.fn 54 [] []) [FQ] Ck λv210 TK=>Qb lv λv212=>
   yi [(.int .i64 ((0:Nat):Int)),(.int .i64 ((0:Nat):Int)),(.int .i64 ((0:Nat):Int)),(.int .i64 ((0:Nat):Int)),(.int .u64 ((0:Nat):Int))] [(0,1,(.int .i64 ((13:Nat):Int))),(1,1,v210),(3,1,v212)] λTL=>
   xL TK 46 [(.int .i64 ((0:Nat):Int)),(.int .i64 ((0:Nat):Int)),(.int .i64 ((0:Nat):Int)),(.int .i64 ((0:Nat):Int)),(.int .u64 ((0:Nat):Int))] 2 [(0,5,v206),(5,5,TL)] λTM TN=>xk TN 46 5 lv TM λTO TP=>
   Xz v208 none FQ h5 Ck h5.nx<| Ci (.int .i64 (i:Int),ov,TO,.ptr b0 0,.bool calm,.int .i64 most,kv,()) TP) (λr h'=>∃lv l,r=.agg [lv]∧dC calm l []∧0<l.length∧(l.length:Int)≤most∧HS g h' (xU lv l::R)):=by
  intro fM;refine qX ?_
  try dsimp only
  refine qD H5 (b:=b3) (off:=0) .here rfl omQ (l:=jM kx) rfl<|qW (G6 omQ Tl H5) ?_;rintro _ h7 ⟨x,rfl,hx,H7⟩;refine qQ (qK H7 (b:=b3) .here rfl ?_);refine qW (Gk omQ) ?_;rintro _ h7 ⟨rfl,rfl⟩;have hr:=zu kx.2.2.1 (show(0:Int)≤6 by omega);have H7':HS g h7 (qk b3 (jM kx)::aa 46 5 l.length lv (l.flatMap jM)::KD ov (zz l st)::qk b0 [.ap]::R):=H7;refine qu (n:=l.length) H7' e_1<|qI (l:=jM (13,zQ kx.2.2.1 0 6,0,(l.length:Int),0)) rfl<|qh (n:=2) (l:=jM x++jM (13,zQ kx.2.2.1 0 6,0,(l.length:Int),0)) (sz:=5) H7 rfl rfl rfl rfl λv8 h8 H8=>?_;have S1:Sl (λ_=>True) h8 5 [x,((13,zQ kx.2.2.1 0 6,0,(l.length:Int),0):qR)].length v8 ([x,((13,zQ kx.2.2.1 0 6,0,(l.length:Int),0):qR)].flatMap jM):=by simpa using H8.sl .here
  refine Qo (H8.aM (P:=xU lv l) e_2) S1 (by simp;omega) λv9 h9 H9=>?_;refine qT H5 (b:=b3) .here rfl H7 .here rfl (HS.lt H5 .here)<|hj _ _ ⟨l++[x,(13,zQ kx.2.2.1 0 6,0,(l.length:Int),0)],st,v9,ov,rfl,B.two (hx.ok calm) ⟨qkC omQ omQ,by show(13:Int)≠23;decide,by show(0:Int)≤0∧(0:Int)<18446744073709551616;decide,λ_=>by show(13:Int)≠20∧(13:Int)≠22∧(13:Int)≠12;decide⟩ hx.flat (by show Flat 13;unfold Flat;decide) (λhh=>by have:=hx.nj;omega) (λ_=>⟨rfl,fM⟩),same,by simp;omega,by simp,?_⟩;rw[lO];exact H9.sub (.cons .here (.drop (.drop (.cons .here (.cons .here .refl)))))
 have hd:(w=20∧st.length<5)∨(w=20∧¬st.length<5)∨(w=21∧st.length<5)∨(w=21∧¬st.length<5)∨(w=22∧st.length<5)∨(w=22∧¬st.length<5)∨(w=23∧0<st.length)∨(w=23∧¬0<st.length)∨(w=24∧0<st.length)∨(w=24∧¬0<st.length)∨(w=25∧0<st.length)∨(w=25∧¬0<st.length)∨(w=26∧calm=true)∨(w=26∧calm=false∧0<st.length)∨(w=26∧calm=false∧¬0<st.length)∨(w=27∧calm=true)∨(w=27∧calm=false∧0<st.length)∨(w=27∧calm=false∧¬0<st.length)∨(w=28∧calm=true)∨(w=28∧calm=false)∨(w=29∧calm=true)∨(w=29∧calm=false)∨(w=30)∨(w=31)∨(w=32∧calm=true)∨(w=32∧calm=false)∨(w<20∨32<w):=by
  cases calm<;>simp only[reduceCtorEq,and_true,true_and,and_false,false_and,false_or]<;>omega
 rcases hd with⟨fB,oo⟩ |⟨fB,oo⟩ |⟨fB,oo⟩ |⟨fB,oo⟩ |⟨fB,oo⟩ |⟨fB,oo⟩ |⟨fB,oo⟩ |⟨fB,oo⟩ |⟨fB,oo⟩ |⟨fB,oo⟩ |⟨fB,oo⟩ |⟨fB,oo⟩ |⟨fB,rfl⟩ |⟨fB,rfl,oo⟩ |⟨fB,rfl,oo⟩ |⟨fB,rfl⟩ |⟨fB,rfl,oo⟩ |⟨fB,rfl,oo⟩ |⟨fB,rfl⟩ |⟨fB,rfl⟩ |⟨fB,rfl⟩ |⟨fB,rfl⟩ |fB |fB |⟨fB,rfl⟩ |⟨fB,rfl⟩ |fB
 all_goals repeat (first |with_reducible refine qV omQ ?_ |with_reducible refine qz omQ ?_ |(with_reducible refine qX ?_;try dsimp only) |(with_reducible refine qb ?_;try dsimp only) |(with_reducible refine jG ?_;try dsimp only) |(with_reducible refine qS ?_;try dsimp only) |(with_reducible refine qp ?_;try dsimp only) |with_reducible refine qB ?_ |with_reducible refine qH ?_ |with_reducible refine qZ ?_ |with_reducible refine qJ ?_ |with_reducible refine jc omQ ?_ |with_reducible refine jH omQ ?_ |with_reducible refine yc omQ ?_ |with_reducible refine yj omQ ?_ |with_reducible refine jR ?_ |with_reducible refine je ?_ |with_reducible refine zL omQ ?_ |with_reducible refine qQ ?_ |(with_reducible refine ze ?_;try dsimp only) |with_reducible refine qK H6 .here rfl ?_ |with_reducible refine qI rfl ?_)
 ·exact Tt 14 (.inl rfl) omQ
 ·exact eH
 ·exact Tt 17 (.inr rfl) omQ
 ·exact eH
 ·exact Tt 17 (.inr rfl) omQ
 ·exact eH
 ·exact shu omQ
 ·exact eH
 ·exact shu omQ
 ·exact eH
 ·rw[show(st.length:Int)-((1:Nat):Int)=((st.length-1:Nat):Int) by omega];refine zY (H6.sl e_2) (x:=.int .i64 (cU l st)) (by rw[List.getElem?_map,Tk (List.length_pos_iff.1 oo)];rfl) ?_;by_cases oO:cU l st=14
  ·refine qz oO<|qB (qZ (qI rfl ?_));exact und oO
  ·refine qV oO<|qB (qJ (qV omQ ?_));refine qX<|qp<|qV omQ<|qH (qX ?_);(try dsimp only);refine qS<|qH (qX ?_);(try dsimp only);refine qS<|qH (qJ (qV omQ ?_));refine qX<|qS<|qH (qJ (qV omQ ?_));refine qX<|qS<|qH (qJ (qV omQ ?_));refine qX<|qp<|qV omQ<|qH (qJ (qV omQ ?_));refine qX<|qS<|qH (qJ ?_)
   exact eH
 ·exact eH
 ·exact eH
 ·exact two 20 (.inl rfl) rfl
 ·exact eH
 ·exact eH
 ·exact two 20 (.inl rfl) rfl
 ·exact eH
 ·exact eH
 ·exact two 20 (.inl rfl) rfl
 ·exact eH
 ·exact two 22 (.inr rfl) rfl
 ·exact ovr
 ·exact ovr
 ·exact eH
 ·exact bak rfl
 ·exact eH
end
section
variable {g h:AH} {L R:List SP}
theorem Vb {b o:Nat} {K:AV→Go.Ae.R} {Q:AV→AH→Prop} (w:wp (K (.bool false)) Q):wp (n8 .ptr false (.ptr b o) .ba K) Q:=w
theorem qWP {b o:Nat} {K:AV→Go.Ae.R} {Q:AV→AH→Prop} (w:wp (K (.bool true)) Q):wp (n8 .ptr true (.ptr b o) .ba K) Q:=w
end
section
def FR:GT→VM→(Int×Int)×GT×VM
 | .prog q,V=>(((zD q.l (qU q.l) q.left q.s V).kind,(zD q.l (qU q.l) q.left q.s V).err),
   .prog ⟨q.l,(zD q.l (qU q.l) q.left q.s V).s,if(zD q.l (qU q.l) q.left q.s V).kind=1 then 0 else(zD q.l (qU q.l) q.left q.s V).kind,(zD q.l (qU q.l) q.left q.s V).err,(zD q.l (qU q.l) q.left q.s V).left⟩,
   (zD q.l (qU q.l) q.left q.s V).v)
 | .aE bs k,V=>(if(xS V (bs.drop k) k).1.2=11 then(1,0)else if(xS V (bs.drop k) k).1.2=0 then(2,0)else(4,(xS V (bs.drop k) k).1.2),.aE bs (xS V (bs.drop k) k).1.1,(xS V (bs.drop k) k).2)
theorem qZH (x:qf):xK x=((FR x.aN x.v).1,{ x with aN:=(FR x.aN x.v).2.1,v:=(FR x.aN x.v).2.2 }):=by grind[xK,FR]
end
section
section
variable {S:jz} {M:jX} {me:Int}
inductive Cm:Nat→q9→jX→q9→jX→Prop
  |nil {c:q9} {M:jX}:Cm 0 c M c M
  |cons {k:Nat} {c d:q9} {M N:jX} {o:dG} {a:cE} {M1:jX} {c1:q9} (hn:xX c=some o) (e:qF M o=(a,M1)) (h0:a.err=0) (h1:qn c a=c1) (h2:c1.p.fin=0) (r:Cm k c1 M1 d N):Cm (k+1) c M d N
theorem Cm.trans {a b:Nat} {x y z:q9} {M N O:jX} (s:Cm a x M y N) (t:Cm b y N z O):Cm (a+b) x M z O:=by
 induction s with
 |nil=>grind
 |cons hn e h0 h1 h2 _ ih=>rw[Nat.add_right_comm];exact .cons hn e h0 h1 h2 (ih t)
end
end
section
theorem Zr {l:List cK} {a b:Int} {x:cK} (ha:0≤a) (hb:0≤b) (hl:a<l.length):qP (l.set a.toNat x) b=if a=b then x else qP l b:=by
 unfold qP;grind
section
variable {S:jz} {M:jX} {me:Int}
theorem Qq {p:Ja} {a:cE} (hp:p.fin=0) (ha:a.err=0):jL p a=(false,p):=by
 simp_all[jL,iV]
theorem jj {c:q9} {a:cE} (hp:c.p.fin=0) (ha:a.err=0):qn c a=if c.state=0∨c.state=1 then yH c a
 else if c.state=2∨c.state=3 then xe c a
 else if c.state=4 then xI c a.lk
 else if c.state=5 then jo { c with at_:=c.at_+1 }
 else if c.state=6 then zg { c with at_:=c.at_+1 }
 else zc { c with at_:=c.at_+1 }:=by
 grind[qn,Qq]
theorem V8 {M N:jX} {o:dG} {a:cE} (hk:o.kind=1∨o.kind=2) (e:Kk M o=(a,N)) (h0:a.err=0):qF M o=(a,{ N with aT:=N.aT+1 }):=by
 simp_all[yR,ve]
theorem J3 {M N:jX} {o:dG} {a:cE} (hk:o.kind=3∨o.kind=4∨o.kind=5) (e:Xi M o=(a,N)) (h0:a.err=0):qF M o=(a,{ N with aT:=N.aT+1 }):=by
 have e':yR M o=(a,N):=by unfold yR;grind
 simp_all[ve]
theorem kt {M N:jX} {o:dG} {a:cE} (hk:o.kind=6∨o.kind=7) (e:JZ M o=(a,N)) (h0:a.err=0):qF M o=(a,{ N with aT:=N.aT+1 }):=by
 have e':yR M o=(a,N):=by unfold yR;grind
 simp_all[ve]
end
end
section
section
variable {S:jz} {M:jX} {me:Int}
theorem qJ8 {j:GT} {V:VM} (h:cF V):cF (FR j V).2.2:=by
 cases j with
 |prog q=>exact cF.run _ h
 |aE bs k=>exact cF.gives _ _ h
end
end
namespace fC
variable {g h:AH} {L R:List SP}
def zh (a:Int×Int×Bool):List AV:=[.int .i64 a.1,.int .i64 a.2.1,.bool a.2.2]
end fC
section
variable {g h:AH} {L R:List SP}
def CY (zs:List Int) (m:Int) (C:List Cl) (F:List Int):VM:={ QU zs m with lv:=[(C,F)] }
end
namespace rE
open Go Go.Ae fC
set_option maxRecDepth 100000
variable {g h:AH} {L R:List SP}
end rE
section
structure Cn (S:jz) (M:jX) (k:Int):Prop where
  w:(M.w.length:Int)=S.words
  wd:∀z∈M.w,nq z
  w0:M.w[0]? =some 0
  l:M.l=List.replicate S.ae.toNat bK
  n:M.n=S.start
  s:M.s=List.replicate S.ag.toNat 0
  aT:0≤M.aT∧M.aT≤k
theorem qW0 {S:jz} (O:xZ S):Cn S (vF S) 0:=by
 have h1:=O.words;refine⟨by show((List.replicate S.words.toNat (0:Int)).length:Int)=_;grind,λz hz=>?_,?_,rfl,rfl,rfl,⟨Int.le_refl _,Int.le_refl _⟩⟩
 ·have:=List.eq_of_mem_replicate hz;grind
 ·show(List.replicate S.words.toNat (0:Int))[0]? =some 0;grind
theorem qY2 {S:jz} {M:jX} {k at_ w:Int} (Q:Cn S M k) (ha:1≤at_) (hw:nq w):Cn S (qF M (bz 2 at_ w)).2 (k+1):=by
 have hc:=Zk (M:=M) (o:=bz 2 at_ w);have hq:=Q.aT;have e:(qF M (bz 2 at_ w)).2.w=(if at_<1∨(M.w.length:Int)≤at_ then M.w else M.w.set at_.toNat w)∧(qF M (bz 2 at_ w)).2.l=M.l∧(qF M (bz 2 at_ w)).2.n=M.n∧(qF M (bz 2 at_ w)).2.s=M.s:=by
  have eW:yR M (bz 2 at_ w)=if at_<1∨(M.w.length:Int)≤at_ then(mU 2,M)else(dM,{ M with w:=M.w.set at_.toNat w }):=by rfl
  rw[ve,eW];grind
 refine⟨?_,?_,?_,by rw[e.2.1];exact Q.l,by rw[e.2.2.1];exact Q.n,by rw[e.2.2.2];exact Q.s,by omega⟩
 ·rw[e.1]
  split
  ·exact Q.w
  ·rw[List.length_set];exact Q.w
 ·rw[e.1]
  split
  ·exact Q.wd
  ·exact Te Q.wd hw
 ·rw[e.1]
  split
  ·exact Q.w0
  ·rw[List.getElem?_set_ne omQ];exact Q.w0
end
section
open Go Go.Ae fC
set_option maxRecDepth 100000
variable {g h:AH} {L R:List SP}
end
section
def Dr:Nat→Nat→qd→jX→qd×jX
 | 0,_,t,M=>(t,M)
 |n+1,i,t,M=>match jb t with
  |none=>(t,M)
  |some o=>Dr n (i+1) (jQ t (qF M o).1 0 ((i:Int)+1)) (qF M o).2
inductive uZ:Nat→Nat→qd→jX→qd→jX→Prop
  |nil {i:Nat} {t:qd} {M:jX}:uZ i 0 t M t M
  |cons {i m:Nat} {t u:qd} {M N:jX} {o:dG} (hn:jb t=some o) (r:uZ (i+1) m (jQ t (qF M o).1 0 ((i:Int)+1)) (qF M o).2 u N):uZ i (m+1) t M u N
theorem uZ.run {i m:Nat} {t u:qd} {M N:jX} (s:uZ i m t M u N):∀n,Dr (m+n) i t M=Dr n (i+m) u N:=by
 induction s with
 |nil=>simp
 |cons hn r ih=>
  grind[Dr,jQ,qF,jb]
theorem uZ.trans {i m k:Nat} {t u v:qd} {M N P:jX} (s:uZ i m t M u N):uZ (i+m) k u N v P→uZ i (m+k) t M v P:=by
 induction s with
 |nil=>simp
 |cons hn r ih=>rename_i i m t u M N o;intro q;rw[show m+1+k=(m+k)+1 by omega];exact .cons hn (ih (by grind))
structure FT (t u:qd):Prop where
  lV:∃r,u.results=t.results++r
  ao:u.ao.length≤t.ao.length+1
structure JB (t u:qd):Prop where
  lV:u.results=t.results
  ao:u.ao=t.ao
theorem JB.refl (t:qd):JB t t:=⟨rfl,rfl⟩
theorem JB.trans {t u v:qd} (a:JB t u) (b:JB u v):JB t v:=⟨b.lV.trans a.lV,b.ao.trans a.ao⟩
theorem yv (t:qd):JB t (zO t):=by unfold zO;split<;>exact⟨rfl,rfl⟩
theorem yS (t:qd):JB t (xw t):=(JB.trans (u:={ t with aN:=t.aN+1,aE:=false,au:=[],ak:=0,aI:=0 }) ⟨rfl,rfl⟩ (yv _))
theorem wL (t:qd) (d:Int):JB t (xE t d):=by
 unfold xE
 split
 ·exact(JB.trans (u:={ t with br:=0,state:=3 }) ⟨rfl,rfl⟩ (yv _))
 ·exact⟨rfl,rfl⟩
theorem XA (t:qd):JB t (yQ t):=by
 have key:∀u:qd,JB u (yG u):=λu=>by
  unfold yG
  split
  ·exact .refl u
  ·split
   ·exact(JB.trans (u:={ u with ay:=u.ay.filter λr=>!jI u.ah r.2 }) ⟨rfl,rfl⟩ (yS _))
   ·exact(JB.trans (u:={ u with ay:=u.ay.filter (λr=>!jI u.ah r.2),aE:=true,au:=u.ay.filter (λr=>jI u.ah r.2),ak:=0,aI:=0 }) ⟨rfl,rfl⟩ (yv _))
 unfold yQ
 split
 ·exact(JB.trans (u:={ t with ah:=t.ah++[0] }) ⟨rfl,rfl⟩ (key _))
 grind
theorem U5 (t:qd):JB t (Qr t):=by
 unfold Qr
 split
 ·simp[yS]
 ·exact(JB.trans (u:={ t with state:=5,ah:=[] }) ⟨rfl,rfl⟩ (XA _))
theorem KB (t:qd) (f:Int):JB t (Qz t f):=by
 unfold Qz
 split
 ·exact(JB.trans (u:={ t with ay:=t.ay++t.au }) ⟨rfl,rfl⟩ (yS _))
 simp[yS]
theorem FT.of {t u v:qd} (a:JB u v) {r:List OW} (h:u.results=t.results++r) (hp:u.ao.length≤t.ao.length+1):FT t v:=⟨⟨r,a.lV.trans h⟩,by rw[a.ao];grind⟩
theorem qKo (t:qd) (x:qf) (d p:Int):FT t (zP t x d p):=by
 have h1:(t.ao++[jY t x p]).length≤t.ao.length+1:=by simp
 have h0:t.results=t.results++[]:=(List.append_nil _).symm;unfold zP;dsimp only
 split
 ·split
  ·exact⟨⟨[],h0⟩,h1⟩
  ·exact .of (wL _ _) h0 h1
 ·split
  ·split
   ·exact .of (yv _) h0 h1
   ·exact⟨⟨[],h0⟩,h1⟩
  ·split
   ·exact .of (KB _ _) h0 h1
   ·exact .of (U5 _) rfl h1
theorem Zh (t:qd) (a:cE) (d p:Int):FT t (jQ t a d p):=by
 have h0:t.results=t.results++[]:=(List.append_nil _).symm;have hr:FT t t:=⟨⟨[],h0⟩,Nat.le_succ _⟩;unfold jQ
 split
 ·split
  ·grind
  ·rename_i x _;unfold zU;dsimp only
   split
   ·exact⟨⟨[],h0⟩,Nat.le_succ _⟩
   ·have G:=qKo { t with now:=some (qL x a),born:=if(qL x a).begun=true∧x.begun=false then p else t.born } (qL x a) d p;exact⟨G.lV,G.ao⟩
 ·split
  ·split
   ·exact⟨⟨[],h0⟩,Nat.le_succ _⟩
   ·exact .of (wL _ _) h0 (Nat.le_succ _)
  ·split
   ·exact .of (XA _) h0 (Nat.le_succ _)
   grind
def cQ (t:qd):Prop:=∀x,t.now=some x→G4 x
theorem cQ.same {t u:qd} (W:cQ t) (h:u.now=t.now):cQ u:=λx hx=>W x (h▸hx)
theorem gj (t:qd):cQ (zO t):=by
 unfold zO
 split
 ·exact λx h=>by grind
 ·intro x h;cases h
  split
  ·exact qyC
  ·exact qyC
theorem gA (t:qd):cQ (xw t):=gj _
theorem Mk {t:qd} (W:cQ t) (d:Int):cQ (xE t d):=by
 unfold xE
 split
 ·simp[gj]
 trivial
theorem Zv {t:qd} (W:cQ t):cQ (yQ t):=by
 grind[cQ,yG,gA,gj,yQ]
theorem qV3 {t:qd} (W:cQ t) (x:qf) (d p:Int):cQ (zP t x d p):=by
 unfold zP;dsimp only
 split
 ·split
  ·trivial
  ·exact Mk (t:={ t with ao:=t.ao++[jY t x p],ak:=t.ak+1,aI:=t.aI+1 }) (W.same rfl) _
 ·split
  ·split
   ·simp[gj]
   trivial
  ·split
   ·simp[Qz,gA]
   ·unfold Qr
    split
    ·simp[gA]
    ·exact Zv (W.same rfl)
theorem ZB {t:qd} (O:xr t) (W:cQ t) {a:cE} (ha:vB a) (d p:Int):cQ (jQ t a d p):=by
 unfold jQ
 split
 ·rename_i h1
  split
  ·grind
  ·rename_i x hx;have C:=O.c omQ;have hN:=(C.now x hx).1;have W1:G4 (qL x a):=qzH hN (W x hx) ha;unfold zU;dsimp only
   split
   ·intro y hy;grind
   ·refine qV3 (λy hy=>?_) _ _ _;grind
 ·split
  ·split
   ·trivial
   grind[Mk]
  ·split
   ·exact Zv (W.same rfl)
   grind
theorem Q4 {t:qd} {o:dG} (O:xr t) (W:cQ t) (h:jb t=some o):nq o.word:=by
 have z0:nq (0:Int):=⟨Int.le_refl _,by simp⟩;unfold jb at h
 split at h
 ·rename_i h1;have C:=O.c omQ;cases hx:t.now with
  |none=>grind
  |some x=>rw[hx]at h;exact qze (C.now x hx).1 (W x hx) h
 ·split at h
  ·cases h;exact z0
  ·split at h
   ·cases h;exact z0
   grind
theorem qzP {t:qd} {x:qf} {a:cE} {d p:Int} (h1:t.state=1) (hx:t.now=some x):jQ t a d p=zU t x (qL x a) d p:=by
 simp_all[jQ]
theorem qq3 {t:qd} {x:qf} (h1:t.state=1) (hx:t.now=some x):jb t=jd x:=by simp_all[jb]
end
section
theorem NL {M:jX} {o:dG}:(qF M o).2.w.length=M.w.length∧(qF M o).2.l.length=M.l.length∧(qF M o).2.s.length=M.s.length:=by
 have key:(yR M o).2.w.length=M.w.length∧(yR M o).2.l.length=M.l.length∧(yR M o).2.s.length=M.s.length:=by
  grind[yR,Kk,Xi,JZ,VO]
 grind[ve]
theorem qGc (t:qd) (W:cQ t):cQ (jK t):=by
 unfold jK
 split
 ·split
  ·simp[gj]
  trivial
 grind
theorem qgc (t:qd) (W:cQ t) (s v:Int):cQ (jm t s v):=by
 unfold jm
 split
 ·grind
 ·split
  ·split
   ·simp[gj]
   ·split
    all_goals trivial
  grind
theorem kZ (t:qd):(jK t).ao=t.ao:=by
 unfold jK
 split
 ·split
  ·exact(yv _).ao
  rfl
 rfl
theorem Qt (t:qd) (s v:Int):(jm t s v).ao=t.ao:=by
 unfold jm
 split
 ·rfl
 ·split
  ·split
   ·exact(yv _).ao
   grind
  rfl
structure Vg (m:zl):Prop where
  so:xZ m.s
  r:Cg m.m
  len:(m.t.length:Int)=m.s.ag
  w:(m.m.w.length:Int)=m.s.words
  l:(m.m.l.length:Int)=m.s.ae
  sl:(m.m.s.length:Int)=m.s.ag
  t:∀(i:Nat) (t:qd),m.t[i]? =some t→xr t∧cQ t∧(t.ao.length:Int)≤m.aA
  aA:0≤m.aA
  aT:0≤m.m.aT∧m.m.aT≤m.aA+1
theorem Jf {ts:List qd} {i:Nat} {s v:Int} {k:Nat}:(xm ts i s v)[k]? =(ts[k]?).map λt=>if k=i then t else jm t s v:=by simp[xm,List.getElem?_mapIdx]
theorem qV4 {m:zl} (K:Vg m) {i:Nat} (hi:i<m.t.length) {draw:Int} (hd:0≤draw):Vg (jw m i draw)∧(jw m i draw).s=m.s∧(jw m i draw).aA=m.aA+1:=by
 obtain⟨t,ht⟩:∃t,m.t[i]? =some t:=⟨m.t[i],iW hi⟩;obtain⟨O,W,hp⟩:=K.t i t ht;have FU:=K.aA;have mo:=K.aT;have fY:∀(u:qd) {k:Nat} {v:qd},(m.t.set i u)[k]? =some v→(k=i∧v=u)∨(k≠i∧m.t[k]? =some v):=λu k v h=>by
  grind
 unfold jw;rw[ht];dsimp only
 split
 ·refine⟨⟨K.so,K.r,by show((m.t.set i _).length:Int)=_;rw[List.length_set];exact K.len,K.w,K.l,K.sl,λk v hv=>?_,by grind,by grind⟩,rfl,rfl⟩;show xr v∧cQ v∧(v.ao.length:Int)≤m.aA+1;rcases fY _ hv with⟨_,rfl⟩ |⟨_,h⟩
  ·grind[Vw,qGc,kZ]
  ·obtain⟨a,b,c⟩:=K.t k v h;grind
 ·rename_i o hn;have ho:=Q4 O W hn;obtain⟨a1,a2⟩:=Xs K.r ho;have O':=U7 O a1 hd (pick:=m.aA+1) (draw:=draw);have W':=ZB O W a1 draw (m.aA+1);have G:=(Zh t (qF m.m o).1 draw (m.aA+1)).ao;obtain⟨l1,l2,l3⟩:=NL;have lc:=Zk (M:=m.m) (o:=o);generalize qF m.m o=r at*;generalize jQ t r.1 draw (m.aA+1)=u at*;have one:∀(k:Nat) (v:qd),(m.t.set i u)[k]? =some v→xr v∧cQ v∧(v.ao.length:Int)≤m.aA+1:=λk v hv=>by
   rcases fY _ hv with⟨_,rfl⟩ |⟨_,h⟩
   ·grind
   ·obtain⟨a,b,c⟩:=K.t k v h;grind
  have base:∀ts:List qd,ts.length=m.t.length→(∀(k:Nat) (v:qd),ts[k]? =some v→xr v∧cQ v∧(v.ao.length:Int)≤m.aA+1)→Vg { m with aA:=m.aA+1,last:=o,did:=true,m:=r.2,t:=ts }:=λts hl H=>⟨K.so,a2,by show(ts.length:Int)=_;rw[hl];exact K.len,by show(r.2.w.length:Int)=_;rw[l1];exact K.w,by show(r.2.l.length:Int)=_;rw[l2];exact K.l,by show(r.2.s.length:Int)=_;rw[l3];exact K.sl,H,by grind,by grind⟩
  refine⟨?_,rfl,rfl⟩
  split
  ·refine base _ (by simp[xm]) λk v hv=>?_;rw[Jf]at hv;cases hq:(m.t.set i u)[k]? with
   |none=>grind
   |some q=>
    grind[jm,Option.some.inj,ZI,qgc,Qt]
  grind
theorem jXS {s:jz} {aD:List (List (List qR))} (hs:0≤s.start) (hj:∀js∈aD,∀l∈js,(xO l).2=0∧Quiet l):Vg (vu s aD):=by
 have so:xZ (jO { s with ag:=((aD.take 4).length:Int) }):=gW hs;have q2:=so.ae;have q3:=so.ag;have q4:=so.start;have Q:=qY2 (qW0 so) (at_:=5) (w:=14) od ⟨by simp,by simp⟩;unfold vu;generalize jO { s with ag:=((aD.take 4).length:Int) }=S at*;refine⟨so,⟨Q.wd,by rw[Q.n];grind,λz hz=>?_⟩,?_,Q.w,?_,?_,λi t ht=>?_,Int.le_refl _,?_⟩
 ·rw[Q.s]at hz;grind
 ·grind
 ·rw[Q.l,List.length_replicate];grind
 ·rw[Q.s,List.length_replicate];grind
 ·rw[List.getElem?_map]at ht;by_cases hi:i<S.ag.toNat
  ·rw[List.getElem?_range hi]at ht;have ht:=Option.some.inj ht;subst ht;have A7:∀l∈(((aD.take 4)[i]?).getD []),(xO l).2=0∧Quiet l:=λl hl=>by
    grind
   refine⟨qw1 q4.1 A7,gA _,?_⟩;have:(Uc (i:Int) S (((aD.take 4)[i]?).getD [])).ao=[]:=(yS _).ao;grind
  grind
 ·have:=Q.aT;grind
end
section
variable {g h:AH} {L R:List SP}
theorem qqp:∀{l:List Cl} {c:Cl},l6 l→c∈l→zk c.1 l=some c.2:=by
 intro l
 induction l with
 |nil=>simp
 |cons d l ih=>
  intro c hu hc;unfold l6 at hu;rw[List.map_cons,List.nodup_cons]at hu;unfold zk;rcases List.mem_cons.1 hc with rfl |hc
  ·simp
  ·rw[iQ (λh=>hu.1 (by grind))];exact ih hu.2 hc
theorem qzA {n:Nat} (hn:1≤n) {v:Nat} {M:VM} (H:HS g h (aj v M::R)) (O:dT M) :
  aH n 132 [.ptr v 0] h λr h'=>HS g h' (aa 177 2 M.K.length r (M.K.flatMap jn)::aj v M::R):=by
 refine aG (S:=S132) rfl omQ λk hk=>?_;unfold S132;try simp only[iZ]
 obtain⟨fv,ov,q,e,H⟩:=aj.E H;have l7:=O.B6;refine qG (qQ (qK ‹_› .here rfl ?_));refine qu ‹_› e_2<|Km (ln:=0) (cp:=M.K.length) (sz:=2) H rfl omQ omQ λkv h1 H1=>?_;rw[Nat.zero_mul,List.take_zero]at H1;refine qG (qQ (qK ‹_› e_1 rfl ?_));refine qu ‹_› e_3<|jS (λm s h'=>∃(i:Nat) (kv:AV),s=(.int .i64 (i:Int),.int .i64 (M.K.length:Int),ov,kv,.ptr v 0,())∧i≤M.K.length∧m=M.K.length-i∧
  HS g h' (aa 177 2 i kv ((M.K.take i).flatMap jn)::qk v [fv,ov,.ptr q 0,.int .i64 M.aC]::aa e 2 M.sz fv ((vS M.sz M.K).flatMap J6)::
   aa 3 1 M.K.length ov (M.K.map λc=>.int .i64 c.1)::cy q M.most M.lv::R))
  ?_ (m:=M.K.length) (by grind) ⟨0,kv,rfl,by omega,by rfl,by grind⟩
 clear H H1;rintro m ih s h2 bN ⟨i,kv,rfl,hi,rfl,H⟩;by_cases ax:i<M.K.length
 ·have tY:M.K[i]? =some M.K[i]:=iW ax;have dY:=O.ins M.K[i] (List.getElem_mem ax);have hg:=qqp O.un (List.getElem_mem ax);have FV:M.K.take (i+1)=M.K.take i++[M.K[i]]:=List.take_succ_eq_append_getElem ax;generalize hc:M.K[i]=c at*;obtain⟨p,x⟩:=c;dsimp only at dY hg;obtain⟨p,rfl⟩:∃j:Nat,p=(j:Int):=⟨p.toNat,by omega⟩;refine jc omQ<|qZ (zY (H.sl e_3) (x:=.int .i64 (p:Int)) (by grind) ?_);refine qG (qQ (qK ‹_› e_1 rfl ?_));have hf:wo M.K p=(x,true):=by grind[wo]
  refine yo (x:=.int .u64 x) (H.sl e_2) omQ omQ (by rw[Yf (sz:=2) J6 (λ_=>rfl) _ _ _ omQ,JI omQ,hf];rfl)<|qI rfl<|qh (n:=1) (l:=[.int .i64 (p:Int),.int .u64 x]) (sz:=2) H rfl rfl rfl rfl λv5 h5 H5=>?_;refine zX (H5.aM e_1) (H5.sl .here) omQ omQ rfl λv6 h6 H6=>?_;refine qa omQ<|bN (M.K.length-(i+1)) _ _ omQ ⟨i+1,v6,rfl,by omega,rfl,?_⟩;rw[FV,List.flatMap_append];exact H6.pk [0] 1
 ·obtain rfl:i=M.K.length:=by omega
  refine jH omQ<|qJ (qx ?_);rw[List.take_length]at H
  have H2:HS g h2 (qk v [fv,ov,.ptr q 0,.int .i64 M.aC]::aa e 2 M.sz fv ((vS M.sz M.K).flatMap J6)::aa 3 1 M.K.length ov (M.K.map λc=>.int .i64 c.1)::cy q M.most M.lv::
   aa 177 2 M.K.length kv (M.K.flatMap jn)::R):=H.pk [1,1,1,1] 0
  exact qY ((aj.I H2).pk [1] 0)
end
section
variable {g h:AH} {L R:List SP}
theorem QR {c:CV} {l:List (Nat×Nat)} {t:TypeId} {x:AV} {f:Nat} {a:List AV} {K2:AV→AH→Go.Ae.R} {Q Q':AV→AH→Prop} (hf:VB l t=some f) (w:wp (c (.fn f [] []) (x::a) h) Q') (hk:∀v h',Q' v h'→wp (K2 v h') Q):wp (vV c l (.iface t x) a h K2) Q:=by show wp (Option.rec (motive:=λ_=>Go.Ae.R) none (λf=>zS c (.fn f [] []) (x::a) h K2) (VB l t)) Q;rw[hf];exact qW w hk
structure A8 where
  rv:AV
  bv:AV
  iv:AV
  fv:AV
  ev:AV
  cv:AV
  gv:Int
  vb:Nat
  db:Nat
def xl (x:qf) (q:A8):List AV:=[.int .i64 x.me,.int .i64 x.set.words,.int .i64 x.set.ae,.int .i64 x.set.wide,.int .i64 x.set.ag,.int .u64 x.set.start,.int .i64 x.set.af,.int .i64 x.set.writes,.int .i64 x.set.fuel,
 q.rv,q.bv,.int .i64 q.gv,.ptr q.vb 0,.ptr q.db 0,.int .i64 x.state,q.iv,q.fv,q.ev,q.cv,.bool x.begun,.int .u64 x.bB,.int .u64 x.ad,.int .i64 x.fin,.int .i64 x.ch,.int .i64 x.err,.bool x.dB]
def cN (vb:Nat) (j:GT) (rv bv:AV) (gv:Int):SP:=match j with
 | .prog q=>.ex λz:Nat×Int=>.all [.iq (rv=.ptr z.1 0∧bv=.ap∧gv=0),aO z.1 vb q.l 0 (qU q.l) q.s q.err q.fin q.left z.2]
 | .aE bs k=>.all [.iq (rv=.ba∧gv=(k:Int)),aa 3 1 bs.length bv (bs.map (.int .i64))]
def aU (st:Int) (f:wJ) (e:wO) (c:Option q9) (iv fv ev cv:AV):SP:=match c with
 |some c=>.ex λb:Nat=>.all [.iq (cv=.ptr b 0∧(st=6→iv=.iface 160 (.ptr b 0))),aF b c]
 |none=>
  if st=3 then .ex λb:Nat=>.all [.iq (cv=.ba∧fv=.ptr b 0∧iv=.iface 158 (.ptr b 0)),qk b (kz f)]
  else if st=4∨st=5 then .ex λb:Nat=>.all [.iq (cv=.ba∧ev=.ptr b 0∧iv=.iface 159 (.ptr b 0)),cC b e]
  else .iq (cv=.ba)
abbrev Co (a:Nat) (x:qf) (q:A8) (R:List SP):List SP:=qk a (xl x q)::cN q.vb x.aN q.rv q.bv q.gv::aj q.vb x.v::cB q.db x.r::aU x.state x.f x.e x.c q.iv q.fv q.ev q.cv::R
def aL (a:Nat) (x:qf):SP:=.ex λq:A8=>.all (Co a x q [])
section
variable {n a:Nat} {x:qf} {q:A8}
theorem aL.E (H:HS g h (aL a x::R)):∃q,HS g h (Co a x q R):=by obtain⟨q,H⟩:=H.fh;exact⟨q,H.cI⟩
theorem aL.I (H:HS g h (Co a x q R)):HS g h (aL a x::R):=HS.fH q (HS.allI H)
theorem qjd (hn:1≤n) (H:HS g h L) (s:bp L (qk a (xl x q)) R):aH n 58 [.ptr a 0] h λr h'=>r=.cn [.int .u64 x.bB,.bool x.begun]∧h'=h:=by
 refine aG rfl omQ λk hk=>?_;unfold S58;try simp only
 refine qG (qQ (qK H s rfl ?_));refine qG (qQ (qK H s rfl ?_))
 skip
 exact qY ⟨rfl,rfl⟩
theorem qY0 (hn:1≤n) (H:HS g h L) (s:bp L (qk a (xl x q)) R):aH n 94 [.ptr a 0] h λr h'=>r=.int .u64 x.ad∧h'=h:=by
 refine aG rfl omQ λk hk=>?_;unfold S94;try simp only
 refine qG (qQ (qK H s rfl ?_))
 skip
 exact qY ⟨rfl,rfl⟩
theorem qW2 (hn:1≤n) (H:HS g h L) (s:bp L (qk a (xl x q)) R):aH n 60 [.ptr a 0] h λr h'=>r=.int .i64 (jh x)∧h'=h:=by
 refine aG rfl omQ λk hk=>?_;unfold S60;try simp only[iZ]
 refine qG (qQ (qK H s rfl ?_));unfold jh;by_cases c:x.state=8
 ·rw[iQ (λh=>h c)];refine jB c<|qJ (qG (qQ (qK H s rfl ?_)));exact qY ⟨rfl,rfl⟩
 ·rw[iJ c];refine jg c<|qZ<|qY ⟨rfl,rfl⟩
theorem jJf (hn:1≤n) (H:HS g h L) (s:bp L (qk a (xl x q)) R):aH n 92 [.ptr a 0] h λr h'=>r=.int .i64 (ym x)∧h'=h:=by
 refine aG rfl omQ λk hk=>?_;unfold S92;try simp only[iZ]
 refine qG (qQ (qK H s rfl ?_));unfold ym;by_cases c:x.state=8
 ·rw[iQ (λh=>h c)];refine jB c<|qJ (qG (qQ (qK H s rfl ?_)));exact qY ⟨rfl,rfl⟩
 ·rw[iJ c];refine jg c<|qZ<|qY ⟨rfl,rfl⟩
theorem jKD (hn:1≤n) (H:HS g h L) (s:bp L (qk a (xl x q)) R):aH n 89 [.ptr a 0] h λr h'=>r=.int .i64 (Qw x)∧h'=h:=by
 refine aG rfl omQ λk hk=>?_;unfold S89;try simp only[iZ]
 refine qG (qQ (qK H s rfl ?_));unfold Qw;by_cases c:x.state=8
 ·rw[iQ (λh=>h c)];refine jB c<|qJ (qG (qQ (qK H s rfl ?_)));exact qY ⟨rfl,rfl⟩
 ·rw[iJ c];refine jg c<|qZ<|qY ⟨rfl,rfl⟩
theorem Je {f e y:Int} (hn:1≤n) (H:HS g h (qk a (xl x q)::R)):aH n 86 [.ptr a 0,.int .i64 f,.int .i64 e,.int .i64 y] h λ_ h'=>HS g h' (qk a (xl (zT x f e y) q)::R):=by
 refine sX rfl omQ λk hk=>?_;unfold S86;try simp only[iZ]
 refine qG (qQ (qw H .here ⟨rfl,rfl⟩ (by simp[xl]) λh1 H1=>?_));refine qG (qQ (qw H1 .here ⟨rfl,rfl⟩ (by simp[xl]) λh2 H2=>?_));refine qG (qQ (qw H2 .here ⟨rfl,rfl⟩ (by simp[xl]) λh3 H3=>?_));refine qG (qQ (qw H3 .here ⟨rfl,rfl⟩ (by simp[xl]) λh4 H4=>?_));exact qY H4
theorem aU.nil {st:Int} {f:wJ} {e:wO} {iv fv ev cv:AV} (H:HS g h (aU st f e none iv fv ev cv::R)):cv=.ba∧HS g h R:=by
 unfold aU at H;dsimp only at H
 split at H
 ·obtain⟨b,H⟩:=H.fh;have H:=H.cI;exact⟨H.fo.1.1,H.drop.drop⟩
 ·split at H
  ·obtain⟨b,H⟩:=H.fh;have H:=H.cI;exact⟨H.fo.1.1,H.drop.drop⟩
  ·exact H.fo
theorem aU.fet {f:wJ} {e:wO} {iv fv ev cv:AV} (H:HS g h (aU 3 f e none iv fv ev cv::R)):∃b,(cv=.ba∧fv=.ptr b 0∧iv=.iface 158 (.ptr b 0))∧HS g h (qk b (kz f)::R):=by obtain⟨b,H⟩:=(show HS g h (.ex (λb:Nat=>SP.all [.iq (cv=.ba∧fv=.ptr b 0∧iv=.iface 158 (.ptr b 0)),qk b (kz f)])::R)from H).fh;exact⟨b,H.cI.fo⟩
end
end
section
variable {g h:AH} {L R:List SP}
section
variable {n a:Nat} {x:qf} {q:A8}
theorem qJT {K:AV→Go.Ae.R} {Q:AV→AH→Prop} (w:wp (K (.bool false)) Q):wp (n8 .ptr true .ba .ba K) Q:=w
theorem Ns {K:AV→Go.Ae.R} {Q:AV→AH→Prop} (w:wp (K (.bool true)) Q):wp (n8 .ptr false .ba .ba K) Q:=w
theorem cN.P {vb:Nat} {p:Cc} {rv bv:AV} {gv:Int} (H:HS g h (cN vb (.prog p) rv bv gv::R)):∃ib nx,(rv=.ptr ib 0∧bv=.ap∧gv=0)∧HS g h (aO ib vb p.l 0 (qU p.l) p.s p.err p.fin p.left nx::R):=by obtain⟨z,H⟩:=(show HS g h (.ex (λz:Nat×Int=>SP.all [.iq (rv=.ptr z.1 0∧bv=.ap∧gv=0),aO z.1 vb p.l 0 (qU p.l) p.s p.err p.fin p.left z.2])::R)from H).fh;exact⟨z.1,z.2,H.cI.fo⟩
theorem cN.PI {vb ib:Nat} {p:Cc} {nx:Int} {rv bv:AV} {gv:Int} (e:rv=.ptr ib 0∧bv=.ap∧gv=0) (H:HS g h (aO ib vb p.l 0 (qU p.l) p.s p.err p.fin p.left nx::R)):HS g h (cN vb (.prog p) rv bv gv::R) :=
 show HS g h (.ex (λz:Nat×Int=>SP.all [.iq (rv=.ptr z.1 0∧bv=.ap∧gv=0),aO z.1 vb p.l 0 (qU p.l) p.s p.err p.fin p.left z.2])::R)from
  HS.fH (ib,nx) (HS.allI (HS.fR e H))
theorem cN.S {vb k:Nat} {bs:List Int} {rv bv:AV} {gv:Int} (H:HS g h (cN vb (.aE bs k) rv bv gv::R)):(rv=.ba∧gv=(k:Int))∧HS g h (aa 3 1 bs.length bv (bs.map (.int .i64))::R) :=
 ((show HS g h (SP.all [.iq (rv=.ba∧gv=(k:Int)),aa 3 1 bs.length bv (bs.map (.int .i64))]::R)from H).cI).fo
theorem cN.SI {vb k:Nat} {bs:List Int} {rv bv:AV} {gv:Int} (e:rv=.ba∧gv=(k:Int)) (H:HS g h (aa 3 1 bs.length bv (bs.map (.int .i64))::R)):HS g h (cN vb (.aE bs k) rv bv gv::R) :=
 show HS g h (SP.all [.iq (rv=.ba∧gv=(k:Int)),aa 3 1 bs.length bv (bs.map (.int .i64))]::R)from HS.allI (HS.fR e H)
theorem qWs {l:List Int} {k:Nat} (h:k<l.length):(l.map (.int .i64))[k]? =some (AV.int .i64 l[k]):=by simp
theorem jKt (hn:16≤n) (hg:zK x.v) (_:bX x.v.lv<9000) (hj:bS True x.v x.aN) (H:HS g h (qk a (xl x q)::cN q.vb x.aN q.rv q.bv q.gv::aj q.vb x.v::R)) :
  aH n 115 [.ptr a 0] h λr h'=>r=.cn [.int .i64 (xK x).1.1,.int .i64 (xK x).1.2]∧
   ∃gv,HS g h' (qk a (xl (xK x).2 { q with gv:=gv })::cN q.vb (xK x).2.aN q.rv q.bv gv::aj q.vb (xK x).2.v::R):=by
 refine aG (S:=S115) rfl omQ λk hk=>?_;unfold S115;try simp only[iZ]
 unfold xK;cases hx:x.aN with
 |prog p=>
  rw[hx]at H hj;obtain⟨F,Q,gb,hr,hl⟩:=hj;obtain⟨G,h0,h1,h2⟩:=hr trivial;obtain⟨ib,nx,⟨e1,e2,e3⟩,H1⟩:=cN.P (H.aM e_1);refine qG (qQ (qK H (b:=a) .here (x:=.ptr ib 0) (by rw[← e1];rfl) ?_));refine qWP (qZ (qX ?_))
  try dsimp only
  refine qG (qQ (qK H (b:=a) .here (x:=.ptr ib 0) (by rw[← e1];rfl) ?_));rw[h0,h1]at H1;refine qW (jZ2 omQ F Q G h2 omQ (H1.sub (.cons .here (.cons e_1 (.cons .here .refl))))) ?_;rintro _ h3 ⟨rfl,Ca,H3⟩;refine qG (qQ (qK H3 (b:=a) e_2 (x:=.ptr ib 0) (by rw[← e1];rfl) ?_));refine qW (jQ7 omQ H3) ?_;rintro _ _ ⟨rfl,rfl⟩;refine qT H .here (by rw[← e1];rfl) H3 e_2 (by rw[← e1];rfl) (HS.lt H .here)<|qY ⟨rfl,0,?_⟩;have H4:=(cN.PI (p:=⟨p.l,(zD p.l (qU p.l) p.left p.s x.v).s,if(zD p.l (qU p.l) p.left p.s x.v).kind=1 then 0 else(zD p.l (qU p.l) p.left p.s x.v).kind,(zD p.l (qU p.l) p.left p.s x.v).err,(zD p.l (qU p.l) p.left p.s x.v).left⟩) ⟨e1,e2,rfl⟩ H3).sub (.cons e_2 (.cons .here (.cons .here .refl)));grind[xl]
 |aE bs k=>
  rw[hx]at H hj;obtain⟨⟨e1,e2⟩,H1⟩:=cN.S (H.aM e_1);refine qG (qQ (qK H (b:=a) .here (x:=.ba) (by rw[← e1];rfl) ?_));refine qJT (qJ ?_);have l7:=hj.1;have Sq:=hj.2;dsimp only;generalize hG:xS x.v (bs.drop k) k=G
  refine jS (λm s h'=>s=(.ptr a 0,())∧∃(i:Nat) (V:VM),i≤bs.length∧m=bs.length-i∧zK V∧xS V (bs.drop i) i=G∧
    HS g h' (qk a (xl x { q with gv:=(i:Int) })::aa 3 1 bs.length q.bv (bs.map (.int .i64))::aj q.vb V::R))
   ?_ (m:=bs.length-k) (by grind) ⟨rfl,k,x.v,l7,rfl,hg,hG,by
    have:q={ q with gv:=(k:Int) }:=by rw[← e2]
    rw[← this]
    exact H1.sub (.cons e_1 (.cons .here .refl))⟩
  clear H H1 hG;rintro m ih s h1 bN ⟨rfl,i,V,hi,rfl,hV,hG,H⟩;dsimp only;refine qG (qQ (qK H (b:=a) .here rfl ?_));refine qG (qQ (qK H (b:=a) .here rfl ?_));refine qu H e_1 ?_;by_cases ax:i<bs.length
  ·refine jc (by grind) (qZ ?_);refine qG (qQ (qK H (b:=a) .here rfl ?_));refine qG (qQ (qK H (b:=a) .here rfl ?_));refine qG (qQ (qK H (b:=a) .here rfl ?_));refine zY (H.sl e_1) (qWs ax)<|qW (qxa (b:=bs[i]) omQ (H.aM e_2) hV.ok) ?_;rintro _ h2 ⟨rfl,H2⟩;rw[List.drop_eq_getElem_cons ax]at hG;by_cases h0:(yC V bs[i]).1=0
   ·refine qz h0 (qZ ?_);refine qG (qQ (qK H2 (b:=a) e_1 (x:=.int .i64 (i:Int)) rfl ?_));refine qa omQ<|qG (qQ ?_);refine qw H2 (b:=a) e_1 ⟨rfl,rfl⟩ (by simp[xl]) λh3 H3=>?_;refine bN (bs.length-(i+1)) _ _ omQ ⟨rfl,i+1,(yC V bs[i]).2,by omega,rfl,hV.mR.1,?_,H3.sub (.cons .here (.cons e_1 (.cons .here .refl)))⟩;rw[show xS V (bs[i]::bs.drop (i+1)) i=xS (yC V bs[i]).2 (bs.drop (i+1)) (i+1)from iJ h0]at hG;grind
   ·rw[show xS V (bs[i]::bs.drop (i+1)) i=((i,(yC V bs[i]).1),(yC V bs[i]).2)from iQ h0]at hG;subst hG;refine qV h0 (qJ ?_);have H3:=(cN.SI (vb:=q.vb) (k:=i) ⟨e1,rfl⟩ (H2.sub (.cons e_2 (.cons e_1 (.cons .here .refl))))).sub (.cons e_1 (.cons .here (.cons .here .refl)));by_cases dO:(yC V bs[i]).1=11
    ·refine qz dO (qZ (qx (qY ⟨?_,(i:Int),?_⟩)))
     ·grind
     trivial
    ·refine qV dO (qJ (qx (qY ⟨?_,(i:Int),?_⟩)))
     ·grind
     trivial
  ·obtain rfl:i=bs.length:=by omega
   rw[List.drop_length,show xS V [] bs.length=((bs.length,0),V)from rfl]at hG;subst hG;refine jH (by simp) (qJ (qx (qY ⟨rfl,(bs.length:Int),?_⟩)));have H3:=(cN.SI (vb:=q.vb) (k:=bs.length) ⟨e1,rfl⟩ (H.sub (.cons e_1 (.cons .here (.cons .here .refl))))).sub (.cons e_1 (.cons .here (.cons .here .refl)));exact H3
theorem U3 {st:Int} {t b:Nat} (hn:1≤n) (H:HS g h (qk a (xl x q)::R)):aH n 121 [.ptr a 0,.int .i64 st,.iface t (.ptr b 0)] h λ_ h'=>HS g h' (qk a (xl { x with state:=st } { q with iv:=.iface t (.ptr b 0) })::R):=by
 refine cY rfl omQ λk hk=>?_;unfold S121;try simp only
 refine qG (qQ (qw H .here ⟨rfl,rfl⟩ (by simp[xl]) λh1 H1=>?_));refine qG (qQ (qw H1 .here ⟨rfl,rfl⟩ (by simp[xl]) λh2 H2=>?_));exact qY H2
theorem qWB {p:Int} (hn:3≤n) (hp:p<4611686018427387904) (H:HS g h (qk a (xl x q)::R)):aH n 116 [.ptr a 0,.int .i64 p] h λ_ h'=>
  ∃b,HS g h' (qk b (kz (QF x p).f)::qk a (xl (QF x p) { q with iv:=.iface 158 (.ptr b 0),fv:=.ptr b 0 })::R):=by
 refine bw rfl omQ λk hk=>?_;unfold S116;try simp only[iZ]
 refine qX ?_
 try dsimp only
 refine qG (qQ (qK H .here rfl ?_));refine qG (qQ (qo (qo (qK H .here rfl ?_))));refine qG (qQ (qo (qo (qK H .here rfl ?_))));refine qW (qxh omQ hp) ?_;rintro _ _ ⟨rfl,rfl⟩;refine qG (qQ (qo (qK H .here rfl ?_)));refine qG (qQ (qK H .here rfl ?_));refine qW (jJe omQ H) ?_;rintro _ h1 ⟨b,rfl,H1⟩;refine qG (qQ ?_);refine qw H1 e_1 ⟨rfl,rfl⟩ (by simp[xl]) λh2 H2=>?_;refine qT H .here rfl H .here rfl (HS.lt H .here)<|qT H .here rfl H .here rfl (HS.lt H .here)<|qT H .here rfl H .here rfl (HS.lt H .here) ?_;have H3:HS g h2 (qk a (xl { x with f:=A0 x.me p (ofM p x.set.ae x.set.wide) x.set.af x.ad } { q with fv:=.ptr b 0 })::qk b (kz (A0 x.me p (ofM p x.set.ae x.set.wide) x.set.af x.ad))::R):=H2;refine qG (qQ (qK H3 .here rfl ?_));refine qW (U3 omQ H3) λ_ h4 H4=>qY ⟨b,H4.pk [1,0] 0⟩
theorem OU {st:Int} (hn:4≤n) (hr:x.r.length≤16) (H:HS g h (qk a (xl x q)::cB q.db x.r::R)):aH n 118 [.ptr a 0,.int .i64 st] h λ_ h'=>
  ∃b,HS g h' (cC b (wX x st).e::qk a (xl (wX x st) { q with iv:=.iface 159 (.ptr b 0),ev:=.ptr b 0 })::cB q.db x.r::R):=by
 refine bw rfl omQ λk hk=>?_;unfold S118;try simp only
 refine qX ?_
 try dsimp only
 refine qG (qQ (qK H .here rfl ?_));refine qG (qQ (qo (qK H .here rfl ?_)));refine qG (qQ (qK H .here rfl ?_));refine qW (SY omQ omQ (H.aM e_1)) λv h1 H1=>?_;refine qW (jQE (sp:=x.set.af) omQ omQ H1) ?_;rintro _ h2 ⟨b,rfl,H2⟩;refine qG (qQ ?_);refine qw H2 e_2 ⟨rfl,rfl⟩ (by simp[xl]) λh3 H3=>?_;refine qT H .here rfl H1 e_2 rfl (HS.lt H .here)<|qT H .here rfl H1 e_2 rfl (HS.lt H .here) ?_;have H4:HS g h3 (qk a (xl { x with e:=VR x.me x.set.af x.r } { q with ev:=.ptr b 0 })::cC b (VR x.me x.set.af x.r)::cB q.db x.r::R):=H3;refine qG (qQ (qK H4 .here rfl ?_));refine qW (U3 omQ H4) λ_ h5 H5=>qY ⟨b,H5.pk [1,0] 0⟩
end
end
section
variable {g h:AH} {L R:List SP}
section
variable {st:Int} {f:wJ} {e:wO} {c:Option q9} {iv fv ev cv:AV} {b:Nat}
theorem aU.u0 (cd:st=3) (hc:c=none) (q:cv=.ba∧fv=.ptr b 0∧iv=.iface 158 (.ptr b 0)) (H:HS g h (qk b (kz f)::R)):HS g h (aU st f e c iv fv ev cv::R):=by subst cd;subst hc;exact HS.fH b (HS.allI (HS.fR q H))
theorem aU.tE (cd:st=3) (hc:c=none) (H:HS g h (aU st f e c iv fv ev cv::R)):∃b,(cv=.ba∧fv=.ptr b 0∧iv=.iface 158 (.ptr b 0))∧HS g h (qk b (kz f)::R):=by grind[aU.fet]
theorem aU.u6 (cd:st=4∨st=5) (hc:c=none) (q:cv=.ba∧ev=.ptr b 0∧iv=.iface 159 (.ptr b 0)) (H:HS g h (cC b e::R)):HS g h (aU st f e c iv fv ev cv::R):=by subst hc;unfold aU;rw[iQ omQ,iJ cd];exact HS.fH b (HS.allI (HS.fR q H))
theorem aU.rF (cd:st=4∨st=5) (hc:c=none) (H:HS g h (aU st f e c iv fv ev cv::R)):∃b,(cv=.ba∧ev=.ptr b 0∧iv=.iface 159 (.ptr b 0))∧HS g h (cC b e::R):=by subst hc;unfold aU at H;dsimp only at H;rw[iQ omQ,iJ cd]at H;obtain⟨b,H⟩:=H.fh;exact⟨b,H.cI.fo⟩
theorem aU.A9 (cd:st≠3∧st≠4∧st≠5) (hc:c=none) (q:cv=.ba) (H:HS g h R):HS g h (aU st f e c iv fv ev cv::R):=by simp_all[aU,omQ,HS.fR]
theorem aU.FX (hc:c=none) (H:HS g h (aU st f e c iv fv ev cv::R)):cv=.ba∧HS g h R:=by grind[aU.nil]
theorem aU.tF {d:q9} (hc:c=some d) (q:cv=.ptr b 0∧(st=6→iv=.iface 160 (.ptr b 0))) (H:HS g h (aF b d::R)):HS g h (aU st f e c iv fv ev cv::R):=by subst hc;exact HS.fH b (HS.allI (HS.fR q H))
theorem aU.nX {d:q9} (hc:c=some d) (H:HS g h (aU st f e c iv fv ev cv::R)):∃b,(cv=.ptr b 0∧(st=6→iv=.iface 160 (.ptr b 0)))∧HS g h (aF b d::R):=by subst hc;obtain⟨b,H⟩:=(show HS g h (.ex (λb':Nat=>SP.all [.iq (cv=.ptr b' 0∧(st=6→iv=.iface 160 (.ptr b' 0))),aF b' d])::R)from H).fh;exact⟨b,H.cI.fo⟩
end
section
variable {n a:Nat} {x:qf} {q:A8}
theorem qXP (hn:18≤n) (B:Qk x) (hj:bS True x.v x.aN) (hc:x.c=none) (mI:q.cv=.ba) (H:HS g h (qk a (xl x q)::cN q.vb x.aN q.rv q.bv q.gv::aj q.vb x.v::cB q.db x.r::R)) :
  aH n 87 [.ptr a 0] h λ_ h'=>HS g h' (aL a (zn x)::R):=by
 refine aG (S:=S87) rfl omQ λk hk=>?_;unfold S87;try simp only[iZ]
 have D:=GC B.aJ B.fr hj;unfold zn;refine qW (jKt omQ B.aJ B.fr hj H) ?_;rintro _ h1 ⟨rfl,gv,H1⟩;clear H;generalize(xK x).1.1=kd at*;generalize(xK x).1.2=er at*;generalize(xK x).2=y at*;obtain⟨e1,e2,e3,e4,e5⟩:=D.same;have rR:y.c=none:=by grind
 have fE:y.r.length≤16:=by rw[e3];exact B.r
 rw[← e3]at H1;generalize hA:yX y kd er=A;refine qy rfl (qy rfl ?_);refine zv [] (λ_ h'=>HS g h' (aL a A::R)) (λj hj=>?_) λ_ h' H'=>qx (qY H');unfold yX at hA;have mH:=D.aJ.ok.hi;by_cases c1:kd=1
 ·rw[iJ c1]at hA;subst hA;refine qz c1 (qZ ?_);have hnd:=D.aC c1;have hk:=D.kept.1;refine qG (qQ (qK H1 (b:=a) .here rfl ?_));refine qW (Nh omQ (H1.aM (P:=aj q.vb y.v) e_2)) ?_;rintro _ _ ⟨rfl,rfl⟩;refine qW (qWB omQ omQ H1) ?_;rintro _ h2 ⟨b,H2⟩;refine hj _ _ (aL.I (q:={ q with gv:=gv,iv:=.iface 158 (.ptr b 0),fv:=.ptr b 0 }) ?_);have H3:=aU.u0 (st:=3) (e:=y.e) (ev:=q.ev) rfl rR ⟨mI,rfl,rfl⟩ H2;exact H3.pk [1,1,1,1,0] 0
 rw[iQ c1]at hA;refine qV c1 (qJ ?_);by_cases c3:kd=3
 ·rw[iJ c3]at hA;subst hA;refine qz c3 (qZ ?_);refine qG (qQ ?_);refine qw H1 (b:=a) .here ⟨rfl,rfl⟩ (by simp[xl]) λh2 H2=>?_;have H2:HS g h2 (qk a (xl { y with dB:=true } { q with gv:=gv })::cN q.vb y.aN q.rv q.bv gv::aj q.vb y.v::cB q.db y.r::R):=H2;refine qW (OU (x:={ y with dB:=true }) (q:={ q with gv:=gv }) omQ fE (H2.pk [0,2] 0)) ?_;rintro _ h3 ⟨b,H3⟩;refine hj _ _ (aL.I (q:={ q with gv:=gv,iv:=.iface 159 (.ptr b 0),ev:=.ptr b 0 }) ?_);have H4:=aU.u6 (st:=5) (f:=y.f) (fv:=q.fv) (c:=y.c) (cv:=q.cv) (.inr rfl) rR ⟨mI,rfl,rfl⟩ H3;exact H4.pk [1,2,2,1,0] 0
 rw[iQ c3]at hA;refine qV c3 (qJ ?_);have gone:∀{fin err:Int} {h2:AH},HS g h2 (qk a (xl (zT y fin err (-1)) { q with gv:=gv })::cN q.vb y.aN q.rv q.bv gv::aj q.vb y.v::cB q.db y.r::R)→HS g h2 (aL a (zT y fin err (-1))::R):=λ{fin err h2} H2=>by
  refine aL.I (q:={ q with gv:=gv }) ?_;have H3:=aU.A9 (st:=7) (f:=y.f) (e:=y.e) (c:=y.c) (iv:=q.iv) (fv:=q.fv) (ev:=q.ev) (cv:=q.cv) od rR mI H2;exact H3.pk [1,1,1,1,0] 0
 by_cases c4:kd=4
 ·rw[iJ c4]at hA;subst hA;refine qz c4 (qZ ?_);refine qW (Je omQ H1) λ_ h2 H2=>?_;exact hj _ _ (gone H2)
 rw[iQ c4]at hA;refine qV c4 (qJ ?_);refine qG (qQ (qK H1 (b:=a) .here rfl ?_));refine qW (O7 omQ (H1.aM (P:=aj q.vb y.v) e_2) D.aJ.ok) λv h2 H2=>?_;have ET:=K6 D.aJ.ok;refine qu H2 .here ?_;by_cases c5:jk y.v.lv=[]
 ·rw[iJ c5]at hA;subst hA;refine qz (by grind) (qZ ?_);refine qW (Je omQ (H2.pk [2,2,1,1] 1)) λ_ h3 H3=>?_;exact qY (gone H3)
 ·rw[iQ c5]at hA;have oe:0<(jk y.v.lv).length:=List.length_pos_iff.2 c5;refine qV omQ (qJ ?_);refine qX ?_
  try dsimp only
  refine qG (qQ (qK H2 (b:=a) e_2 rfl ?_));refine qG (qQ (qo (qK H2 (b:=a) e_2 rfl ?_)));refine qG (qQ (qK H2 (b:=a) e_2 rfl ?_));refine qG (qQ (qK H2 (b:=a) e_2 rfl ?_));refine qW (SY omQ omQ (H2.aM (P:=cB q.db y.r) e_4)) λv2 h3 H3=>?_;refine qG (qQ (qo (qo (qK H3 (b:=a) e_4 rfl ?_))));refine qG (qQ (qo (qo (qK H3 (b:=a) e_4 rfl ?_))));refine qW (jQU (me:=y.me) (sp:=y.set.af) (st:=y.ad) (a:=y.set.ae) (w:=y.set.wide) (r:=y.r) (cs:=jk y.v.lv) omQ omQ oe omQ (λc h=>by grind) (H3.pk [0,1] 0)) ?_;rintro _ h4 ⟨b,rfl,H4⟩;refine qG (qQ ?_);refine qw H4 (b:=a) e_3 (x:=.ptr b 0) ⟨rfl,rfl⟩ (by simp[xl]) λh5 H5=>?_;refine qT H2 e_2 rfl H3 e_4 rfl (HS.lt H2 e_2)<|qT H2 e_2 rfl H3 e_4 rfl (HS.lt H2 e_2)<|qT H2 e_2 rfl H3 e_4 rfl (HS.lt H2 e_2)<|qT H2 e_2 rfl H3 e_4 rfl (HS.lt H2 e_2)<|qT H2 e_2 rfl H3 e_4 rfl (HS.lt H2 e_2) ?_;have H6:HS g h5 (qk a (xl { y with c:=some (Jv y.me y.set.af y.ad y.r (jk y.v.lv) y.set.ae y.set.wide) } { q with gv:=gv,cv:=.ptr b 0 })::aF b (Jv y.me y.set.af y.ad y.r (jk y.v.lv) y.set.ae y.set.wide)::cB q.db y.r::aj q.vb y.v::cN q.vb y.aN q.rv q.bv gv::R):=H5;refine qG (qQ (qK H6 (b:=a) .here rfl ?_));refine qW (U3 omQ H6) λ_ h6 H7=>?_;subst hA;refine hj _ _ (aL.I (q:={ q with gv:=gv,cv:=.ptr b 0,iv:=.iface 160 (.ptr b 0) }) ?_);have H8:=aU.tF (st:=6) (f:=y.f) (e:=y.e) (fv:=q.fv) (ev:=q.ev) rfl ⟨rfl,λ_=>rfl⟩ (H7.aM e_1);exact H8.pk [1,3,2,1,0] 0
theorem qj1 (r:List zd) (x:zd):(gT r x).1=0∨(gT r x).2=r:=by
 unfold gT
 grind
theorem qJ3 (hn:20≤n) (B:Qk x) (hj:bS True x.v x.aN) (hw:0≤x.f.word∧x.f.word<18446744073709551616) (hc:x.c=none) {b:Nat} (hq:q.cv=.ba∧q.fv=.ptr b 0) (H:HS g h (qk a (xl x q)::cN q.vb x.aN q.rv q.bv q.gv::aj q.vb x.v::cB q.db x.r::qk b (kz x.f)::R)) :
  aH n 149 [.ptr a 0] h λ_ h'=>HS g h' (aL a (jt x)::R):=by
 refine aG (S:=S149) rfl omQ λk hk=>?_;unfold S149;try simp only[iZ]
 generalize hA:jt x=A;unfold jt at hA;refine qG (qQ (qK H (b:=a) .here (x:=.ptr b 0) (by rw[← hq.2];rfl) ?_));refine qW (Ve omQ H (s:=e_4)) ?_;rintro _ _ ⟨rfl,rfl⟩;by_cases c6:x.f.p.fin=6
 ·rw[iJ c6]at hA;subst hA;refine qz c6 (qZ ?_);refine qW (OU (q:=q) omQ B.r (H.pk [0,2] 0)) ?_;rintro _ h3 ⟨b',H3⟩;refine qY (aL.I (q:={ q with iv:=.iface 159 (.ptr b' 0),ev:=.ptr b' 0 }) ?_);have H4:=aU.u6 (st:=4) (f:=x.f) (fv:=q.fv) (c:=x.c) (cv:=q.cv) (.inl rfl) hc ⟨hq.1,rfl,rfl⟩ H3;exact H4.pk [1,2,2,1,0] 1
 rw[iQ c6]at hA;refine qV c6 (qJ ?_);refine qX ?_
 try dsimp only
 refine qG (qQ (qK H (b:=a) .here rfl ?_));refine qG (qQ (qK H (b:=a) .here (x:=.ptr b 0) (by rw[← hq.2];rfl) ?_));refine qW (qkI omQ H e_4) ?_;rintro _ h1 ⟨rfl,H1⟩;refine qW (jZA (x:=yZ x.f) omQ B.r (H1.aM (P:=cB q.db x.r) e_3)) ?_;rintro _ h2 ⟨rfl,H2⟩;refine qT H .here rfl H1 .here rfl (HS.lt H .here)<|zv [] (λ_ h'=>HS g h' (aL a A::R)) (λj rz=>?_) λ_ h' H'=>qx (qY H');have hx:=Gj hw;by_cases c0:(gT x.r (yZ x.f)).1=0
 ·rw[iJ c0]at hA;subst hA;refine qz c0 (qZ ?_);refine qX ?_
  try dsimp only
  refine qG (qQ (qK H2 (b:=a) e_1 rfl ?_));refine qG (qQ (qK H2 (b:=a) e_1 rfl ?_));refine qW (Nh omQ (H2.aM (P:=aj q.vb x.v) e_3)) ?_;rintro _ _ ⟨rfl,rfl⟩;refine qG (qQ (qK H2 (b:=a) e_1 (x:=.ptr b 0) (by rw[← hq.2];rfl) ?_));refine qW (qvP omQ H2 e_4) ?_;rintro _ _ ⟨rfl,rfl⟩;refine qW (qga (p:=x.v.aC) (x:=xn x.f) omQ (H2.aM (P:=aj q.vb x.v) e_3) B.aJ.ok) ?_;rintro _ h3 ⟨rfl,H3⟩;refine qT H2 e_1 (x:=.ptr b 0) (by rw[← hq.2];rfl) H2 e_1 (by rw[← hq.2];rfl) (HS.lt H2 e_1)<|qT H2 e_1 rfl H2 e_1 rfl (HS.lt H2 e_1)<|qT H2 e_1 rfl H2 e_1 rfl (HS.lt H2 e_1)<|qW (qXP (x:={ x with r:=(gT x.r (yZ x.f)).2,v:=(xz x.v x.v.aC (xn x.f)).2 }) (q:=q) (R:=R) omQ ?_ (hj.lN hx) hc hq.1 (H3.pk [2,2,0,0] 1)) λ_ h4 H4=>rz _ _ H4;exact⟨B.set,Qu B.aJ hx,by show((xz x.v x.v.aC (xn x.f)).2.sz:Int)=x.set.words;rw[kQ.2];exact B.sz,by show bX (xz x.v x.v.aC (xn x.f)).2.lv<9000;rw[kQ.1];exact B.fr,Xv B.r,(hj.lN hx).same λh=>h.elim,B.c⟩
 rw[iQ c0]at hA;refine qV c0 (qJ ?_);have lO:(gT x.r (yZ x.f)).2=x.r:=(qj1 x.r (yZ x.f)).resolve_left c0;rw[lO]at H2;have gone:∀{fin err:Int} {h2:AH},HS g h2 (qk a (xl (zT x fin err (-1)) q)::cB q.db x.r::cN q.vb x.aN q.rv q.bv q.gv::aj q.vb x.v::qk b (kz x.f)::R)→HS g h2 (aL a (zT x fin err (-1))::R):=λ{fin err h2} H2=>by
  refine aL.I (q:=q) ?_;have H3:=aU.A9 (st:=7) (f:=x.f) (e:=x.e) (c:=x.c) (iv:=q.iv) (fv:=q.fv) (ev:=q.ev) (cv:=q.cv) od hc hq.1 H2;exact H3.pk [1,2,2,1,0] 1
 by_cases A6:(gT x.r (yZ x.f)).1=14
 ·rw[iJ A6]at hA;subst hA;refine qz A6 (qZ ?_);refine qW (Je omQ (H2.aM e_1)) λ_ h3 H3=>?_;exact rz _ _ (gone H3)
 ·rw[iQ A6]at hA;subst hA;refine qV A6 (qJ ?_);refine qW (Je omQ (H2.aM e_1)) λ_ h3 H3=>?_;exact rz _ _ (gone H3)
theorem Ya (hn:4≤n) (_:∀c,x.c=some c→xH c) (H:HS g h (aL a x::R)):aH n 69 [.ptr a 0] h λr h'=>r=.bool (ql x)∧HS g h' (aL a x::R):=by
 refine aG rfl omQ λk hk=>?_;unfold S69;try simp only[iZ]
 obtain⟨q,H1⟩:=aL.E H;refine qG (qQ (qK H1 .here rfl ?_));unfold ql;by_cases c8:x.state=8
 ·rw[iV (λh=>h c8),Bool.false_and];refine jB c8<|qX<|qS<|qH (qX ?_);refine qS<|qX<|ze<|qX<|qS<|qH ?_
  exact qY ⟨rfl,H⟩
 rw[iG (show x.state≠8 from c8),Bool.true_and];refine jg c8 ?_;cases hc:x.c with
 |none=>
  obtain⟨e,H2⟩:=aU.FX hc (H1.aM e_4);refine qX<|qb<|qG (qQ (qK ‹_› .here rfl ?_))
  rw[e];refine qJT (qB (qX ?_));refine qS<|qX<|ze<|qX<|qS<|qH ?_
  exact qY ⟨rfl,H⟩
 |some c=>
  obtain⟨b,e,H2⟩:=aU.nX hc (H1.aM e_4);refine qX<|qb<|qG (qQ (qK ‹_› e_1 rfl ?_))
  rw[e.1];refine qWP (qB (qX ?_));(try dsimp only);refine qb<|qG (qQ (qK ‹_› e_1 rfl ?_))
  rw[e.1];refine qW (qZe omQ H2) ?_;rintro _ _ ⟨rfl,rfl⟩;cases hw:kT c with
  |true=>
   refine qX<|jG<|qX<|qb<|qB (qB ?_)
   exact qY ⟨rfl,H⟩
  |false=>
   refine qX<|qp<|qG (qQ (qK ‹_› e_1 rfl ?_))
   rw[e.1];refine qW (Vh omQ H2) ?_;rintro _ _ ⟨rfl,rfl⟩;by_cases c2:c.p.fin=2
   ·refine qz c2 ?_;rw[iG c2];refine qX<|qb<|qH (qB ?_)
    exact qY ⟨rfl,H⟩
   ·refine qV c2 ?_;rw[iV c2];refine qX<|qb<|qH (qB ?_)
    exact qY ⟨rfl,H⟩
theorem qzn (hn:22≤n) (O:zG x) (h3:3≤x.state) (h6:x.state≤6) (H:HS g h (aL a x::R)):aH n 122 [.ptr a 0] h λ_ h'=>HS g h' (aL a (jr x)::R):=by
 refine aG (S:=S122) rfl omQ λk hk=>?_;unfold S122;try simp only[iZ]
 obtain⟨q,H1⟩:=aL.E H;clear H;generalize hA:jr x=A;unfold jr at hA;refine qG (qQ (qK H1 (b:=a) .here rfl ?_));refine zv [] (λ_ h'=>HS g h' (aL a A::R)) (λj hj=>?_) λ_ h' H'=>qx (qY H');by_cases c3:x.state=3
 ·rw[iJ c3]at hA;subst hA;refine qz c3 (qZ ?_);obtain⟨b,e,H2⟩:=aU.tE c3 (O.c0 omQ) (H1.aM e_4);refine qW (qJ3 (q:=q) (R:=R) omQ O.b (O.aN.same λ_=>by omega) (O.f c3).2 (O.c0 omQ) ⟨e.1,e.2.1⟩ (H2.pk [1,1,1,1,0] 0)) λ_ h3 H3=>hj _ _ H3
 rw[iQ c3]at hA;refine qV c3 (qJ ?_);by_cases c4:x.state=4
 ·rw[iJ c4]at hA;subst hA;refine qz c4 (qZ ?_);have hnd:=O.aC omQ omQ;have mH:=O.aJ.ok.hi;obtain⟨b,e,H2⟩:=aU.rF (.inl c4) (O.c0 omQ) (H1.aM e_4);obtain⟨sv,H3⟩:=cC.E H2;refine qG (qQ (qK H1 (b:=a) .here (x:=.ptr b 0) (by rw[← e.2.1];rfl) ?_));refine qW (OE omQ H3 .here) ?_;rintro _ _ ⟨rfl,rfl⟩;refine qG (qQ ?_);refine qw H2 (b:=a) e_1 ⟨rfl,rfl⟩ (by simp[xl]) λh4 H4=>?_;have H4:HS g h4 (qk a (xl { x with ad:=yt x.e } q)::cC b x.e::cN q.vb x.aN q.rv q.bv q.gv::aj q.vb x.v::cB q.db x.r::R):=H4;refine qG (qQ (qK H4 (b:=a) .here rfl ?_));refine qW (Nh omQ (H4.aM (P:=aj q.vb x.v) e_3)) ?_;rintro _ _ ⟨rfl,rfl⟩;refine qW (qWB omQ omQ H4) ?_;rintro _ h5 ⟨b',H5⟩;refine hj _ _ (aL.I (q:={ q with iv:=.iface 158 (.ptr b' 0),fv:=.ptr b' 0 }) ?_);have H6:=aU.u0 (st:=3) (e:=x.e) (ev:=q.ev) (c:=x.c) (cv:=q.cv) rfl (O.c0 omQ) ⟨e.1,rfl,rfl⟩ H5;exact H6.pk [1,2,2,2,0] 1
 rw[iQ c4]at hA;refine qV c4 (qJ ?_);by_cases c5:x.state=5
 ·rw[iJ c5]at hA;subst hA;refine qz c5 (qZ ?_);obtain⟨b,e,H2⟩:=aU.rF (.inr c5) (O.c0 omQ) (H1.aM e_4);obtain⟨sv,H3⟩:=cC.E H2;refine qG (qQ (qK H1 (b:=a) .here (x:=.ptr b 0) (by rw[← e.2.1];rfl) ?_));refine qW (OE omQ H3 .here) ?_;rintro _ _ ⟨rfl,rfl⟩;refine qG (qQ ?_);refine qw H2 (b:=a) e_1 ⟨rfl,rfl⟩ (by simp[xl]) λh4 H4=>?_;have H4:HS g h4 (qk a (xl { x with ad:=yt x.e } q)::cC b x.e::cN q.vb x.aN q.rv q.bv q.gv::aj q.vb x.v::cB q.db x.r::R):=H4;refine qW (Je omQ H4) λ_ h5 H5=>?_;refine hj _ _ (aL.I (q:=q) ?_);have H6:=aU.A9 (st:=7) (f:=x.f) (e:=x.e) (c:=x.c) (iv:=q.iv) (fv:=q.fv) (ev:=q.ev) (cv:=q.cv) od (O.c0 omQ) e.1 H5;exact H6.pk [1,2,2,2,0] 1
 rw[iQ c5]at hA;refine qV c5 (qJ ?_);have c6:x.state=6:=by omega
 refine qz c6 (qZ ?_)
 split at hA
 ·rename_i c hc;subst hA;obtain⟨b,e,H2⟩:=aU.nX hc (H1.aM e_4);refine qX ?_
  try dsimp only
  refine qG (qQ (qK H1 (b:=a) .here (x:=.ptr b 0) (by rw[← e.1];rfl) ?_));refine qW (Vh omQ H2) ?_;rintro _ _ ⟨rfl,rfl⟩;refine qG (qQ (qK H1 (b:=a) .here (x:=.ptr b 0) (by rw[← e.1];rfl) ?_));refine qW (qy2 omQ H2) ?_;rintro _ _ ⟨rfl,rfl⟩;refine qW (Je omQ (H2.aM e_1)) λ_ h5 H5=>?_;refine qT H1 .here (x:=.ptr b 0) (by rw[← e.1];rfl) H1 .here (by rw[← e.1];rfl) (HS.lt H1 .here)<|hj _ _ (aL.I (q:=q) ?_);have H6:=aU.tF (st:=7) (f:=x.f) (e:=x.e) (iv:=q.iv) (fv:=q.fv) (ev:=q.ev) (b:=b) hc ⟨e.1,λh=>by grind⟩ (H5.aM (P:=aF b c) e_1);exact H6.pk [1,1,1,1,0] 0
 ·rename_i hc;exact absurd hc (O.c6 c6)
end
end
end Go.Proofs.YtemjbhdofokbhaaGreatDoor
