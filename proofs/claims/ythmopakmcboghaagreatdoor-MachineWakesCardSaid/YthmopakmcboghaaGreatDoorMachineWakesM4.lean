/- Lemmas for 'quietus/quietuslaw28.MachineWakes': Threads: plain: what a step keeps;A run on a view that knows less: it asks for a word, or does the same. Plain;What a run writes lies within the heap: plain;... No condition. -/
import Derived.Test.YthmopakmcboghaaGreatDoorMachineWakesM3
import Derived.Test.YthmopakmcboghaaGreatDoorMachineWakesM2
import Derived.Test.YthmopakmcboghaaGreatDoorMachineWakesM1
namespace Go.Proofs.YthmopakmcboghaaGreatDoor
open Go Go.Ae
set_option maxRecDepth 100000
section
def sc:Yc→Bool
 | .prog _=>false
 | .aj _ _=>true
structure gM (x y:q9):Prop where
  me:y.me=x.me
  set:y.set=x.set
  sw:sc y.au=sc x.au
theorem gM.refl (x:q9):gM x x:=⟨rfl,rfl,rfl⟩
theorem gM.trans {x y z:q9} (a:gM x y) (b:gM y z):gM x z:=⟨b.me.trans a.me,b.set.trans a.set,b.sw.trans a.sw⟩
theorem qQP (x:q9):gM x (yY x).2:=by
 unfold yY;cases hx:x.au with
 |prog q=>exact⟨rfl,rfl,by rw[hx];rfl⟩
 |aj bs k=>exact⟨rfl,rfl,by rw[hx];rfl⟩
theorem M7 (x:q9) (k e:Int):gM x (wu x k e):=by
 unfold wu
 repeat' split
 all_goals exact⟨rfl,rfl,rfl⟩
theorem Yn (x:q9):gM x (xl x):=(qQP x).trans (M7 ..)
theorem Gd (x:q9):gM x (xW x):=by
 unfold xW
 split
 ·exact⟨rfl,rfl,rfl⟩
 ·split
  ·exact(gM.trans (y:={ x with r:=(gr x.r (xN x.f)).2,v:=(yK x.v x.v.aC (xq x.f)).2 }) ⟨rfl,rfl,rfl⟩ (Yn _))
  ·split<;>exact⟨rfl,rfl,rfl⟩
theorem Qf (x:q9):gM x (jN x):=by
 have hs:∀y:q9,gM y (xK y):=λy=>by
  unfold xK
  repeat' split
  all_goals exact⟨rfl,rfl,rfl⟩
 unfold jN;refine gM.trans ?_ (hs _)
 split
 ·exact .refl x
 ·split
  ·exact⟨rfl,rfl,rfl⟩
  ·unfold zQ
   split
   ·exact Gd x
   ·repeat' split
    all_goals exact⟨rfl,rfl,rfl⟩
theorem Yx (x:q9) (a:cO):gM x (jY x a):=by
 unfold jY
 split
 ·exact .refl x
 ·split
  ·exact⟨rfl,rfl,rfl⟩
  ·split
   ·exact⟨rfl,rfl,rfl⟩
   ·split
    ·exact⟨rfl,rfl,rfl⟩
    ·split
     ·exact Yn x
     ·split
      ·exact⟨rfl,rfl,rfl⟩
      ·split
       ·exact gM.trans (y:={ x with f:=xY x.f a }) ⟨rfl,rfl,rfl⟩ (Qf _)
       ·split
        ·exact gM.trans (y:={ x with c:=x.c.map λc=>xL c a }) ⟨rfl,rfl,rfl⟩ (Qf _)
        ·exact gM.trans (y:={ x with e:=xO x.e a }) ⟨rfl,rfl,rfl⟩ (Qf _)
structure ThrB (t:qt):Prop where
  set:QG t.set
  me:0≤t.me∧t.me<t.set.aa
  jobs:∀l∈t.jobs,(xZ l).2=0∧Quiet l
  jl:t.jobs.length≤6
  au:0≤t.au∧t.au≤t.jobs.length
  ad:t.ad.length+t.ae.length≤9000*t.results.length
  ah:t.ah.length≤6
  ag:0≤t.ag∧t.ag≤t.az.length
  aD:0≤t.aD∧t.aD≤t.ag
  mh:t.aj=false→t.ae=[]
structure wN (t:qt):Prop extends ThrB t where
  now:∀x,t.now=some x→ze x∧x.me=t.me∧x.set=t.set∧sc x.au=t.aj
  lt:t.au<t.jobs.length
  some:t.now≠none
structure yZ (t:qt):Prop where
  st:1≤t.state∧t.state≤6
  b:ThrB t
  c:t.state≠6→wN t
  fin:t.state=6→t.au=t.jobs.length∧t.now=none
  iM:(t.results.length:Int)≤t.au+(if t.state≠6∧(t.aj=true∨t.state=5)then 1 else 0)
  Hd:t.state=5→(t.ah.length:Int)<t.set.aa∧(t.ah.length:Int)≠t.me
  He:t.state=3→0<t.aV∧t.aV≤8
  Pk:t.state=2→0≤t.cU∧t.cU<t.set.aa
  DP:t.state=5→t.aj=false
variable {t:qt}
theorem ThrB.len (B:ThrB t) (h:(t.results.length:Int)≤t.au+1):t.ad.length+t.ae.length≤63000:=by have h1:=B.jl;have h2:=B.au;have h3:=B.ad;omega
theorem gd (B:ThrB t) (hr:(t.results.length:Int)≤t.au+(if t.aj=true∧t.au≠t.jobs.length then 1 else 0)):yZ (jg t):=by
 have hlen:=B.len (by split at hr<;>omega);have hs:=B.set.start.1;have mz:=kY B.set;unfold jg
 split
 ·rename_i hj;refine⟨by show(1:Int)≤6∧(6:Int)≤6;decide,⟨B.set,B.me,B.jobs,B.jl,B.au,B.ad,B.ah,B.ag,B.aD,B.mh⟩,λh=>absurd rfl h,λ_=>⟨hj,rfl⟩,?_,λh=>(by cases h),λh=>(by cases h),λh=>(by cases h),λh=>by cases h⟩;rw[iQ (λh=>h.2 hj)]at hr;show(t.results.length:Int)≤t.au+(if(6:Int)≠6∧_ then 1 else 0);rw[iQ (λh=>h.1 rfl)];exact hr
 ·rename_i hj;have B':ThrB { t with born:=0,bR:=false,state:=1,now:=some (if t.aj=true then QF t.me t.set (t.ae.map (·.1))else yg t.me t.set ((t.jobs[t.au.toNat]?).getD [])) }:=⟨B.set,B.me,B.jobs,B.jl,B.au,B.ad,B.ah,B.ag,B.aD,B.mh⟩;refine⟨by show(1:Int)≤1∧(1:Int)≤6;decide,B',λ_=>⟨B',λx hx=>?_,by have:=B.au;show t.au<(t.jobs.length:Int);omega,λh=>by cases h⟩,λh=>(by cases h),?_,λh=>(by cases h),λh=>(by cases h),λh=>(by cases h),λh=>by cases h⟩
  ·cases hx
   split
   ·rename_i dP;exact⟨Om hs (by rw[List.length_map];omega),rfl,mz,dP.symm⟩
   ·rename_i dP;have ap:t.au.toNat<t.jobs.length:=by have:=B.au;omega
    rw[iW ap];have:=B.jobs _ (List.getElem_mem ap);exact⟨qQR hs this.1 this.2,rfl,mz,by simp only[Bool.not_eq_true]at dP;exact dP.symm⟩
  ·show(t.results.length:Int)≤t.au+(if(1:Int)≠6∧(t.aj=true∨(1:Int)=5)then 1 else 0);by_cases dP:t.aj=true
   ·rw[iJ ⟨by decide,.inl dP⟩];rw[iJ ⟨dP,hj⟩]at hr;exact hr
   ·rw[iQ (λh=>dP h.1)]at hr;rw[iQ (λh=>by rcases h.2 with h |h;exact dP h;cases h)];exact hr
theorem kx (B:ThrB { t with au:=t.au+1,aj:=false,ae:=[],ag:=0,aD:=0 }) (hr:(t.results.length:Int)≤t.au+1):yZ (jD t):=by unfold jD;refine gd B ?_;show(t.results.length:Int)≤t.au+1+(if false=true∧_ then 1 else 0);rw[iQ (λh=>by cases h.1)];omega
theorem kM (B:ThrB t) (hj:t.au<t.jobs.length) (hr:(t.results.length:Int)≤t.au+1):yZ (jD t):=by have:=B.au;have:=B.ag;refine kx ⟨B.set,B.me,B.jobs,B.jl,by show 0≤t.au+1∧t.au+1≤(t.jobs.length:Int);omega,?_,B.ah,by show(0:Int)≤0∧(0:Int)≤(List.length _:Int);omega,by show(0:Int)≤0∧(0:Int)≤0;decide,λ_=>rfl⟩ hr;have:=B.ad;show t.ad.length+0≤9000*t.results.length;omega
theorem KJ (c:Int):1≤yX c∧yX c≤8:=by
 unfold yX
 repeat' split
 all_goals omega
theorem wN.go (C:wN t) {u:qt} (h1:u.set=t.set) (h2:u.me=t.me) (h3:u.jobs=t.jobs) (h4:u.au=t.au) (h5:u.ad=t.ad) (h6:u.ae=t.ae) (h7:u.results=t.results) (h8:u.ah.length≤6) (h9:0≤u.ag∧u.ag≤u.az.length) (eu:0≤u.aD∧u.aD≤u.ag) (dq:u.now=t.now) (nS:u.aj=t.aj):wN u:=by have B:=C.toThrB;refine⟨⟨by rw[h1];exact B.set,by rw[h1,h2];exact B.me,by rw[h3];exact B.jobs,by rw[h3];exact B.jl,by rw[h3,h4];exact B.au,by rw[h5,h6,h7];exact B.ad,h8,h9,eu,by rw[nS,h6];exact B.mh⟩,by rw[dq,h1,h2,nS];exact C.now,by rw[h3,h4];exact C.lt,by rw[dq];exact C.some⟩
theorem US (C:wN t) {draw:Int} (hd:0≤draw) (hr:(t.results.length:Int)≤t.au+(if t.aj=true then 1 else 0)):yZ (xQ t draw):=by
 have hm:=KJ t.aD;have ap:=C.lt;unfold xQ
 split
 ·refine gd (C.go (u:={ t with aV:=0,state:=3 }) rfl rfl rfl rfl rfl rfl rfl C.ah C.ag C.aD rfl rfl).toThrB ?_;show(t.results.length:Int)≤t.au+(if t.aj=true∧t.au≠t.jobs.length then 1 else 0);by_cases hs:t.aj=true
  ·rw[iJ ⟨hs,by omega⟩];rw[iJ hs]at hr;exact hr
  ·rw[iQ (λh=>hs h.1)];rw[iQ hs]at hr;exact hr
 ·rename_i hn;have C':wN { t with aV:=draw%(yX t.aD+1),state:=3 }:=C.go rfl rfl rfl rfl rfl rfl rfl C.ah C.ag C.aD rfl rfl;have h1:=Int.emod_nonneg draw (show yX t.aD+1≠0 by omega);have h2:=Int.emod_lt_of_pos draw (show 0<yX t.aD+1 by omega);refine⟨by show(1:Int)≤3∧(3:Int)≤6;decide,C'.toThrB,λ_=>C',λh=>(by cases h),?_,λh=>(by cases h),λ_=>⟨by show 0<draw%(yX t.aD+1);omega,by show draw%(yX t.aD+1)≤8;omega⟩,λh=>(by cases h),λh=>by cases h⟩;show(t.results.length:Int)≤t.au+(if(3:Int)≠6∧(t.aj=true∨(3:Int)=5)then 1 else 0);by_cases hs:t.aj=true
  ·rw[iJ ⟨by decide,.inl hs⟩];rw[iJ hs]at hr;exact hr
  ·rw[iQ (λh=>by rcases h.2 with h |h;exact hs h;cases h)];rw[iQ hs]at hr;exact hr
theorem Zq {α:Type} (p:α→Bool) (l:List α):(l.filter p).length+(l.filter λx=>!p x).length=l.length:=by
 induction l with
 |nil=>rfl
 |cons x r ih=>rw[List.filter_cons,List.filter_cons];cases p x<;>simp<;>omega
theorem Mk (C:wN t) (hr:(t.results.length:Int)≤t.au+1) (h5:t.state=5) (hl:(t.ah.length:Int)≤t.set.aa) (dP:t.aj=false):yZ (vo t):=by
 have h4:=C.set.aa;have ap:=C.lt;have hg:=C.mh dP;have sd:=C.ad;rw[hg]at sd;unfold vo;have key:∀u:qt,u={ t with ah:=u.ah }→(u.ah.length:Int)≤5→(u.ah.length:Int)≠t.me→yZ (wy u):=by
  intro u hu DR Pm;have C':wN u:=by rw[hu];exact C.go rfl rfl rfl rfl rfl rfl rfl (by show u.ah.length≤6;omega) C.ag C.aD rfl rfl
  have Cq:(u.ah.length:Nat)≤6:=by omega
  unfold wy;have e1:u.set=t.set:=by rw[hu]
  have e2:u.ad=t.ad:=by rw[hu]
  have e3:u.results=t.results:=by rw[hu]
  have e4:u.au=t.au:=by rw[hu]
  have e5:u.state=5:=by rw[hu];exact h5
  have e6:u.me=t.me:=by rw[hu]
  have e7:u.jobs=t.jobs:=by rw[hu]
  have e8:u.ae=[]:=by rw[hu];exact hg
  have hf:=Zq (λr:KG=>jX u.ah r.2) u.ad
  split
  ·rename_i h;refine⟨by omega,C'.toThrB,λ_=>C',λh=>by omega,?_,λ_=>⟨h,by rw[e6];exact Pm⟩,λh=>by omega,λh=>by omega,λ_=>by rw[hu];exact dP⟩;rw[iJ ⟨by omega,.inr e5⟩,e3,e4];exact hr
  ·split
   ·refine kM (t:={ u with ad:=u.ad.filter λr=>!jX u.ah r.2 }) ⟨C'.set,C'.me,C'.jobs,C'.jl,C'.au,?_,Cq,C'.ag,C'.aD,C'.mh⟩ C'.lt (by show(u.results.length:Int)≤u.au+1;rw[e3,e4];exact hr);show(u.ad.filter λr=>!jX u.ah r.2).length+u.ae.length≤9000*u.results.length;rw[e8,e3];rw[e2]at hf ⊢;simp at sd ⊢;omega
   ·refine gd (t:={ u with ad:=u.ad.filter (λr=>!jX u.ah r.2),aj:=true,ae:=u.ad.filter (λr=>jX u.ah r.2),ag:=0,aD:=0 }) ⟨C'.set,C'.me,C'.jobs,C'.jl,C'.au,?_,Cq,by show(0:Int)≤0∧(0:Int)≤(List.length _:Int);omega,by show(0:Int)≤0∧(0:Int)≤0;decide,λh=>by cases h⟩ ?_
    ·show(u.ad.filter λr=>!jX u.ah r.2).length+(u.ad.filter λr=>jX u.ah r.2).length≤9000*u.results.length;rw[e3];rw[e2]at hf ⊢;simp at sd;omega
    ·show(u.results.length:Int)≤u.au+(if true=true∧u.au≠u.jobs.length then 1 else 0);rw[iJ ⟨rfl,by rw[e4,e7];omega⟩,e3,e4];exact hr
 split
 ·rename_i h;refine key _ rfl ?_ ?_
  ·show((t.ah++[(0:Int)]).length:Int)≤5;rw[List.length_append,List.length_singleton];omega
  ·show((t.ah++[(0:Int)]).length:Int)≠t.me;rw[List.length_append,List.length_singleton];omega
 ·rename_i h;exact key t rfl omQ h
theorem qZt (lv:List bz):(xy lv).length≤bK lv:=by unfold xy bK;rw[List.length_flatMap,List.map_reverse,List.sum_reverse];exact Nat.le_refl _
theorem Yf {x:q9} (O:ze x) (hp:sc x.au=false):(zJ x).length≤9000:=by
 unfold zJ
 split
 ·cases hj:x.au with
  |prog q=>dsimp only;have h1:=O.fr;have h2:=qZt x.v.lv;omega
  |aj bs k=>rw[hj]at hp;cases hp
 ·simp
theorem qJA (C:wN t) {x:q9} (hx:t.now=some x) (hs5:t.state=1) {draw pick:Int} (hd:0≤draw) (hr:(t.results.length:Int)≤t.au+(if t.aj=true then 1 else 0)):yZ (xU t x draw pick):=by
 have ht:=C.ag;have hc:=C.aD;have ap:=C.lt;have hlen:(t.az++[jM t x pick]).length=t.az.length+1:=by simp
 have Pn:(t.results.length:Int)≤t.au+1:=by split at hr<;>omega
 have Po:∀s:Int,s≠6→(t.results.length:Int)≤t.au+(if s≠6∧(t.aj=true∨s=5)then 1 else 0):=λs h6=>by
  by_cases hs:t.aj=true
  ·rw[iJ ⟨h6,.inl hs⟩];rw[iJ hs]at hr;exact hr
  ·rw[iQ hs]at hr;split<;>omega
 unfold xU;dsimp only
 split
 ·split
  ·rename_i hb;have C':wN { t with az:=t.az++[jM t x pick],ag:=t.ag+1,aD:=t.aD+1,state:=2,cU:=wE x,bj:=false } :=
    C.go rfl rfl rfl rfl rfl rfl rfl C.ah (by show 0≤t.ag+1∧t.ag+1≤((t.az++[jM t x pick]).length:Int);omega) (by show 0≤t.aD+1∧t.aD+1≤t.ag+1;omega) rfl rfl
   exact⟨by show(1:Int)≤2∧(2:Int)≤6;decide,C'.toThrB,λ_=>C',λh=>(by cases h),Po 2 od,λh=>(by cases h),λh=>(by cases h),λ_=>hb,λh=>by cases h⟩
  ·exact US (t:={ t with az:=t.az++[jM t x pick],ag:=t.ag+1,aD:=t.aD+1 }) (C.go rfl rfl rfl rfl rfl rfl rfl C.ah (by show 0≤t.ag+1∧t.ag+1≤((t.az++[jM t x pick]).length:Int);omega) (by show 0≤t.aD+1∧t.aD+1≤t.ag+1;omega) rfl rfl) hd hr
 ·have C':∀s:Int,wN { t with az:=t.az++[jM t x pick],ag:=t.ag+1,state:=s }:=λs=>
   C.go rfl rfl rfl rfl rfl rfl rfl C.ah (by show 0≤t.ag+1∧t.ag+1≤((t.az++[jM t x pick]).length:Int);omega) (by show 0≤t.aD∧t.aD≤t.ag+1;omega) rfl rfl
  have CB:=(C' t.state).toThrB
  split
  ·split
   ·refine gd (t:={ t with az:=t.az++[jM t x pick],ag:=t.ag+1 }) CB ?_;show(t.results.length:Int)≤t.au+(if t.aj=true∧t.au≠t.jobs.length then 1 else 0);by_cases hs:t.aj=true
    ·rw[iJ ⟨hs,by omega⟩];rw[iJ hs]at hr;exact hr
    ·rw[iQ (λh=>hs h.1)];rw[iQ hs]at hr;exact hr
   ·exact⟨by show(1:Int)≤4∧(4:Int)≤6;decide,(C' 4).toThrB,λ_=>C' 4,λh=>(by cases h),Po 4 od,λh=>(by cases h),λh=>(by cases h),λh=>(by cases h),λh=>by cases h⟩
  ·split
   ·rename_i dP;unfold kB
    split
    ·refine kx (t:={ t with az:=t.az++[jM t x pick],ag:=t.ag+1,ad:=t.ad++t.ae }) ⟨C.set,C.me,C.jobs,C.jl,by have:=C.au;show 0≤t.au+1∧t.au+1≤(t.jobs.length:Int);omega,?_,C.ah,by show(0:Int)≤0∧(0:Int)≤(List.length _:Int);omega,by show(0:Int)≤0∧(0:Int)≤0;decide,λ_=>rfl⟩ Pn;have:=C.ad;show(t.ad++t.ae).length+0≤9000*t.results.length;rw[List.length_append];omega
    ·exact kM (t:={ t with az:=t.az++[jM t x pick],ag:=t.ag+1 }) CB ap Pn
   ·rename_i dP;have dP:t.aj=false:=by simpa using dP
    have hn:=C.now x hx;have DH:=Yf hn.1 (hn.2.2.2.trans dP);rw[dP,iQ aN]at hr;have tZ:=C.mh dP;have sd:=C.ad;rw[tZ]at sd;unfold gE;have e1:(t.results++[(⟨jq x,xB x,zG x,x.af⟩:Ur)]).length=t.results.length+1:=by simp
    have e2:(t.ad++(zJ x).map λb=>(b,x.af)).length=t.ad.length+(zJ x).length:=by simp
    have B2:ThrB { t with az:=t.az++[jM t x pick],ag:=t.ag+1,results:=t.results++[⟨jq x,xB x,zG x,x.af⟩],ad:=t.ad++(zJ x).map λb=>(b,x.af) } :=
     ⟨C.set,C.me,C.jobs,C.jl,C.au,by show(t.ad++(zJ x).map λb=>(b,x.af)).length+t.ae.length≤9000*(t.results++[(⟨jq x,xB x,zG x,x.af⟩:Ur)]).length;rw[e1,e2,tZ];rw[List.length_nil]at sd ⊢;omega,
      C.ah,by show 0≤t.ag+1∧t.ag+1≤((t.az++[jM t x pick]).length:Int);omega,by show 0≤t.aD∧t.aD≤t.ag+1;omega,C.mh⟩
    dsimp only
    split
    ·exact kM B2 ap (by show((t.results++[(⟨jq x,xB x,zG x,x.af⟩:Ur)]).length:Int)≤t.au+1;omega)
    ·refine Mk (t:={ t with az:=t.az++[jM t x pick],ag:=t.ag+1,results:=t.results++[⟨jq x,xB x,zG x,x.af⟩],ad:=t.ad++(zJ x).map λb=>(b,x.af),state:=5,ah:=[] })
      ⟨⟨B2.set,B2.me,B2.jobs,B2.jl,B2.au,B2.ad,Nat.zero_le _,B2.ag,B2.aD,B2.mh⟩,C.now,C.lt,C.some⟩ (by show((t.results++[(⟨jq x,xB x,zG x,x.af⟩:Ur)]).length:Int)≤t.au+1;omega) rfl (by have:=C.set.aa;show(0:Int)≤t.set.aa;omega) dP
theorem V6 (O:yZ t) {a:cO} (ha:XH a) {draw pick:Int} (hd:0≤draw):yZ (zj t a draw pick):=by
 have cu:=O.iM;unfold zj
 split
 ·rename_i h1;have C:=O.c omQ;cases hn:t.now with
  |none=>exact O
  |some x=>
   dsimp only;have hx:=C.now x hn;have hS:=Yx x a;have hr:(t.results.length:Int)≤t.au+(if t.aj=true then 1 else 0):=by
    by_cases hs:t.aj=true
    ·rw[iJ ⟨by omega,.inl hs⟩]at cu;rw[iJ hs];exact cu
    ·rw[iQ (λh=>by rcases h.2 with h |h;exact hs h;omega)]at cu;rw[iQ hs];exact cu
   unfold vv;dsimp only
   have C':∀b:Int,wN { t with now:=some (jY x a),born:=b }:=λb=>⟨⟨C.set,C.me,C.jobs,C.jl,C.au,C.ad,C.ah,C.ag,C.aD,C.mh⟩,λy hy=>by
    cases hy
    exact⟨MJ hx.1 ha,hS.me.trans hx.2.1,hS.set.trans hx.2.2.1,hS.sw.trans hx.2.2.2⟩,C.lt,λh=>by cases h⟩
   split
   ·exact⟨O.st,(C' _).toThrB,λ_=>C' _,λh=>absurd h (by show¬t.state=6;omega),O.iM,λh=>absurd h (by show¬t.state=5;omega),λh=>absurd h (by show¬t.state=3;omega),λh=>absurd h (by show¬t.state=2;omega),λh=>absurd h (by show¬t.state=5;omega)⟩
   ·exact qJA (t:={ t with now:=some (jY x a),born:=if(jY x a).begun=true∧x.begun=false then pick else t.born }) (C' _) rfl h1 hd hr
 ·split
  ·rename_i h2;have C:=O.c omQ
   split
   ·have C':wN { t with bj:=true,since:=a.word }:=C.go rfl rfl rfl rfl rfl rfl rfl C.ah C.ag C.aD rfl rfl;exact⟨O.st,C'.toThrB,λ_=>C',λh=>absurd h (by show¬t.state=6;omega),O.iM,λh=>absurd h (by show¬t.state=5;omega),λh=>absurd h (by show¬t.state=3;omega),O.Pk,λh=>absurd h (by show¬t.state=5;omega)⟩
   ·refine US C hd ?_;by_cases hs:t.aj=true
    ·rw[iJ ⟨by omega,.inl hs⟩]at cu;rw[iJ hs];exact cu
    ·rw[iQ (λh=>by rcases h.2 with h |h;exact hs h;omega)]at cu;rw[iQ hs];exact cu
  ·split
   ·rename_i DT;have C:=O.c omQ;have mV:=O.Hd DT;rw[iJ ⟨by omega,.inr DT⟩]at cu;have h4:=C.set.aa;have e:(t.ah++[if a.err≠0 then 0 else a.word]).length=t.ah.length+1:=by simp
    refine Mk (t:={ t with ah:=t.ah++[if a.err≠0 then 0 else a.word] }) (C.go rfl rfl rfl rfl rfl rfl rfl (by show(t.ah++[if a.err≠0 then 0 else a.word]).length≤6;omega) C.ag C.aD rfl rfl) cu DT ?_ (O.DP DT);show((t.ah++[if a.err≠0 then 0 else a.word]).length:Int)≤t.set.aa;omega
   ·exact O
theorem Zj (O:yZ t):yZ (jc t):=by
 have cu:=O.iM;unfold jc
 split
 ·rename_i h3;have C:=O.c omQ;have hp:=O.He h3
  split
  ·refine gd (t:={ t with aV:=0 }) (C.go (u:={ t with aV:=0 }) rfl rfl rfl rfl rfl rfl rfl C.ah C.ag C.aD rfl rfl).toThrB ?_;have ap:=C.lt;show(t.results.length:Int)≤t.au+(if t.aj=true∧t.au≠t.jobs.length then 1 else 0);by_cases hs:t.aj=true
   ·rw[iJ ⟨hs,by omega⟩];rw[iJ ⟨by omega,.inl hs⟩]at cu;exact cu
   ·rw[iQ (λh=>hs h.1)];rw[iQ (λh=>by rcases h.2 with h |h;exact hs h;omega)]at cu;exact cu
  ·have C':wN { t with aV:=t.aV-1 }:=C.go rfl rfl rfl rfl rfl rfl rfl C.ah C.ag C.aD rfl rfl;exact⟨O.st,C'.toThrB,λ_=>C',λh=>absurd h (by show¬t.state=6;omega),O.iM,λh=>absurd h (by show¬t.state=5;omega),λ_=>(by show 0<t.aV-1∧t.aV-1≤8;omega),λh=>absurd h (by show¬t.state=2;omega),λh=>absurd h (by show¬t.state=5;omega)⟩
 ·exact O
theorem qKp (O:yZ t) {s v:Int}:yZ (zl t s v):=by
 have cu:=O.iM;unfold zl
 split
 ·exact O
 ·split
  ·split
   ·rename_i h4;have C:=O.c omQ;refine gd C.toThrB ?_;have ap:=C.lt;by_cases hs:t.aj=true
    ·rw[iJ ⟨hs,by omega⟩];rw[iJ ⟨by omega,.inl hs⟩]at cu;exact cu
    ·rw[iQ (λh=>hs h.1)];rw[iQ (λh=>by rcases h.2 with h |h;exact hs h;omega)]at cu;exact cu
   ·split
    ·rename_i h1;have C:=O.c omQ;have C':wN { t with bR:=true }:=C.go rfl rfl rfl rfl rfl rfl rfl C.ah C.ag C.aD rfl rfl;exact⟨O.st,C'.toThrB,λ_=>C',O.fin,O.iM,O.Hd,O.He,O.Pk,O.DP⟩
    ·exact O
  ·exact O
theorem qgC {me:Int} {s:zK} {jobs:List (List qa)} (hs:0≤s.start) (hj:∀l∈jobs,(xZ l).2=0∧Quiet l):yZ (Qj me s jobs):=by have S:=vC hs;have h4:=S.aa;refine kx ⟨S,by show 0≤max 0 (min me ((jG s).aa-1))∧max 0 (min me ((jG s).aa-1))<(jG s).aa;omega,λl hl=>hj l (List.mem_of_mem_take hl),?_,by show(0:Int)≤ -1+1∧(-1:Int)+1≤_;omega,Nat.le_refl _,Nat.zero_le _,by show(0:Int)≤0∧(0:Int)≤(([]:List Gi).length:Int);decide,by show(0:Int)≤0∧(0:Int)≤0;decide,λ_=>rfl⟩ (by show(0:Int)≤ -1+1;decide);show(jobs.take 6).length≤6;rw[List.length_take];omega
end
section
structure xI (V W:VM):Prop where
  sz:V.sz=W.sz
  most:V.most=W.most
  lv:V.lv=W.lv
  K:∀p x,zU p V.K=some x→zU p W.K=some x
theorem xI.same {V W:VM} (h:xI V W) (lv:List bz):xI { V with lv:=lv } { W with lv:=lv }:=⟨h.sz,h.most,rfl,h.K⟩
theorem xI.read {V W:VM} (h:xI V W) (p:Int):(qe V p).1.2=11∨((qe V p).1=(qe W p).1∧xI (qe V p).2 (qe W p).2):=by
 unfold qe;rw[← h.sz,← h.lv]
 split
 ·cases hl:YN p V.lv with
  |some x=>exact .inr ⟨rfl,h⟩
  |none=>
   dsimp only;cases hk:zU p V.K with
   |some x=>rw[h.K p x hk];exact .inr ⟨rfl,h⟩
   |none=>exact .inl rfl
 ·exact .inr ⟨rfl,h⟩
theorem xI.take {V W:VM} (h:xI V W) (cs:List Cl):(zV V cs).1=(zV W cs).1∧xI (zV V cs).2 (zV W cs).2:=by
 unfold zV;rw[← h.sz,← h.lv,← h.most]
 split
 ·refine⟨rfl,?_⟩;exact⟨rfl,rfl,rfl,h.K⟩
 ·exact⟨rfl,h⟩
theorem xI.ask {V W:VM} (h:xI V W) (b:Int):(jr V b).1.2.2=11∨((jr V b).1=(jr W b).1∧xI (jr V b).2 (jr W b).2):=by
 unfold jr;rw[← h.sz]
 split
 ·exact .inr ⟨rfl,h⟩
 ·rcases h.read (b-1)with e |⟨e,h2⟩
  ·rw[e];exact .inl rfl
  ·rw[← e]
   split
   ·split
    ·exact .inr ⟨rfl,h2⟩
    ·exact .inr ⟨rfl,h2⟩
   ·exact .inr ⟨rfl,h2⟩
theorem xI.again {V W:VM} (h:xI V W) (c b:Int):(xo V c b).1.2=11∨((xo V c b).1=(xo W c b).1∧xI (xo V c b).2 (xo W c b).2):=by
 unfold xo
 split
 ·exact .inr ⟨rfl,h⟩
 ·rcases h.read b with e |⟨e,h2⟩
  ·rw[e];exact .inl rfl
  ·rw[← e];have ht:=h2.take [(c,(qe V b).1.1),(b-1,c+8)];rw[← ht.1]
   split
   ·split
    ·exact .inr ⟨rfl,ht.2⟩
    ·exact .inr ⟨rfl,ht.2⟩
   ·exact .inr ⟨rfl,h2⟩
theorem xI.grown {V W:VM} (h:xI V W) (c:Int):(xn V c).1.2=11∨((xn V c).1=(xn W c).1∧xI (xn V c).2 (xn W c).2):=by
 unfold xn;rw[← h.sz];rcases h.read 5 with e |⟨e,h2⟩
 ·rw[e];exact .inl rfl
 ·rw[← e];have ht:=h2.take [(5,(qe V 5).1.1+1+vj c),((qe V 5).1.1,c+8)];rw[← ht.1]
  split
  ·split
   ·exact .inr ⟨rfl,h2⟩
   ·split
    ·exact .inr ⟨rfl,ht.2⟩
    ·exact .inr ⟨rfl,ht.2⟩
  ·exact .inr ⟨rfl,h2⟩
theorem xI.alloc {V W:VM} (h:xI V W) (n:Int):(zd V n).1.2=11∨((zd V n).1=(zd W n).1∧xI (zd V n).2 (zd W n).2):=by
 unfold zd
 split
 ·exact .inr ⟨rfl,h⟩
 ·rcases h.read (xw n)with e |⟨e,h2⟩
  ·rw[e];exact .inl rfl
  ·rw[← e]
   split
   ·split
    ·exact h2.grown _
    ·exact h2.again _ _
   ·exact .inr ⟨rfl,h2⟩
theorem xI.free {V W:VM} (h:xI V W) (b:Int):(vZ V b).1=11∨((vZ V b).1=(vZ W b).1∧xI (vZ V b).2 (vZ W b).2):=by
 unfold vZ;rcases h.ask b with e |⟨e,h2⟩
 ·rw[e];exact .inl rfl
 ·rw[← e];have ht:=h2.take [(b-1,(jr V b).1.1)];rw[← ht.1]
  split
  ·split
   ·split
    ·refine .inr ⟨rfl,?_⟩;unfold eO;rw[← ht.2.lv];exact⟨ht.2.sz,ht.2.most,rfl,ht.2.K⟩
    ·exact .inr ⟨ht.1,ht.2⟩
   ·exact .inr ⟨rfl,h2⟩
  ·exact .inr ⟨rfl,h2⟩
theorem xI.r5 {V W:VM} (h:xI V W) (b:Int):(xE V b).1=11∨((xE V b).1=(xE W b).1∧xI (xE V b).2 (xE W b).2):=by
 unfold xE;rcases h.ask b with e |⟨e,h2⟩
 ·rw[e];exact .inl rfl
 ·rw[← e]
  split
  ·split
   ·exact .inr ⟨rfl,h2⟩
   ·rcases h2.read (jr V b).1.1 with e2 |⟨e2,h3⟩
    ·rw[e2];exact .inl rfl
    ·rw[← e2]
     split
     ·exact .inr (h3.take _)
     ·exact .inr ⟨rfl,h3⟩
  ·exact .inr ⟨rfl,h2⟩
theorem xI.l6 {V W:VM} (h:xI V W):(yc V).1=(yc W).1∧xI (yc V).2 (yc W).2:=by unfold yc;rw[← h.lv];exact⟨rfl,h.same _⟩
theorem xI.drop {V W:VM} (h:xI V W):(xC V).1=(xC W).1∧xI (xC V).2 (xC W).2:=by unfold xC;rw[← h.lv];exact⟨rfl,h.same _⟩
theorem xI.keep {V W:VM} (h:xI V W):(y9 V).1=(y9 W).1∧xI (y9 V).2 (y9 W).2:=by unfold y9;rw[← h.lv];exact⟨rfl,h.same _⟩
structure Ga (a b:SM):Prop where
  e:a.e=b.e
  nx:a.nx=b.nx
  br:a.br=b.br
  s:a.s=b.s
  v:xI a.v b.v
theorem xI.cw {V W:VM} (h:xI V W) (op a nx:Int) (s:IM):Ga (zf op a nx s V) (zf op a nx s W):=by
 unfold zf;rw[← h.l6.1]
 split
 ·exact⟨rfl,rfl,rfl,rfl,h.l6.2⟩
 ·exact⟨rfl,rfl,rfl,rfl,h.l6.2⟩
theorem xI.pR {mt:List Int} {s:IM}:∀(o:List eX) {V W:VM},xI V W→Ga (ye mt o s V) (ye mt o s W):=by
 intro o
 induction o with
 |nil=>intro V W h;exact⟨rfl,rfl,rfl,rfl,h⟩
 |cons p o ih=>
  intro V W h;unfold ye;rw[← h.drop.1]
  split
  ·split
   ·exact h.drop.2.cw ..
   ·exact ih h.drop.2
  ·exact⟨rfl,rfl,rfl,rfl,h.drop.2⟩
theorem xI.uz {V W:VM} (h:xI V W) (mt:List Int) (s:IM) (op:Int):Ga (kZ mt s V op) (kZ mt s W op):=by
 unfold kZ
 split
 ·exact h.cw ..
 ·split
  ·exact⟨h.keep.1,rfl,rfl,rfl,h.keep.2⟩
  ·split
   ·exact⟨h.keep.1,rfl,rfl,rfl,h.keep.2⟩
   ·split
    ·exact⟨h.drop.1,rfl,rfl,rfl,h.drop.2⟩
    ·exact xI.pR _ h
theorem xI.pT {V W:VM} (h:xI V W) (s:IM) (x:qa):(zk s V x).1=11∨((zk s V x).1=(zk s W x).1∧(zk s V x).2.1=(zk s W x).2.1∧xI (zk s V x).2.2 (zk s W x).2.2):=by
 unfold zk
 split
 ·split
  ·rcases h.read (yj (qO s.aw x.2.2.1) x.2.2.2.1).1 with e |⟨e,h2⟩
   ·rw[e];exact .inl rfl
   ·rw[← e]
    split
    ·exact .inr ⟨rfl,rfl,h2⟩
    ·exact .inr ⟨rfl,rfl,h2⟩
  ·exact .inr ⟨rfl,rfl,h⟩
 ·split
  ·split
   ·have ht:=h.take [((yj (qO s.aw x.2.1) x.2.2.2.1).1,qO s.aw x.2.2.1)];exact .inr ⟨ht.1,rfl,ht.2⟩
   ·exact .inr ⟨rfl,rfl,h⟩
  ·split
   ·split
    ·exact .inr ⟨rfl,rfl,h⟩
    ·rcases h.alloc (qO s.aw x.2.2.1)with e |⟨e,h2⟩
     ·rw[e];exact .inl rfl
     ·rw[← e]
      split
      ·exact .inr ⟨rfl,rfl,h2⟩
      ·exact .inr ⟨rfl,rfl,h2⟩
   ·split
    ·exact .inr ⟨rfl,rfl,h⟩
    ·rcases h.free (qO s.aw x.2.1)with e |⟨e,h2⟩
     ·exact .inl e
     ·exact .inr ⟨e,rfl,h2⟩
theorem yG {c:Prop} [Decidable c] {a b a' b':SM} (ha:a.e=11∨Ga a a') (hb:b.e=11∨Ga b b'):(if c then a else b).e=11∨Ga (if c then a else b) (if c then a' else b'):=by
 split
 ·exact ha
 ·exact hb
theorem xI.Pp {V W:VM} (h:xI V W) (mt:List Int) (s:IM) (x:qa):(b8 mt s V x).e=11∨Ga (b8 mt s V x) (b8 mt s W x):=by
 have sm:∀(e nx:Int) (b:Bool) (s':IM),(⟨e,nx,b,s',V⟩:SM).e=11∨Ga ⟨e,nx,b,s',V⟩ ⟨e,nx,b,s',W⟩:=λe nx b s'=>.inr ⟨rfl,rfl,rfl,rfl,h⟩;unfold b8;refine yG (sm ..) (yG (sm ..) (yG (sm ..) (yG (sm ..) (yG (sm ..) (yG (sm ..) (yG (sm ..) (yG (sm ..) (yG (sm ..) (yG (yG (sm ..) (sm ..)) (yG (sm ..) (yG ?_ (.inr (h.uz ..)))))))))))));rcases h.pT s x with e |⟨e1,e2,h2⟩
 ·exact .inl e
 ·exact .inr ⟨e1,rfl,rfl,e2,h2⟩
end
section
theorem Nb {p v:Int} {l:List Cl} {c:Cl} (h:c∈yR p v l):c=(p,v)∨c∈l:=by
 induction l with
 |nil=>exact .inl (List.mem_singleton.1 h)
 |cons d l ih=>
  unfold yR at h
  split at h
  ·rename_i hd;rcases List.mem_cons.1 h with rfl |h
   ·exact .inl rfl
   ·exact .inr (iX _ h)
  ·rcases List.mem_cons.1 h with rfl |h
   ·exact .inr (iK ..)
   ·rcases ih h with h |h
    ·exact .inl h
    ·exact .inr (iX _ h)
theorem Nh {cs:List Cl}:∀{l:List Cl} {c:Cl},c∈yM l cs→c∈cs∨c∈l:=by
 induction cs with
 |nil=>intro l c h;exact .inr h
 |cons d r ih=>
  intro l c h;rcases ih (l:=yR d.1 d.2 l) h with h |h
  ·exact .inl (iX _ h)
  ·rcases Nb h with h |h
   ·exact .inl (by rw[h];exact iK ..)
   ·exact .inr h
theorem qKH:∀{lv:List bz} {out:List Cl} {c:Cl},c∈lv.foldl (λout x=>yM x.1 out) out→c∈out∨∃x∈lv,c∈x.1:=by
 intro lv
 induction lv with
 |nil=>intro out c h;exact .inl h
 |cons x r ih=>
  intro out c h;rcases ih h with h |⟨y,hy,h⟩
  ·rcases Nh h with h |h
   ·exact .inl h
   ·exact .inr ⟨x,iK ..,h⟩
  ·exact .inr ⟨y,iX _ hy,h⟩
theorem qQ9 {lv:List bz} {c:Cl} (h:c∈jh lv):∃x∈lv,c∈x.1:=by
 rcases qKH h with h |h
 ·cases h
 ·exact h
theorem qXS {lv:List bz} (h:∀x∈lv,∀c∈x.1,0≤c.2∧c.2<18446744073709551616):∀c∈jh lv,0≤c.2∧c.2<18446744073709551616:=λc hc=>by
 obtain⟨x,hx,h1⟩:=qQ9 hc;exact h x hx c h1
def An (n:Nat) (lv:List bz):Prop:=∀x∈lv,∀c∈x.1,1≤c.1∧c.1<n
theorem qqD {n most:Nat} {lv:List bz} {p v:Int} (h:An n lv) (hp:1≤p∧p<n):An n (vF most lv p v).2:=by
 unfold vF;cases lv with
 |nil=>exact h
 |cons x r=>
  dsimp only
  split
  ·exact h
  ·split
   ·exact h
   ·intro y hy c hc;rcases List.mem_cons.1 hy with rfl |hy
    ·rcases Nb hc with rfl |hc
     ·exact hp
     ·exact h x (iK ..) c hc
    ·exact h y (iX _ hy) c hc
theorem qXn {n most:Nat} {aZ:List bz} (hw:An n aZ):∀{cs:List Cl} {lv:List bz},An n lv→(∀c∈cs,1≤c.1∧c.1<n)→An n (vV most aZ lv cs).2:=by
 intro cs
 induction cs with
 |nil=>intro lv h _;exact h
 |cons c cs ih=>
  intro lv h hc;rw[vM]
  split
  ·exact ih (qqD h (hc c (iK ..))) λd hd=>hc d (iX _ hd)
  ·exact hw
def cC (V:VM):Prop:=An V.sz V.lv
theorem cC.read {V:VM} (h:cC V) (p:Int):cC (qe V p).2:=by
 unfold qe
 repeat' split
 all_goals exact h
theorem cC.take {V:VM} (h:cC V) (cs:List Cl):cC (zV V cs).2:=by
 unfold zV
 split
 ·rename_i hc;exact qXn h h hc
 ·exact h
theorem cC.ask {V:VM} (h:cC V) (b:Int):cC (jr V b).2:=by
 unfold jr
 repeat' split
 all_goals first |exact h |exact h.read _
theorem cC.again {V:VM} (h:cC V) (c b:Int):cC (xo V c b).2:=by
 unfold xo
 repeat' split
 all_goals first |exact h |exact h.read _ |exact(h.read _).take _
theorem cC.grown {V:VM} (h:cC V) (c:Int):cC (xn V c).2:=by
 unfold xn
 repeat' split
 all_goals first |exact h |exact h.read _ |exact(h.read _).take _
theorem cC.alloc {V:VM} (h:cC V) (n:Int):cC (zd V n).2:=by
 unfold zd
 repeat' split
 all_goals first |exact h |exact h.read _ |exact(h.read _).grown _ |exact(h.read _).again _ _
theorem cC.Cr {V:VM} (h:cC V) (b:Int):cC (eO V b):=by
 intro x hx c hc;have hx:x∈JD V.lv b:=hx;unfold JD at hx;cases hl:V.lv with
 |nil=>rw[hl]at hx;cases hx
 |cons y r=>
  rw[hl]at hx;rcases List.mem_cons.1 hx with rfl |hx
  ·exact h y (by rw[hl];exact iK ..) c hc
  ·exact h x (by rw[hl];exact iX _ hx) c hc
theorem cC.free {V:VM} (h:cC V) (b:Int):cC (vZ V b).2:=by
 unfold vZ
 repeat' split
 all_goals first |exact(((h.ask _).take _).Cr _) |exact(h.ask _).take _ |exact h.ask _
theorem cC.r5 {V:VM} (h:cC V) (b:Int):cC (xE V b).2:=by
 unfold xE
 repeat' split
 all_goals first |exact((h.ask _).read _).take _ |exact(h.ask _).read _ |exact h.ask _
theorem cC.l6 {V:VM} (h:cC V):cC (yc V).2:=by
 unfold yc kI
 split
 ·exact h
 ·intro x hx c hc;rcases List.mem_cons.1 hx with rfl |hx
  ·cases hc
  ·exact h x hx c hc
theorem cC.drop {V:VM} (h:cC V):cC (xC V).2:=by
 unfold xC kH
 split
 ·exact h
 ·intro x hx c hc;exact h x (List.mem_of_mem_tail hx) c hc
theorem cC.keep {V:VM} (h:cC V):cC (y9 V).2:=by
 intro x hx c hc;have hx:x∈(QO V.lv).2:=hx;unfold QO at hx
 split at hx
 ·rename_i a b r hl;rcases List.mem_cons.1 hx with rfl |hx
  ·rcases Nh hc with hc |hc
   ·exact h a (by rw[hl];exact iK ..) c hc
   ·exact h b (by rw[hl];exact iX _ (iK ..)) c hc
  ·exact h x (by rw[hl];exact iX _ (iX _ hx)) c hc
 ·exact h x hx c hc
theorem cC.cw {V:VM} (h:cC V) {op a nx:Int} {s:IM}:cC (zf op a nx s V).v:=by
 unfold zf
 split<;>exact h.l6
theorem cC.pR {mt:List Int} {s:IM}:∀(o:List eX) {V:VM},cC V→cC (ye mt o s V).v:=by
 intro o
 induction o with
 |nil=>intro V h;exact h
 |cons p o ih=>
  intro V h;unfold ye
  split
  ·split
   ·exact(cC.cw h.drop)
   ·exact ih h.drop
  ·exact h.drop
theorem cC.uz {V:VM} (h:cC V) (mt:List Int) (s:IM) (op:Int):cC (kZ mt s V op).v:=by
 unfold kZ
 split
 ·exact cC.cw h
 ·split
  ·exact h.keep
  ·split
   ·exact h.keep
   ·split
    ·exact h.drop
    ·exact cC.pR _ h
theorem cC.pT {V:VM} (h:cC V) (s:IM) (x:qa):cC (zk s V x).2.2:=by
 unfold zk
 split
 ·split
  ·split<;>exact h.read _
  ·exact h
 ·split
  ·split
   ·exact h.take _
   ·exact h
  ·split
   ·split
    ·exact h
    ·split<;>exact h.alloc _
   ·split
    ·exact h
    ·exact h.free _
theorem qkM {c:Prop} [Decidable c] {a b:SM} (ha:cC a.v) (hb:cC b.v):cC (if c then a else b).v:=by
 split
 ·exact ha
 ·exact hb
theorem cC.Pp {V:VM} (h:cC V) (mt:List Int) (s:IM) (x:qa):cC (b8 mt s V x).v:=by
 have ht:=h.pT s x;have hu:=h.uz mt s x.1;unfold b8;generalize zk s V x=T at*;generalize kZ mt s V x.1=U at*
 repeat' (first |exact h |exact ht |exact hu |apply qkM)
theorem cC.run {l:List qa} {mt:List Int}:∀(n:Nat) {s:IM} {V:VM},cC V→cC (zp l mt n s V).v:=by
 intro n
 induction n with
 |zero=>intro s V h;rw[XT];split<;>exact h
 |succ n ih=>
  intro s V h;have hd:=h.Pp mt s (qT l s.pc);rw[YY];generalize b8 mt s V (qT l s.pc)=D at*
  split
  ·exact h
  ·split
   ·split
    ·exact hd
    ·exact ih hd
   ·split<;>exact hd
end
section
abbrev lz (z:Int):Prop:=0≤z∧z<18446744073709551616
structure se (M:zZ):Prop where
  w:∀z∈M.w,lz z
  n:lz M.n
  s:∀z∈M.s,lz z
theorem Pq {l:List Int} (h:∀z∈l,lz z) (i:Int):lz (qO l i):=by
 unfold qO;cases hi:l[i.toNat]? with
 |none=>exact⟨Int.le_refl _,by show(0:Int)<_;decide⟩
 |some z=>exact h z (List.mem_of_getElem? hi)
theorem NB {l:List Int} (h:∀z∈l,lz z) {i:Nat} {w:Int} (hw:lz w):∀z∈l.set i w,lz z:=λz hz=>by
 rcases List.mem_or_eq_of_mem_set hz with hz |rfl
 ·exact h z hz
 ·exact hw
theorem Ps {M:zZ} {o:dF} (R:se M) (ho:lz o.word):XH (qu M o).1∧se (qu M o).2:=by
 have z0:lz (0:Int):=⟨Int.le_refl _,by decide⟩;have key:XH (yN M o).1∧se (yN M o).2:=by
  unfold yN
  split
  ·unfold UV
   split
   ·exact⟨z0,R⟩
   ·split
    ·exact⟨Pq R.w _,R⟩
    ·exact⟨z0,⟨NB R.w ho,R.n,R.s⟩⟩
  ·split
   ·unfold Gf
    repeat' split
    all_goals exact⟨z0,⟨R.w,R.n,R.s⟩⟩
   ·split
    ·unfold Xz
     split
     ·exact⟨R.n,R⟩
     ·repeat' split
      all_goals first |exact⟨z0,R⟩ |exact⟨z0,⟨R.w,ho,R.s⟩⟩
    ·split
     ·unfold Ya
      split
      ·exact⟨z0,R⟩
      ·split
       ·exact⟨Pq R.s _,R⟩
       ·exact⟨z0,⟨R.w,R.n,NB R.s ho⟩⟩
     ·exact⟨z0,R⟩
 rw[wG]
 split
 ·exact⟨key.1,⟨key.2.w,key.2.n,key.2.s⟩⟩
 ·exact key
theorem Vl {M:zZ} {o:dF}:(qu M o).2.b6≤M.b6+1∧M.b6≤(qu M o).2.b6:=by
 have h:=ZK (M:=M) (o:=o);rw[wG]
 split
 ·show(yN M o).2.b6+1≤_∧_≤(yN M o).2.b6+1;omega
 ·omega
theorem XG {c:zL} {f e y:Int}:(wo c f e y).cells=c.cells:=by unfold wo wV;dsimp only;split<;>rfl
theorem U6 {c:zL} {l:dy}:(kh c l).cells=c.cells:=by 
 unfold kh
 split
 ·rfl
 ·exact XG
theorem MZ {c:zL}:(ki c).cells=c.cells:=by unfold ki;split<;>rfl
theorem Uf {c:zL}:(wW c).cells=c.cells:=by 
 unfold wW
 split
 ·exact MZ
 ·rfl
theorem X8 {c:zL}:(kw c).cells=c.cells:=Uf
theorem Gb:∀(n:Nat) (c:zL),(vO c n).cells=c.cells:=by
 intro n
 induction n with
 |zero=>intro c;exact X8
 |succ n ih=>
  intro c;unfold vO
  split
  ·split
   ·rfl
   ·split
    ·exact XG
    ·exact ih _
  ·exact X8
theorem qXM {c:zL} {a:cO}:(xL c a).cells=c.cells:=by
 unfold xL
 split
 ·rfl
 ·split
  ·unfold XZ
   split
   ·exact U6
   ·split
    ·rfl
    ·split
     ·rfl
     ·rfl
  ·split
   ·unfold QP
    split
    ·exact XG
    ·split
     ·rfl
     ·split
      ·rfl
      ·split
       ·exact X8
       ·exact Gb _ _
   ·split
    ·unfold w7
     split
     ·exact U6
     ·split
      ·exact XG
      ·exact Gb _ _
    ·split
     ·exact Uf
     ·split
      ·exact MZ
      ·unfold wV
       split<;>rfl
def XP (x:q9):Prop:=∀c,x.c=some c→∀q∈c.cells,lz q.2
theorem qKu {x:q9} {k e:Int} (G:jL x.v) (W:XP x):XP (wu x k e):=by
 unfold wu
 split
 ·exact W
 ·split
  ·exact W
  ·split
   ·exact W
   ·split
    ·exact W
    ·intro c hc;cases hc;exact qXS G.wd.l
theorem VO {x:q9} (B:Qw x) (hj:bZ True x.v x.au) (W:XP x):XP (xl x):=by have D:=NC B.aH B.fr hj;refine qKu D.aH ?_;intro c hc;rw[D.same.2.2.2.2]at hc;exact W c hc
theorem qKn {x:q9} {a:cO} (O:ze x) (W:XP x) (ha:XH a):XP (jY x a):=by
 have cP:=O.st;have stamped:∀{y:q9},XP y→XP (xK y):=λ{y} h=>by
  unfold xK
  split
  ·split<;>exact h
  ·exact h
 have told:∀{y:q9},ze y→3≤y.state→y.state≤6→XP y→XP (jN y):=λ{y} O h3 h6 W=>by
  refine stamped ?_;show XP (if(jn y).1=0 then y else if(jn y).1=5 then xH y 5 0 (jn y).2 else zQ y)
  split
  ·exact W
  ·split
   ·exact W
   ·unfold zQ
    split
    ·rename_i hs;have hw:=Gj (O.f hs).2;unfold xW
     split
     ·exact W
     ·split
      ·have hj:=(O.au.same λ_=>by omega:bZ True y.v y.au).pP (p:=y.v.aC) hw;refine VO ⟨O.set,Y4 O.aH hw,by show((yK y.v y.v.aC (xq y.f)).2.sz:Int)=y.set.words;rw[Qi.2];exact O.sz,by show bK (yK y.v y.v.aC (xq y.f)).2.lv<9000;rw[Qi.1];exact O.fr,Uq O.r,hj.same λh=>h.elim,O.c⟩ hj W
      ·split<;>exact W
    ·split
     ·exact W
     ·split
      ·exact W
      ·split<;>exact W
 unfold jY
 split
 ·exact W
 ·split
  ·exact W
  ·split
   ·exact W
   ·split
    ·exact W
    ·split
     ·exact VO O.b (O.au.same λ_=>by omega) W
     ·split
      ·exact W
      ·split
       ·rename_i hs;have hf:=O.f hs;refine told (y:={ x with f:=xY x.f a }) ?_ (by show 3≤x.state;omega) (by show x.state≤6;omega) W;exact⟨O.set,O.aH,O.sz,O.fr,O.r,O.au,O.st,λ_=>⟨Xm hf.1,Gg hf.2 ha⟩,O.aC,O.e,O.c,O.c0,O.c6⟩
       ·split
        ·rename_i hs;refine told (y:={ x with c:=x.c.map λc=>xL c a }) ?_ (by show 3≤x.state;omega) (by show x.state≤6;omega) ?_
         ·refine⟨O.set,O.aH,O.sz,O.fr,O.r,O.au,O.st,O.f,O.aC,O.e,λc h=>?_,λh=>absurd h (by show¬x.state≤5;omega),λh hn=>O.c6 h ?_⟩
          ·obtain⟨c',h1,rfl⟩:=Option.map_eq_some_iff.1 h;exact Gy (O.c c' h1) ha
          ·exact Option.map_eq_none_iff.1 hn
         ·intro c h;obtain⟨c',h1,rfl⟩:=Option.map_eq_some_iff.1 h;rw[qXM];exact W c' h1
        ·refine told (y:={ x with e:=xO x.e a }) ?_ (by show 3≤x.state;omega) (by show x.state≤6;omega) W;exact⟨O.set,O.aH,O.sz,O.fr,O.r,O.au,O.st,O.f,O.aC,λh1 h2=>X7 (O.e h1 h2),O.c,O.c0,O.c6⟩
theorem qK8 {x:q9} {o:dF} (O:ze x) (W:XP x) (h:jC x=some o):lz o.word:=by
 have z0:lz (0:Int):=⟨Int.le_refl _,by decide⟩;unfold jC at h
 split at h
 ·cases h;exact⟨by show(0:Int)≤1;decide,by show(1:Int)<_;decide⟩
 ·split at h
  ·cases h;exact z0
  ·split at h
   ·cases h;exact DL _
   ·split at h
    ·cases h;exact z0
    ·split at h
     ·cases h
     ·split at h
      ·unfold gW at h
       split at h
       ·cases h
       ·split at h<;>(cases h;exact z0)
      ·split at h
       ·rename_i h6;cases hc:x.c with
        |none=>rw[hc]at h;cases h
        |some c=>
         rw[hc]at h;have hn:=(O.c c hc).now;have h:wU c=some o:=h;unfold wU at h
         split at h
         ·cases h
         ·split at h
          ·cases h;exact z0
          ·split at h
           ·cases h;exact z0
           ·split at h
            ·cases h;exact z0
            ·split at h
             ·cases h;exact⟨by show 0≤c.now+1;omega,by show c.now+1<_;omega⟩
             ·split at h
              ·cases h;exact z0
              ·split at h
               ·cases h;show lz (Qk c.cells c.at_).2;unfold Qk;cases hi:c.cells[c.at_.toNat]? with
                |none=>exact z0
                |some q=>exact W c hc q (List.mem_of_getElem? hi)
               ·split at h<;>(cases h;exact z0)
       ·unfold QV at h
        split at h
        ·cases h
        ·split at h<;>(cases h;exact z0)
theorem Pt {me:Int} {S:zK} {j:Yc}:XP (Ou me S j):=λc h=>by cases h
end
section
inductive pU:Nat→q9→zZ→q9→zZ→Prop
  |nil {x:q9} {M:zZ}:pU 0 x M x M
  |cons {k:Nat} {x y:q9} {M N:zZ} {o:dF} (hn:jC x=some o) (r:pU k (jY x (qu M o).1) (qu M o).2 y N):pU (k+1) x M y N
theorem pU.trans {a b:Nat} {x y z:q9} {M N O:zZ} (s:pU a x M y N) (t:pU b y N z O):pU (a+b) x M z O:=by
 induction s with
 |nil=>rw[Nat.zero_add];exact t
 |cons hn _ ih=>rw[Nat.add_right_comm];exact .cons hn (ih t)
theorem pU.one {x y:q9} {M N:zZ} {o:dF} (hn:jC x=some o) (e:qu M o=(⟨0,cB,false,0⟩,N)) (h:jY x ⟨0,cB,false,0⟩=y):pU 1 x M y N:=by refine .cons hn ?_;rw[e];dsimp only;rw[h];exact .nil
theorem pU.step {x y:q9} {M N:zZ} {o:dF} {a:cO} (hn:jC x=some o) (e:qu M o=(a,N)) (h:jY x a=y):pU 1 x M y N:=by refine .cons hn ?_;rw[e];dsimp only;rw[h];exact .nil
def bump (M:zZ) (k:Int):zZ:={ M with b6:=M.b6+k }
structure KC (S:zK) (M:zZ) (me:Int):Prop where
  w:(M.w.length:Int)=S.words
  l:(M.l.length:Int)=S.ax
  s:(M.s.length:Int)=S.aa
  me:0≤me∧me<S.aa
  lk:∀i:Nat,i<M.l.length→∃v:Int,xg M.l i=(v,false,0)∧0≤v∧v≤M.n
  n:0≤M.n∧M.n<4611686018427387902
  wd:∀z∈M.w,0≤z∧z<18446744073709551616
section
variable {S:zK} {M:zZ} {me:Int}
theorem KC.bump (C:KC S M me) (k:Int):KC S (bump M k) me:=⟨C.w,C.l,C.s,C.me,C.lk,C.n,C.wd⟩
theorem wg (M:zZ):qu M (bi 6 0 0)=(⟨M.n,cB,false,0⟩,bump M 1):=rfl
theorem KC.at (C:KC S M me) {s:Int} (h:0≤s∧s<S.ax):∃v:Int,xg M.l s=(v,false,0)∧0≤v∧v≤M.n:=by have hl:=C.l;obtain⟨k,rfl⟩:∃k:Nat,s=k:=⟨s.toNat,by omega⟩;exact C.lk k omQ
structure Kl (S:zK) (M:zZ) (r:List xD):Prop where
  at_:∀y∈r,0≤y.1∧y.1<S.ax∧y.2=(xg M.l y.1).1
  un:(r.map (·.1)).Nodup
theorem Kl.len {r:List xD} (O:QG S) (R:Kl S M r):r.length≤16:=by
 have:=KW 16 (r.map (·.1)) R.un (λx hx=>by
  obtain⟨y,hy,rfl⟩:=List.mem_map.1 hx;have h1:=R.at_ y hy;have h2:=O.ax
  omega)
 simpa using this
theorem Kl.add {r:List xD} (O:QG S) (C:KC S M me) (R:Kl S M r) {s:Int} (hs:0≤s∧s<S.ax):(gr r (s,(xg M.l s).1)).1=0∧Kl S M (gr r (s,(xg M.l s).1)).2:=by
 obtain⟨v,e,h0,h1⟩:=C.at hs;have cP:=O.ax;have hn:=C.n;unfold gr;rw[iQ (by rw[e];dsimp only;omega)];cases hf:r.find? λy=>decide (y.1=(s,(xg M.l s).1).1)with
 |some y=>
  dsimp only;have hy:=List.find?_some hf;have hm:=List.mem_of_find?_eq_some hf;have h2:=R.at_ y hm;have LI:y.1=s:=by simpa using hy
  rw[iQ (by rw[h2.2.2,LI];exact λh=>h rfl)];exact⟨rfl,R⟩
 |none=>
  dsimp only;have dx:∀y∈r,y.1≠s:=λy hy h=>by
   have:=List.find?_eq_none.1 hf y hy;simp[h]at this
  have hnd:(s::r.map (·.1)).Nodup:=List.nodup_cons.2 ⟨λh=>by obtain⟨y,hy,h2⟩:=List.mem_map.1 h;exact dx y hy h2,R.un⟩
  have hl:=KW 16 _ hnd (λx hx=>by
   rcases List.mem_cons.1 hx with rfl |hx
   ·omega
   ·obtain⟨y,hy,rfl⟩:=List.mem_map.1 hx;have h1:=R.at_ y hy
    omega)
  simp at hl;rw[iQ omQ];refine⟨rfl,λy hy=>?_,?_⟩
  ·rcases List.mem_append.1 hy with hy |hy
   ·exact R.at_ y hy
   ·rw[List.mem_singleton]at hy;subst hy;exact⟨hs.1,hs.2,rfl⟩
  ·show((r++[(s,(xg M.l s).1)]).map (·.1)).Nodup;rw[List.map_append,List.nodup_append];refine⟨R.un,List.nodup_cons.2 ⟨λh=>(by cases h),List.nodup_nil⟩,λa ha b hb=>?_⟩;obtain⟨y,hy,rfl⟩:=List.mem_map.1 ha;rw[List.map_singleton,List.mem_singleton]at hb;subst hb;exact dx y hy
theorem ky {x:q9} (h:(jn x).1=0) (hw:zm x=false):jN x=x:=by unfold jN;rw[iJ h];unfold xK;rw[hw];rfl
theorem vG {x:q9} (h:x.c=none):zm x=false:=by unfold zm;rw[h];exact Bool.and_false _
end
end
section
theorem Yg {l t:List qa} {j:Nat} (h:j<l.length):qT (l++t) (j:Int)=qT l (j:Int):=by unfold qT;rw[Int.toNat_natCast,List.getElem?_append_left h]
theorem Jm {l t:List qa} {k:Nat} {x:qa} (h:t[k]? =some x):qT (l++t) ((l.length+k:Nat):Int)=x:=by unfold qT;rw[Int.toNat_natCast,List.getElem?_append_right omQ,show l.length+k-l.length=k by omega,h];rfl
theorem w6 {l t:List qa}:∀i,i≤l.length→qH (l++t) i=qH l i:=by
 intro i
 induction i with
 |zero=>intro _;rfl
 |succ i ih=>intro h;rw[jP,jP,ih omQ,Yg omQ]
theorem qje {l t:List qa} {st:List Int} (h:b9 l.length st):dh (l++t) st=dh l st:=by
 unfold dh;by_cases h0:st=[]
 ·rw[iJ h0,iJ h0]
 ·rw[iQ h0,iQ h0];have hb:=h.dL h0;obtain⟨p,hp⟩:∃p:Nat,jw st=p:=⟨(jw st).toNat,by omega⟩;rw[hp,Yg omQ]
theorem U4 {l t:List qa} {st:List Int} {x:qa} (h:b9 l.length st):zb (l++t) st x=zb l st x:=by unfold zb;rw[qje h]
theorem b9.mono {i j:Nat} {st:List Int} (h:b9 i st) (oU:i≤j):b9 j st:=λy hy=>by have:=h y hy;omega
def Pu (l:List qa) (calm:Bool) (j:Nat) (x:qa):Prop:=(x.1=12∨x.1=13)→∃c:Nat,x.2.2.2.1=c∧c≤l.length∧qH l c=qH l j∧(calm=true→j<c)
structure GM (calm:Bool) (x:qa):Prop where
  may:Qy x=true
  no:x.1≠23
  n:0≤x.2.2.2.2∧x.2.2.2.2<18446744073709551616
  cal:calm=true→x.1≠20∧x.1≠22∧x.1≠12
structure iq (calm:Bool) (l:List qa) (st:List Int):Prop where
  ok:∀x∈l,GM calm x
  wr:∀j,j<l.length→zb l (qH l j) (qT l j)=0
  top:qH l l.length=st
  jp:∀j,j<l.length→Pu l calm j (qT l j)
  uA:st.length≤5
def wB (l:List qa) (st:List Int):List Int:=st.map λp=>(qT l p).1
theorem Mz {l t:List qa} {st:List Int} (h:b9 l.length st):wB (l++t) st=wB l st:=by unfold wB;refine List.map_congr_left λp hp=>?_;have:=h p hp;obtain⟨q,rfl⟩:∃q:Nat,p=q:=⟨p.toNat,by omega⟩;rw[Yg omQ]
theorem iq.uB {calm:Bool} {l:List qa} {st:List Int} (B:iq calm l st):b9 l.length st:=by rw[← B.top];exact(Gc l.length).1
theorem iq.nil (calm:Bool):iq calm [] []:=⟨λx hx=>(by cases hx),λj hj=>(by simp at hj),rfl,λj hj=>(by simp at hj),aN⟩
theorem iq.ext {calm:Bool} {l t:List qa} {st:List Int} (B:iq calm l st) (h1:∀x∈t,GM calm x) (h2:∀k,k<t.length→zb (l++t) (qH (l++t) (l.length+k)) (qT (l++t) ((l.length+k:Nat):Int))=0)
  (h3:∀k,k<t.length→Pu (l++t) calm (l.length+k) (qT (l++t) ((l.length+k:Nat):Int))) (h5:(qH (l++t) (l++t).length).length≤5):iq calm (l++t) (qH (l++t) (l++t).length):=by
 refine⟨?_,?_,rfl,?_,h5⟩
 ·intro x hx;rcases List.mem_append.1 hx with hx |hx
  ·exact B.ok x hx
  ·exact h1 x hx
 ·intro j hj;by_cases lT:j<l.length
  ·rw[w6 j omQ,Yg lT,U4 ((Gc j).1.mono omQ)];exact B.wr j lT
  ·have:=h2 (j-l.length) (by simp at hj;omega)
   rwa [show l.length+(j-l.length)=j by omega]at this
 ·intro j hj;by_cases lT:j<l.length
  ·intro ho;rw[Yg lT]at ho ⊢;obtain⟨c,c1,c2,c3,c4⟩:=B.jp j lT ho;exact⟨c,c1,by simp;omega,by rw[w6 c c2,w6 j omQ];exact c3,c4⟩
  ·have:=h3 (j-l.length) (by simp at hj;omega)
   rwa [show l.length+(j-l.length)=j by omega]at this
theorem qKU {l:List qa} {x:qa}:qH (l++[x]) (l.length+1)=jk (qH l l.length) l.length x.1:=by have e:=Jm (l:=l) (t:=[x]) (k:=0) (x:=x) rfl;rw[Nat.add_zero]at e;rw[jP,w6 _ (Nat.le_refl _),e]
theorem iq.fN {calm:Bool} {l:List qa} {st:List Int} (B:iq calm l st) {x:qa} (h1:GM calm x) (h2:zb l st x=0) (h3:x.1≠12∧x.1≠13) (h5:(jk st l.length x.1).length≤5):iq calm (l++[x]) (jk st l.length x.1):=by
 have e:=Jm (l:=l) (t:=[x]) (k:=0) (x:=x) rfl;rw[Nat.add_zero]at e;have hs:qH (l++[x]) (l++[x]).length=jk st l.length x.1:=by rw[List.length_append,List.length_singleton,qKU,B.top]
 rw[← hs]at h5 ⊢;refine B.ext (by intro y hy;rw[List.mem_singleton]at hy;subst hy;exact h1) ?_ ?_ h5
 ·intro k hk;obtain rfl:k=0:=by simpa using hk
  rw[Nat.add_zero,e,w6 _ (Nat.le_refl _),B.top,U4 B.uB];exact h2
 ·intro k hk;obtain rfl:k=0:=by simpa using hk
  rw[Nat.add_zero,e];intro ho;omega
def Flat (op:Int):Prop:=op≠14∧op≠15∧op≠16∧op≠17∧op≠18∧op≠19
theorem Flat.behind {op:Int} (h:Flat op) (st:List Int) (i:Int):jk st i op=st:=by obtain⟨h1,h2,h3,h4,h5,h6⟩:=h;unfold jk;rw[iQ (by unfold z8;simp;omega),iQ (by unfold jt;rw[iQ h2,iQ h5,iQ h6];omega)]
theorem Flat.pV {x:qa} (h:Flat x.1) (hm:Qy x=true) (l:List qa) (st:List Int):zb l st x=0:=by
 obtain⟨h1,h2,h3,h4,h5,h6⟩:=h;unfold zb
 rw[iQ (by rw[hm];simp),iQ (λhh=>by have:=hh.1;unfold jt at this;rw[iQ h2,iQ h5,iQ h6]at this;omega),iQ (λhh=>h3 hh.1),
  iQ (λhh=>by have:=hh.1;unfold z8 at this;simp at this;omega)]
theorem iq.flat {calm:Bool} {l:List qa} {st:List Int} (B:iq calm l st) {x:qa} (h1:GM calm x) (hf:Flat x.1) (h3:x.1≠12∧x.1≠13):iq calm (l++[x]) st:=by
 have:=B.fN h1 (hf.pV h1.may l st) h3 (by rw[hf.behind];exact B.uA)
 rwa [hf.behind]at this
theorem iq.two {calm:Bool} {l:List qa} {st:List Int} (B:iq calm l st) {x y:qa} (hx:GM calm x) (hy:GM calm y) (fx:Flat x.1) (fy:Flat y.1)
  (jx:(x.1=12∨x.1=13)→x.2.2.2.1=((l.length+2:Nat):Int)) (jy:(y.1=12∨y.1=13)→y.2.2.2.1=(l.length:Int)∧calm=false):iq calm (l++[x,y]) st:=by
 have e0:=Jm (l:=l) (t:=[x,y]) (k:=0) (x:=x) rfl;have e1:=Jm (l:=l) (t:=[x,y]) (k:=1) (x:=y) rfl;rw[Nat.add_zero]at e0;have s0:qH (l++[x,y]) l.length=st:=by rw[w6 _ (Nat.le_refl _),B.top]
 have s1:qH (l++[x,y]) (l.length+1)=st:=by rw[jP,s0,e0,fx.behind]
 have s2:qH (l++[x,y]) (l.length+2)=st:=by rw[show l.length+2=l.length+1+1 from rfl,jP,s1,e1,fy.behind]
 have hs:qH (l++[x,y]) (l++[x,y]).length=st:=by rw[List.length_append];exact s2
 have:=B.ext (t:=[x,y]) (by intro z hz;simp at hz;rcases hz with rfl |rfl;exact hx;exact hy) (λk hk=>by
  have hk:k=0∨k=1:=by simp at hk;omega
  rcases hk with rfl |rfl
  ·rw[Nat.add_zero,e0];exact fx.pV hx.may _ _
  ·rw[e1];exact fy.pV hy.may _ _) (λk hk=>by
  have hk:k=0∨k=1:=by simp at hk;omega
  rcases hk with rfl |rfl
  ·rw[Nat.add_zero,e0];intro ho;exact⟨l.length+2,jx ho,by simp,by rw[s2,s0],λ_=>by omega⟩
  ·rw[e1];intro ho;obtain⟨a,b⟩:=jy ho
   exact⟨l.length,a,by simp,by rw[s0,s1],λh=>by rw[b]at h;cases h⟩) (by rw[hs];exact B.uA)
 rwa [hs]at this
abbrev one (op:Int):qa:=(op,0,0,0,0)
theorem Pv (calm:Bool) {op:Int} (h:op=14∨op=15∨op=16∨op=17∨op=18∨op=19):GM calm (one op):=by refine⟨?_,by dsimp only;omega,by dsimp only;omega,λ_=>by dsimp only;omega⟩;rcases h with rfl |rfl |rfl |rfl |rfl |rfl<;>decide
theorem iq.begin {calm:Bool} {l:List qa} {st:List Int} (B:iq calm l st) {op:Int} (h:op=14∨op=17) (h5:st.length<5):iq calm (l++[one op]) (st++[(l.length:Int)])∧wB (l++[one op]) (st++[(l.length:Int)])=wB l st++[op]:=by
 have hb:jk st l.length op=st++[(l.length:Int)]:=by unfold jk;rw[iJ (.inl (by unfold z8;exact iG h)),iQ (by rcases h with rfl |rfl<;>decide)]
 have hw:zb l st (one op)=0:=by unfold zb;rw[iQ (by rcases h with rfl |rfl<;>decide),iQ (λhh=>by have:=hh.1;rcases h with rfl |rfl<;>exact absurd this od),iQ (λhh=>by have:=hh.1;dsimp only at this;omega),iQ omQ]
 have:=B.fN (x:=one op) (Pv calm omQ) hw (by dsimp only;omega) (by rw[hb];simp;omega);rw[hb]at this;refine⟨this,?_⟩;unfold wB;rw[List.map_append]
 congr 1
 ·exact Mz B.uB
 ·have e:=Jm (l:=l) (t:=[one op]) (k:=0) (x:=one op) rfl;rw[Nat.add_zero]at e;rw[List.map_singleton,e]
def gg (o:Int):Int:=if o=14 then 15 else if o=17 then 18 else 19
def Hf (l:List qa) (st:List Int):List qa:=l++[one (gg (dh l st))]
def VS (l:List qa) (st:List Int):List Int:=if dh l st=17 then st.dropLast++[(l.length:Int)]else st.dropLast
theorem iq.shut {calm:Bool} {l:List qa} {st:List Int} (B:iq calm l st) (hn:st≠[]) (ho:dh l st=14∨dh l st=17∨dh l st=18):iq calm (Hf l st) (VS l st)∧
  wB (Hf l st) (VS l st)=(wB l st).dropLast++(if dh l st=17 then[18]else[]):=by
 have hs:jt (gg (dh l st))=dh l st:=by rcases ho with h |h |h<;>rw[h]<;>decide
 have Pw:gg (dh l st)=15∨gg (dh l st)=18∨gg (dh l st)=19:=by
  unfold gg
  repeat' split
  all_goals omega
 have he:0<jt (gg (dh l st)):=by rw[hs];omega
 have hlen:=List.length_pos_iff.2 hn;have hb:jk st l.length (gg (dh l st))=VS l st:=by
  unfold jk VS;rw[iJ he];by_cases ou:dh l st=17
  ·rw[iJ ou,iJ (.inr (by rw[ou];decide))]
  ·rw[iQ ou,iQ];rcases ho with h |h |h
   ·rw[h];decide
   ·exact absurd h ou
   ·rw[h];decide
 have hw:zb l st (one (gg (dh l st)))=0:=by
  unfold zb
  rw[iQ (by rcases Pw with h |h |h<;>rw[h]<;>decide),iQ (λhh=>hh.2 hs.symm),iQ (λhh=>by have:=hh.1;dsimp only at this;omega),iQ (λhh=>by
   have:=hh.1
   rcases Pw with h |h |h<;>rw[h]at this<;>exact absurd this od)]
 have h5:=B.uA;have:=B.fN (x:=one (gg (dh l st))) (Pv calm omQ) hw (by dsimp only;omega) (by rw[hb];unfold VS;split<;>simp<;>omega);rw[hb]at this;refine⟨this,?_⟩;unfold Hf VS wB;have hd:(st.dropLast.map λp=>(qT (l++[one (gg (dh l st))]) p).1)=(wB l st).dropLast:=by have:=Mz (t:=[one (gg (dh l st))]) B.uB.dropLast;unfold wB at this ⊢;rw[this,List.map_dropLast]
 split
 ·rename_i ou;have e:=Jm (l:=l) (t:=[one (gg (dh l st))]) (k:=0) (x:=one (gg (dh l st))) rfl;rw[Nat.add_zero]at e;rw[List.map_append,hd,List.map_singleton,e,ou];rfl
 ·rw[hd,List.append_nil];rfl
theorem qq1 {l:List qa} {st:List Int} (hn:st≠[]):dh l st=(wB l st).getLast?.getD 0:=by unfold dh wB jw;rw[iQ hn,List.getLast?_map,List.getLast?_eq_some_getLast hn];rfl
end
section
variable {g h:AH} {L R:List SP}
def DU (zs:List Int):Prop:=∀z∈zs,0≤z∧z<18446744073709551616
theorem DU.set {zs:List Int} {i:Nat} {x:Int} (h:DU zs) (hx:0≤x∧x<18446744073709551616):DU (zs.set i x):=by
 intro z hz;rcases List.mem_or_eq_of_mem_set hz with h1 |rfl
 ·exact h z h1
 ·exact hx
def Hg (zs:List Int):Prop:=DU zs∧zs[0]? =some 0
theorem Hg.set {zs:List Int} {i:Nat} {x:Int} (h:Hg zs) (hx:0≤x∧x<18446744073709551616) (hi:0<i):Hg (zs.set i x):=⟨h.1.set hx,by rw[List.getElem?_set_ne omQ];exact h.2⟩
end
section
variable {g h:AH} {L R:List SP}
def yy (lv:AV) (l:List qa):SP:=qD 26 5 l.length lv (l.flatMap zD)
structure Px (x:qa):Prop where
  flat:Flat x.1
  nj:x.1≠12∧x.1≠13
  ok:∀calm,GM calm x
theorem Px.of {x:qa} (h1:Qy x=true) (h2:(1≤x.1∧x.1≤11)∨x.1=21) (h3:0≤x.2.2.2.2∧x.2.2.2.2<18446744073709551616):Px x :=
 ⟨⟨by omega,by omega,by omega,by omega,by omega,by omega⟩,by omega,λ_=>⟨h1,by omega,h3,λ_=>by omega⟩⟩
end
section
variable {g h:AH} {L R:List SP}
theorem V5 (l:List qa) (st:List Int):(wB l st).length=st.length:=by simp[wB]
theorem qk1 {l:List qa} {st:List Int} (hn:st≠[]):(wB l st)[st.length-1]? =some (dh l st):=by have hl:=List.length_pos_iff.2 hn;rw[qq1 hn,List.getLast?_eq_getElem?,V5,iW (by rw[V5];omega)];rfl
def Cs (l:List qa) (st:List Int):Prop:=∀o∈wB l st,o=14∨o=17∨o=18
theorem Cs.at {l:List qa} {st:List Int} (h:Cs l st) (cx:st≠[]):dh l st=14∨dh l st=17∨dh l st=18:=h _ (List.mem_of_getElem? (qk1 cx))
end
section
variable {g h:AH} {L R:List SP}
theorem Gr {b o:Nat} {K:AV→Go.Ae.R} {Q:AV→AH→Prop} (w:wp (K (.bool false)) Q):wp (mM .ptr false (.ptr b o) .aP K) Q:=w
theorem G5 {b o:Nat} {K:AV→Go.Ae.R} {Q:AV→AH→Prop} (w:wp (K (.bool true)) Q):wp (mM .ptr true (.ptr b o) .aP K) Q:=w
section
variable {x y v u:Nat} {l l':List qa} {b b':Int} {mt mt':List Int} {s s':IM} {e e' f f' n1 n2 nx uu:Int} {V W:VM}
end
end
section
section
variable {S:zK} {M:zZ} {me:Int}
structure KnM (M:zZ) (V:VM):Prop where
  sz:(V.sz:Int)=M.w.length
  K:∀p x,zU p V.K=some x→x=qO M.w p
end
end
section
section
variable {S:zK} {M:zZ} {me:Int}
inductive uC:Nat→zL→zZ→zL→zZ→Prop
  |nil {c:zL} {M:zZ}:uC 0 c M c M
  |cons {k:Nat} {c d:zL} {M N:zZ} {o:dF} {a:cO} {M1:zZ} {c1:zL} (hn:wU c=some o) (e:qu M o=(a,M1)) (h0:a.err=0) (h1:xL c a=c1) (h2:c1.p.fin=0) (r:uC k c1 M1 d N):uC (k+1) c M d N
theorem uC.trans {a b:Nat} {x y z:zL} {M N O:zZ} (s:uC a x M y N) (t:uC b y N z O):uC (a+b) x M z O:=by
 induction s with
 |nil=>rw[Nat.zero_add];exact t
 |cons hn e h0 h1 h2 _ ih=>rw[Nat.add_right_comm];exact .cons hn e h0 h1 h2 (ih t)
theorem qYi {x:q9} {c:zL} (h6:x.state=6) (hc:x.c=some c):jC x=wU c:=by unfold jC;rw[iQ omQ,iQ omQ,iQ omQ,iQ omQ,iQ omQ,iQ omQ,iJ h6,hc];rfl
theorem Og {x:q9} {a:cO} {c:zL} (h6:x.state=6) (ha:a.err=0) (hc:x.c=some c):jY x a=jN { x with c:=some (xL c a) }:=by unfold jY;rw[iQ omQ,iQ (by rw[ha];exact λh=>h rfl),iQ omQ,iQ omQ,iQ omQ,iQ omQ,iQ omQ,iJ h6,hc];rfl
end
end
section
theorem MA {l:List dy} {a b:Int} {x:dy} (ha:0≤a) (hb:0≤b) (hl:a<l.length):xg (l.set a.toNat x) b=if a=b then x else xg l b:=by
 unfold xg;rw[List.getElem?_set];by_cases h:a=b
 ·rw[iJ (by rw[h]),iJ omQ,iJ h];rfl
 ·rw[iQ omQ,iQ h]
def Hh (w:List Int) (cs:List Cl):List Int:=cs.foldl (λw c=>w.set c.1.toNat c.2) w
section
variable {S:zK} {M:zZ} {me:Int}
theorem JA {p:JX} {a:cO} (hp:p.fin=0) (ha:a.err=0):jK p a=(false,p):=by
 unfold jK;rw[iQ (λh=>h.2 ha)]
 congr 1
 exact iV (λh=>h hp)
theorem NP {M N:zZ} {o:dF} {a:cO} (hk:o.kind=1∨o.kind=2) (e:UV M o=(a,N)) (h0:a.err=0):qu M o=(a,{ N with b6:=N.b6+1 }):=by
 have e':yN M o=(a,N):=by unfold yN;rw[iJ hk,e]
 rw[wG,e'];exact iJ h0
theorem NO {M N:zZ} {o:dF} {a:cO} (hk:o.kind=3∨o.kind=4∨o.kind=5) (e:Gf M o=(a,N)) (h0:a.err=0):qu M o=(a,{ N with b6:=N.b6+1 }):=by
 have e':yN M o=(a,N):=by unfold yN;rw[iQ omQ,iJ hk,e]
 rw[wG,e'];exact iJ h0
theorem qxo {M N:zZ} {o:dF} {a:cO} (hk:o.kind=6∨o.kind=7) (e:Xz M o=(a,N)) (h0:a.err=0):qu M o=(a,{ N with b6:=N.b6+1 }):=by
 have e':yN M o=(a,N):=by unfold yN;rw[iQ omQ,iQ omQ,iJ hk,e]
 rw[wG,e'];exact iJ h0
end
end
section
section
variable {S:zK} {M:zZ} {me:Int}
structure Py (S:zK) (M:zZ) (me:Int) (R:(Int×Int)×Yc×VM) (y:q9) (N:zZ):Prop where
  st:y.state=8
  me_:y.me=me
  set:y.set=S
  fin:y.fin=R.1.1
  err:y.err=if R.1.1=4 then R.1.2 else 0
  lv:y.v.lv=R.2.2.lv
  au:y.au=R.2.1
  cU:y.cU= -1
  calm:KC S N me
  s:N.s=M.s.set me.toNat 0
  w:N.w=if R.1.1=2 then Hh M.w (jh R.2.2.lv)else M.w
  n:N.n=M.n+(if R.1.1=2∧jh R.2.2.lv≠[]then 1 else 0)
  af:y.af=N.n
  begun:y.begun=true
  kind:R.1.1=2∨R.1.1=3∨R.1.1=4
end
end
namespace ei
variable {g h:AH} {L R:List SP}
def zW (a:Int×Int×Bool):List AV:=[.int .i64 a.1,.int .i64 a.2.1,.bool a.2.2]
end ei
section
variable {g h:AH} {L R:List SP}
def uR (zs:List Int) (m:Int) (C:List Cl) (F:List Int):VM:={ qgN zs m with lv:=[(C,F)] }
structure Pz (zs:List Int) (T c i:Nat):Prop where
  len:zs.length=T
  lo:32≤T
  hi:T≤256
  iB:1≤c∧c≤4
  nn:∀z∈zs,0≤z∧z<18446744073709551616
  head:M8 zs c=0
  bump:M8 zs 5=14+(i:Int)*(vj c+1)
  hdr:∀j,j<i→∀p:Nat,(p:Int)=14+(j:Int)*(vj c+1)→M8 zs p=(c:Int)+8
end
namespace n0
open Go Go.Ae ei
set_option maxRecDepth 100000
variable {g h:AH} {L R:List SP}
end n0
section
structure uD (S:zK) (M:zZ) (k:Int):Prop where
  w:(M.w.length:Int)=S.words
  wd:∀z∈M.w,lz z
  w0:M.w[0]? =some 0
  l:M.l=List.replicate S.ax.toNat cB
  n:M.n=S.start
  s:M.s=List.replicate S.aa.toNat 0
  b6:0≤M.b6∧M.b6≤k
theorem qxR {S:zK} (O:QG S):uD S (yW S) 0:=by
 have h1:=O.words;refine⟨by show((List.replicate S.words.toNat (0:Int)).length:Int)=_;rw[List.length_replicate];omega,λz hz=>?_,?_,rfl,rfl,rfl,⟨Int.le_refl _,Int.le_refl _⟩⟩
 ·have:=List.eq_of_mem_replicate hz;subst this;exact⟨Int.le_refl _,by decide⟩
 ·show(List.replicate S.words.toNat (0:Int))[0]? =some 0;rw[List.getElem?_replicate,iJ omQ]
theorem qZp {S:zK} {M:zZ} {k at_ w:Int} (Q:uD S M k) (ha:1≤at_) (hw:lz w):uD S (qu M (bi 2 at_ w)).2 (k+1):=by
 have hc:=Vl (M:=M) (o:=bi 2 at_ w);have hq:=Q.b6;have e:(qu M (bi 2 at_ w)).2.w=(if at_<1∨(M.w.length:Int)≤at_ then M.w else M.w.set at_.toNat w)∧(qu M (bi 2 at_ w)).2.l=M.l∧(qu M (bi 2 at_ w)).2.n=M.n∧(qu M (bi 2 at_ w)).2.s=M.s:=by
  have eW:yN M (bi 2 at_ w)=if at_<1∨(M.w.length:Int)≤at_ then(lh 2,M)else(lg,{ M with w:=M.w.set at_.toNat w }):=by show(if at_<1∨(M.w.length:Int)≤at_ then(lh 2,M)else if(2:Int)=1 then _ else _)=_;rfl
  rw[wG,eW];by_cases h:at_<1∨(M.w.length:Int)≤at_
  ·rw[iJ h,iJ h]
   split<;>exact⟨rfl,rfl,rfl,rfl⟩
  ·rw[iQ h,iQ h]
   split<;>exact⟨rfl,rfl,rfl,rfl⟩
 refine⟨?_,?_,?_,by rw[e.2.1];exact Q.l,by rw[e.2.2.1];exact Q.n,by rw[e.2.2.2];exact Q.s,by omega⟩
 ·rw[e.1]
  split
  ·exact Q.w
  ·rw[List.length_set];exact Q.w
 ·rw[e.1]
  split
  ·exact Q.wd
  ·exact NB Q.wd hw
 ·rw[e.1]
  split
  ·exact Q.w0
  ·rw[List.getElem?_set_ne omQ];exact Q.w0
end
section
open Go Go.Ae ei
set_option maxRecDepth 100000
variable {g h:AH} {L R:List SP}
end
section
variable {g h:AH} {L R:List SP}
end
section
def Ao:Nat→Nat→qt→zZ→qt×zZ
 | 0,_,t,M=>(t,M)
 |n+1,i,t,M=>match z7 t with
  |none=>(t,M)
  |some o=>Ao n (i+1) (zj t (qu M o).1 0 ((i:Int)+1)) (qu M o).2
inductive NL:Nat→Nat→qt→zZ→qt→zZ→Prop
  |nil {i:Nat} {t:qt} {M:zZ}:NL i 0 t M t M
  |cons {i m:Nat} {t u:qt} {M N:zZ} {o:dF} (hn:z7 t=some o) (r:NL (i+1) m (zj t (qu M o).1 0 ((i:Int)+1)) (qu M o).2 u N):NL i (m+1) t M u N
theorem NL.run {i m:Nat} {t u:qt} {M N:zZ} (s:NL i m t M u N):∀n,Ao (m+n) i t M=Ao n (i+m) u N:=by
 induction s with
 |nil=>intro n;rw[Nat.zero_add];rfl
 |cons hn r ih=>
  intro n;rename_i i m t u M N o;rw[show m+1+n=(m+n)+1 by omega];have e:Ao ((m+n)+1) i t M=Ao (m+n) (i+1) (zj t (qu M o).1 0 ((i:Int)+1)) (qu M o).2:=by show(match z7 t with |none=>(t,M) |some o=>Ao (m+n) (i+1) (zj t (qu M o).1 0 ((i:Int)+1)) (qu M o).2)=_;rw[hn]
  rw[e,ih,show i+1+m=i+(m+1) by omega]
theorem NL.trans {i m k:Nat} {t u v:qt} {M N P:zZ} (s:NL i m t M u N):NL (i+m) k u N v P→NL i (m+k) t M v P:=by
 induction s with
 |nil=>intro r;rw[Nat.zero_add];exact r
 |cons hn r ih=>rename_i i m t u M N o;intro q;rw[show m+1+k=(m+k)+1 by omega];exact .cons hn (ih (by rw[show i+1+m=i+(m+1) by omega];exact q))
structure Ct (t u:qt):Prop where
  iM:∃r,u.results=t.results++r
  az:u.az.length≤t.az.length+1
structure Qg (t u:qt):Prop where
  iM:u.results=t.results
  az:u.az=t.az
theorem Qg.refl (t:qt):Qg t t:=⟨rfl,rfl⟩
theorem Qg.trans {t u v:qt} (a:Qg t u) (b:Qg u v):Qg t v:=⟨b.iM.trans a.iM,b.az.trans a.az⟩
theorem gP (t:qt):Qg t (jg t):=by unfold jg;split<;>exact⟨rfl,rfl⟩
theorem yh (t:qt):Qg t (jD t):=(Qg.trans (u:={ t with au:=t.au+1,aj:=false,ae:=[],ag:=0,aD:=0 }) ⟨rfl,rfl⟩ (gP _))
theorem KP (t:qt) (d:Int):Qg t (xQ t d):=by
 unfold xQ
 split
 ·exact(Qg.trans (u:={ t with aV:=0,state:=3 }) ⟨rfl,rfl⟩ (gP _))
 ·exact⟨rfl,rfl⟩
theorem Vr (t:qt):Qg t (vo t):=by
 have key:∀u:qt,Qg u (wy u):=λu=>by
  unfold wy
  split
  ·exact .refl u
  ·split
   ·exact(Qg.trans (u:={ u with ad:=u.ad.filter λr=>!jX u.ah r.2 }) ⟨rfl,rfl⟩ (yh _))
   ·exact(Qg.trans (u:={ u with ad:=u.ad.filter (λr=>!jX u.ah r.2),aj:=true,ae:=u.ad.filter (λr=>jX u.ah r.2),ag:=0,aD:=0 }) ⟨rfl,rfl⟩ (gP _))
 unfold vo
 split
 ·exact(Qg.trans (u:={ t with ah:=t.ah++[0] }) ⟨rfl,rfl⟩ (key _))
 ·exact key t
theorem qKa (t:qt):Qg t (gE t):=by
 unfold gE
 split
 ·exact yh t
 ·exact(Qg.trans (u:={ t with state:=5,ah:=[] }) ⟨rfl,rfl⟩ (Vr _))
theorem qQu (t:qt) (f:Int):Qg t (kB t f):=by
 unfold kB
 split
 ·exact(Qg.trans (u:={ t with ad:=t.ad++t.ae }) ⟨rfl,rfl⟩ (yh _))
 ·exact yh t
theorem Ct.of {t u v:qt} (a:Qg u v) {r:List Ur} (h:u.results=t.results++r) (hp:u.az.length≤t.az.length+1):Ct t v:=⟨⟨r,a.iM.trans h⟩,by rw[a.az];exact hp⟩
theorem Zc (t:qt) (x:q9) (d p:Int):Ct t (xU t x d p):=by
 have h1:(t.az++[jM t x p]).length≤t.az.length+1:=by simp
 have h0:t.results=t.results++[]:=(List.append_nil _).symm;unfold xU;dsimp only
 split
 ·split
  ·exact⟨⟨[],h0⟩,h1⟩
  ·exact .of (u:={ t with az:=t.az++[jM t x p],ag:=t.ag+1,aD:=t.aD+1 }) (KP _ _) h0 h1
 ·split
  ·split
   ·exact .of (u:={ t with az:=t.az++[jM t x p],ag:=t.ag+1 }) (gP _) h0 h1
   ·exact⟨⟨[],h0⟩,h1⟩
  ·split
   ·exact .of (u:={ t with az:=t.az++[jM t x p],ag:=t.ag+1 }) (qQu _ _) h0 h1
   ·exact .of (u:={ t with az:=t.az++[jM t x p],ag:=t.ag+1,results:=t.results++[⟨jq x,xB x,zG x,x.af⟩],ad:=t.ad++(zJ x).map λb=>(b,x.af) }) (qKa _) rfl h1
theorem qVL (t:qt) (a:cO) (d p:Int):Ct t (zj t a d p):=by
 have h0:t.results=t.results++[]:=(List.append_nil _).symm;have hr:Ct t t:=⟨⟨[],h0⟩,Nat.le_succ _⟩;unfold zj
 split
 ·split
  ·exact hr
  ·rename_i x _;unfold vv;dsimp only
   split
   ·exact⟨⟨[],h0⟩,Nat.le_succ _⟩
   ·have G:=Zc { t with now:=some (jY x a),born:=if(jY x a).begun=true∧x.begun=false then p else t.born } (jY x a) d p;exact⟨G.iM,G.az⟩
 ·split
  ·split
   ·exact⟨⟨[],h0⟩,Nat.le_succ _⟩
   ·exact .of (u:=t) (KP _ _) h0 (Nat.le_succ _)
  ·split
   ·exact .of (u:={ t with ah:=t.ah++[if a.err≠0 then 0 else a.word] }) (Vr _) h0 (Nat.le_succ _)
   ·exact hr
def cV (t:qt):Prop:=∀x,t.now=some x→XP x
theorem cV.same {t u:qt} (W:cV t) (h:u.now=t.now):cV u:=λx hx=>W x (h▸hx)
theorem gO (t:qt):cV (jg t):=by
 unfold jg
 split
 ·exact λx h=>by cases h
 ·intro x h;cases h
  split
  ·exact Pt
  ·exact Pt
theorem gV (t:qt):cV (jD t):=gO _
theorem KB {t:qt} (W:cV t) (d:Int):cV (xQ t d):=by
 unfold xQ
 split
 ·exact gO _
 ·exact W.same rfl
theorem Vm {t:qt} (W:cV t):cV (vo t):=by
 have key:∀u:qt,cV u→cV (wy u):=λu W=>by
  unfold wy
  split
  ·exact W
  ·split
   ·exact gV _
   ·exact gO _
 unfold vo
 split
 ·exact key _ (W.same rfl)
 ·exact key _ W
theorem qQa {t:qt} (W:cV t) (x:q9) (d p:Int):cV (xU t x d p):=by
 unfold xU;dsimp only
 split
 ·split
  ·exact W.same rfl
  ·exact KB (t:={ t with az:=t.az++[jM t x p],ag:=t.ag+1,aD:=t.aD+1 }) (W.same rfl) _
 ·split
  ·split
   ·exact gO _
   ·exact W.same rfl
  ·split
   ·unfold kB;exact gV _
   ·unfold gE
    split
    ·exact gV _
    ·exact Vm (t:={ t with az:=t.az++[jM t x p],ag:=t.ag+1,results:=t.results++[⟨jq x,xB x,zG x,x.af⟩],ad:=t.ad++(zJ x).map λb=>(b,x.af),state:=5,ah:=[] }) (W.same rfl)
theorem qKT {t:qt} (O:yZ t) (W:cV t) {a:cO} (ha:XH a) (d p:Int):cV (zj t a d p):=by
 unfold zj
 split
 ·rename_i h1
  split
  ·exact W
  ·rename_i x hx;have C:=O.c omQ;have hN:=(C.now x hx).1;have W1:XP (jY x a):=qKn hN (W x hx) ha;unfold vv;dsimp only
   split
   ·intro y hy;cases hy;exact W1
   ·refine qQa (λy hy=>?_) _ _ _;cases hy;exact W1
 ·split
  ·split
   ·exact W.same rfl
   ·exact KB W _
  ·split
   ·exact Vm (t:={ t with ah:=t.ah++[if a.err≠0 then 0 else a.word] }) (W.same rfl)
   ·exact W
theorem VW {t:qt} {o:dF} (O:yZ t) (W:cV t) (h:z7 t=some o):lz o.word:=by
 have z0:lz (0:Int):=⟨Int.le_refl _,by decide⟩;unfold z7 at h
 split at h
 ·rename_i h1;have C:=O.c omQ;cases hx:t.now with
  |none=>exact absurd hx C.some
  |some x=>rw[hx]at h;exact qK8 (C.now x hx).1 (W x hx) h
 ·split at h
  ·cases h;exact z0
  ·split at h
   ·cases h;exact z0
   ·cases h
theorem Gk {t:qt} {x:q9} {a:cO} {d p:Int} (h1:t.state=1) (hx:t.now=some x):zj t a d p=vv t x (jY x a) d p:=by
 unfold zj;rw[iJ h1]
 split
 ·rename_i h2;rw[hx]at h2;cases h2
 ·rename_i y h2;rw[hx]at h2;cases h2;rfl
theorem GZ {t:qt} {x:q9} (h1:t.state=1) (hx:t.now=some x):z7 t=jC x:=by unfold z7;rw[iJ h1,hx];rfl
end
section
theorem qQ0 {M:zZ} {o:dF}:(qu M o).2.w.length=M.w.length∧(qu M o).2.l.length=M.l.length∧(qu M o).2.s.length=M.s.length:=by
 have key:(yN M o).2.w.length=M.w.length∧(yN M o).2.l.length=M.l.length∧(yN M o).2.s.length=M.s.length:=by
  unfold yN UV Gf Xz Ya
  repeat' split
  all_goals simp
 rw[wG]
 split
 ·exact key
 ·exact key
theorem qQ6 (t:qt) (W:cV t):cV (jc t):=by
 unfold jc
 split
 ·split
  ·exact gO _
  ·exact W.same rfl
 ·exact W
theorem qYF (t:qt) (W:cV t) (s v:Int):cV (zl t s v):=by
 unfold zl
 split
 ·exact W
 ·split
  ·split
   ·exact gO _
   ·split
    ·exact W.same rfl
    ·exact W
  ·exact W
theorem Kh (t:qt):(jc t).az=t.az:=by
 unfold jc
 split
 ·split
  ·exact(gP _).az
  ·rfl
 ·rfl
theorem NR (t:qt) (s v:Int):(zl t s v).az=t.az:=by
 unfold zl
 split
 ·rfl
 ·split
  ·split
   ·exact(gP _).az
   ·split<;>rfl
  ·rfl
structure V8 (m:gK):Prop where
  so:QG m.s
  r:se m.m
  len:(m.t.length:Int)=m.s.aa
  w:(m.m.w.length:Int)=m.s.words
  l:(m.m.l.length:Int)=m.s.ax
  sl:(m.m.s.length:Int)=m.s.aa
  t:∀(i:Nat) (t:qt),m.t[i]? =some t→yZ t∧cV t∧(t.az.length:Int)≤m.aK
  aK:0≤m.aK
  b6:0≤m.m.b6∧m.m.b6≤m.aK+1
theorem Jg {ts:List qt} {i:Nat} {s v:Int} {k:Nat}:(yS ts i s v)[k]? =(ts[k]?).map λt=>if k=i then t else zl t s v:=by unfold yS;rw[List.getElem?_mapIdx]
theorem Xt {m:gK} (K:V8 m) {i:Nat} (hi:i<m.t.length) {draw:Int} (hd:0≤draw):V8 (xj m i draw)∧(xj m i draw).s=m.s∧(xj m i draw).aK=m.aK+1:=by
 obtain⟨t,ht⟩:∃t,m.t[i]? =some t:=⟨m.t[i],iW hi⟩;obtain⟨O,W,hp⟩:=K.t i t ht;have hpk:=K.aK;have sC:=K.b6;have Cu:∀(u:qt) {k:Nat} {v:qt},(m.t.set i u)[k]? =some v→(k=i∧v=u)∨(k≠i∧m.t[k]? =some v):=λu k v h=>by
  by_cases e:k=i
  ·subst e;rw[List.getElem?_set_self hi]at h;exact .inl ⟨rfl,(Option.some.inj h).symm⟩
  ·rw[List.getElem?_set_ne (λh=>e h.symm)]at h;exact .inr ⟨e,h⟩
 unfold xj;rw[ht];dsimp only
 split
 ·refine⟨⟨K.so,K.r,by show((m.t.set i _).length:Int)=_;rw[List.length_set];exact K.len,K.w,K.l,K.sl,λk v hv=>?_,by show 0≤m.aK+1;omega,by show 0≤m.m.b6∧m.m.b6≤m.aK+1+1;omega⟩,rfl,rfl⟩;show yZ v∧cV v∧(v.az.length:Int)≤m.aK+1;rcases Cu _ hv with⟨_,rfl⟩ |⟨_,h⟩
  ·exact⟨Zj O,qQ6 t W,by rw[Kh];omega⟩
  ·obtain⟨a,b,c⟩:=K.t k v h;exact⟨a,b,by omega⟩
 ·rename_i o hn;have ho:=VW O W hn;obtain⟨a1,a2⟩:=Ps K.r ho;have O':=V6 O a1 hd (pick:=m.aK+1) (draw:=draw);have W':=qKT O W a1 draw (m.aK+1);have G:=(qVL t (qu m.m o).1 draw (m.aK+1)).az;obtain⟨l1,l2,l3⟩:=qQ0 (M:=m.m) (o:=o);have lc:=Vl (M:=m.m) (o:=o);generalize qu m.m o=r at*;generalize zj t r.1 draw (m.aK+1)=u at*;have one:∀(k:Nat) (v:qt),(m.t.set i u)[k]? =some v→yZ v∧cV v∧(v.az.length:Int)≤m.aK+1:=λk v hv=>by
   rcases Cu _ hv with⟨_,rfl⟩ |⟨_,h⟩
   ·exact⟨O',W',by omega⟩
   ·obtain⟨a,b,c⟩:=K.t k v h;exact⟨a,b,by omega⟩
  have base:∀ts:List qt,ts.length=m.t.length→(∀(k:Nat) (v:qt),ts[k]? =some v→yZ v∧cV v∧(v.az.length:Int)≤m.aK+1)→V8 { m with aK:=m.aK+1,last:=o,did:=true,m:=r.2,t:=ts }:=λts hl H=>⟨K.so,a2,by show(ts.length:Int)=_;rw[hl];exact K.len,by show(r.2.w.length:Int)=_;rw[l1];exact K.w,by show(r.2.l.length:Int)=_;rw[l2];exact K.l,by show(r.2.s.length:Int)=_;rw[l3];exact K.sl,H,by show 0≤m.aK+1;omega,by show 0≤r.2.b6∧r.2.b6≤m.aK+1+1;omega⟩
  refine⟨?_,rfl,rfl⟩
  split
  ·refine base _ (by unfold yS;simp) λk v hv=>?_;rw[Jg]at hv;cases hq:(m.t.set i u)[k]? with
   |none=>rw[hq]at hv;cases hv
   |some q=>
    rw[hq]at hv;have hv:(if k=i then q else zl q o.at_ o.lk.1)=v:=Option.some.inj hv;obtain⟨b1,b2,b3⟩:=one k q hq;subst hv
    split
    ·exact⟨b1,b2,b3⟩
    ·exact⟨qKp b1,qYF q b2 _ _,by rw[NR];exact b3⟩
  ·exact base _ aN one
theorem qkO {s:zK} {jobs:List (List (List qa))} (hs:0≤s.start) (hj:∀js∈jobs,∀l∈js,(xZ l).2=0∧Quiet l):V8 (ML s jobs):=by
 have so:QG (jG { s with aa:=((jobs.take 4).length:Int) }):=vC hs;have q1:=so.words;have q2:=so.ax;have q3:=so.aa;have q4:=so.start;have Q:=qZp (qxR so) (at_:=5) (w:=14) od ⟨by decide,by decide⟩;unfold ML;dsimp only;generalize jG { s with aa:=((jobs.take 4).length:Int) }=S at*;refine⟨so,⟨Q.wd,by rw[Q.n];exact⟨q4.1,by omega⟩,λz hz=>?_⟩,?_,Q.w,?_,?_,λi t ht=>?_,Int.le_refl _,?_⟩
 ·rw[Q.s]at hz;rw[(List.mem_replicate.1 hz).2];exact⟨by decide,by decide⟩
 ·show((((List.range S.aa.toNat).map _).length:Nat):Int)=S.aa;rw[List.length_map,List.length_range];omega
 ·rw[Q.l,List.length_replicate];show((S.ax.toNat:Nat):Int)=S.ax;omega
 ·rw[Q.s,List.length_replicate];show((S.aa.toNat:Nat):Int)=S.aa;omega
 ·rw[List.getElem?_map]at ht;by_cases hi:i<S.aa.toNat
  ·rw[List.getElem?_range hi]at ht;have ht:=Option.some.inj ht;subst ht;have hjs:∀l∈(((jobs.take 4)[i]?).getD []),(xZ l).2=0∧Quiet l:=λl hl=>by
    cases hx:(jobs.take 4)[i]? with
    |none=>rw[hx]at hl;cases hl
    |some js=>rw[hx]at hl;exact hj js (List.mem_of_mem_take (List.mem_of_getElem? hx)) l hl
   refine⟨qgC q4.1 hjs,gV _,?_⟩;have:(Qj (i:Int) S (((jobs.take 4)[i]?).getD [])).az=[]:=(yh _).az;rw[this];exact Int.le_refl _
  ·rw[List.getElem?_eq_none (by simp;omega)]at ht;cases ht
 ·have:=Q.b6;show 0≤(qu (yW S) (bi 2 5 14)).2.b6∧_≤(0:Int)+1;omega
end
section
variable {g h:AH} {L R:List SP}
theorem qXa:∀{l:List Cl} {c:Cl},nh l→c∈l→zU c.1 l=some c.2:=by
 intro l
 induction l with
 |nil=>intro c _ h;cases h
 |cons d l ih=>
  intro c hu hc;unfold nh at hu;rw[List.map_cons,List.nodup_cons]at hu;unfold zU;rcases List.mem_cons.1 hc with rfl |hc
  ·rw[iJ rfl]
  ·rw[iQ (λh=>hu.1 (by rw[h];exact List.mem_map.2 ⟨c,hc,rfl⟩))];exact ih hu.2 hc
theorem qKe {n:Nat} (hn:1≤n) {v:Nat} {M:VM} (H:HS g h (ab v M::R)) (O:dz M) :
  aA n 126 [.ptr v 0] h λr h'=>HS g h' (qD 163 2 M.K.length r (M.K.flatMap jT)::ab v M::R):=by
 refine aB (S:=S126) rfl omQ λk hk=>?_;unfold S126;try simp only[iZ]
 obtain⟨fv,ov,q,e,H⟩:=ab.E H;have FP:=O.B8;refine qK (qQ (qX ‹_› .here rfl ?_));refine qm ‹_› e_2 ?_;refine YA (ln:=0) (cp:=M.K.length) (sz:=2) H rfl omQ omQ λkv h1 H1=>?_;rw[Nat.zero_mul,List.take_zero]at H1;refine qK (qQ (qX ‹_› e_1 rfl ?_));refine qm ‹_› e_3 ?_
 refine jR (λm s h'=>∃(i:Nat) (kv:AV),s=(.int .i64 (i:Int),.int .i64 (M.K.length:Int),ov,kv,.ptr v 0,())∧i≤M.K.length∧m=M.K.length-i∧
  HS g h' (qD 163 2 i kv ((M.K.take i).flatMap jT)::qy v [fv,ov,.ptr q 0,.int .i64 M.aC]::qD e 2 M.sz fv ((yw M.sz M.K).flatMap Qq)::
   qD 3 1 M.K.length ov (M.K.map λc=>.int .i64 c.1)::bP q M.most M.lv::R))
  ?_ (m:=M.K.length) (by show _<1000000000;omega) ⟨0,kv,rfl,by omega,by omega,by rw[List.take_zero];exact H1⟩
 clear H H1;rintro m ih s h2 bF ⟨i,kv,rfl,hi,rfl,H⟩;dsimp only;by_cases ap:i<M.K.length
 ·have rz:M.K[i]? =some M.K[i]:=iW ap;have dl:=O.ins M.K[i] (List.getElem_mem ap);have hg:=qXa O.un (List.getElem_mem ap);have Cv:M.K.take (i+1)=M.K.take i++[M.K[i]]:=List.take_succ_eq_append_getElem ap;generalize hc:M.K[i]=c at*;obtain⟨p,x⟩:=c;dsimp only at dl hg;obtain⟨p,rfl⟩:∃j:Nat,p=(j:Int):=⟨p.toNat,by omega⟩;refine jH omQ ?_;refine qZ (jb (H.sl e_3) (x:=.int .i64 (p:Int)) (by rw[List.getElem?_map,rz];rfl) ?_);refine qK (qQ (qX ‹_› e_1 rfl ?_));have hf:vn M.K p=(x,true):=by unfold vn;rw[hg]
  refine y4 (x:=.int .u64 x) (H.sl e_2) omQ omQ (by rw[JP (sz:=2) Qq (λ_=>rfl) _ _ _ omQ,kN omQ,hf];rfl) ?_;refine qL rfl ?_;refine qf (n:=1) (l:=[.int .i64 (p:Int),.int .u64 x]) (sz:=2) H rfl rfl rfl rfl λv5 h5 H5=>?_;refine ju (H5.aI e_1) (H5.sl .here) omQ omQ rfl λv6 h6 H6=>?_;refine qU omQ ?_;refine bF (M.K.length-(i+1)) _ _ omQ ⟨i+1,v6,rfl,by omega,rfl,?_⟩;rw[Cv,List.flatMap_append];exact H6.sub (.cons .here (.drop .refl))
 ·obtain rfl:i=M.K.length:=by omega
  refine jz omQ ?_;refine qJ (qx ?_);rw[List.take_length]at H
  have H2:HS g h2 (qy v [fv,ov,.ptr q 0,.int .i64 M.aC]::qD e 2 M.sz fv ((yw M.sz M.K).flatMap Qq)::qD 3 1 M.K.length ov (M.K.map λc=>.int .i64 c.1)::bP q M.most M.lv::
   qD 163 2 M.K.length kv (M.K.flatMap jT)::R):=H.sub (.cons e_1 (.cons e_1 (.cons e_1 (.cons e_1 .refl))))
  exact qY ((ab.I H2).sub (.cons e_1 .refl))
end
section
variable {g h:AH} {L R:List SP}
theorem wR {c:CV} {l:List (Nat×Nat)} {t:TypeId} {x:AV} {f:Nat} {a:List AV} {K2:AV→AH→Go.Ae.R} {Q Q':AV→AH→Prop} (hf:GS l t=some f) (w:wp (c (.fn f [] []) (x::a) h) Q') (hk:∀v h',Q' v h'→wp (K2 v h') Q):wp (yz c l (.iface t x) a h K2) Q:=by show wp (Option.rec (motive:=λ_=>Go.Ae.R) none (λf=>zA c (.fn f [] []) (x::a) h K2) (GS l t)) Q;rw[hf];exact qG w hk
structure OT where
  rv:AV
  bv:AV
  iv:AV
  fv:AV
  ev:AV
  cv:AV
  gv:Int
  vb:Nat
  db:Nat
def zu (x:q9) (q:OT):List AV:=[.int .i64 x.me,.int .i64 x.set.words,.int .i64 x.set.ax,.int .i64 x.set.wide,.int .i64 x.set.aa,.int .u64 x.set.start,.int .i64 x.set.ao,.int .i64 x.set.writes,.int .i64 x.set.fuel,
 q.rv,q.bv,.int .i64 q.gv,.ptr q.vb 0,.ptr q.db 0,.int .i64 x.state,q.iv,q.fv,q.ev,q.cv,.bool x.begun,.int .u64 x.cw,.int .u64 x.af,.int .i64 x.fin,.int .i64 x.cU,.int .i64 x.err,.bool x.bt]
def cd (vb:Nat) (j:Yc) (rv bv:AV) (gv:Int):SP:=match j with
 | .prog q=>.ex λz:Nat×Int=>.all [.fa (rv=.ptr z.1 0∧bv=.ak∧gv=0),aJ z.1 vb q.l 0 (qp q.l) q.s q.err q.fin q.left z.2]
 | .aj bs k=>.all [.fa (rv=.aP∧gv=(k:Int)),qD 3 1 bs.length bv (bs.map (.int .i64))]
def aO (st:Int) (f:kK) (e:Qv) (c:Option zL) (iv fv ev cv:AV):SP:=match c with
 |some c=>.ex λb:Nat=>.all [.fa (cv=.ptr b 0∧(st=6→iv=.iface 146 (.ptr b 0))),ay b c]
 |none=>
  if st=3 then .ex λb:Nat=>.all [.fa (cv=.aP∧fv=.ptr b 0∧iv=.iface 144 (.ptr b 0)),qy b (gH f)]
  else if st=4∨st=5 then .ex λb:Nat=>.all [.fa (cv=.aP∧ev=.ptr b 0∧iv=.iface 145 (.ptr b 0)),b5 b e]
  else .fa (cv=.aP)
abbrev uE (a:Nat) (x:q9) (q:OT) (R:List SP):List SP:=qy a (zu x q)::cd q.vb x.au q.rv q.bv q.gv::ab q.vb x.v::bX q.db x.r::aO x.state x.f x.e x.c q.iv q.fv q.ev q.cv::R
def aE (a:Nat) (x:q9):SP:=.ex λq:OT=>.all (uE a x q [])
section
variable {n a:Nat} {x:q9} {q:OT}
theorem aE.E (H:HS g h (aE a x::R)):∃q,HS g h (uE a x q R):=by obtain⟨q,H⟩:=H.dU;exact⟨q,H.cq⟩
theorem aE.I (H:HS g h (uE a x q R)):HS g h (aE a x::R):=HS.en q (HS.allI (A:=uE a x q []) H)
theorem qX8 (hn:1≤n) (H:HS g h L) (s:bc L (qy a (zu x q)) R):aA n 52 [.ptr a 0] h λr h'=>r=.bJ [.int .u64 x.cw,.bool x.begun]∧h'=h:=by
 refine aB (S:=S52) rfl omQ λk hk=>?_;unfold S52;try simp only[iZ]
 refine qK (qQ (qX H s rfl ?_));refine qK (qQ (qX H s rfl ?_))
 skip
 exact qY ⟨rfl,rfl⟩
theorem qZo (hn:1≤n) (H:HS g h L) (s:bc L (qy a (zu x q)) R):aA n 88 [.ptr a 0] h λr h'=>r=.int .u64 x.af∧h'=h:=by
 refine aB (S:=S88) rfl omQ λk hk=>?_;unfold S88;try simp only[iZ]
 refine qK (qQ (qX H s rfl ?_))
 skip
 exact qY ⟨rfl,rfl⟩
theorem PA (hn:1≤n) (H:HS g h L) (s:bc L (qy a (zu x q)) R):aA n 54 [.ptr a 0] h λr h'=>r=.int .i64 (jq x)∧h'=h:=by
 refine aB (S:=S54) rfl omQ λk hk=>?_;unfold S54;try simp only[iZ]
 refine qK (qQ (qX H s rfl ?_));unfold jq;by_cases c:x.state=8
 ·rw[iQ (λh=>h c)];refine jJ c ?_;refine qJ (qK (qQ (qX H s rfl ?_)));exact qY ⟨rfl,rfl⟩
 ·rw[iJ c];refine jQ c ?_;refine qZ ?_;exact qY ⟨rfl,rfl⟩
theorem qzm (hn:1≤n) (H:HS g h L) (s:bc L (qy a (zu x q)) R):aA n 86 [.ptr a 0] h λr h'=>r=.int .i64 (xB x)∧h'=h:=by
 refine aB (S:=S86) rfl omQ λk hk=>?_;unfold S86;try simp only[iZ]
 refine qK (qQ (qX H s rfl ?_));unfold xB;by_cases c:x.state=8
 ·rw[iQ (λh=>h c)];refine jJ c ?_;refine qJ (qK (qQ (qX H s rfl ?_)));exact qY ⟨rfl,rfl⟩
 ·rw[iJ c];refine jQ c ?_;refine qZ ?_;exact qY ⟨rfl,rfl⟩
theorem qk7 (hn:1≤n) (H:HS g h L) (s:bc L (qy a (zu x q)) R):aA n 83 [.ptr a 0] h λr h'=>r=.int .i64 (wE x)∧h'=h:=by
 refine aB (S:=S83) rfl omQ λk hk=>?_;unfold S83;try simp only[iZ]
 refine qK (qQ (qX H s rfl ?_));unfold wE;by_cases c:x.state=8
 ·rw[iQ (λh=>h c)];refine jJ c ?_;refine qJ (qK (qQ (qX H s rfl ?_)));exact qY ⟨rfl,rfl⟩
 ·rw[iJ c];refine jQ c ?_;refine qZ ?_;exact qY ⟨rfl,rfl⟩
theorem ke {f e y:Int} (hn:1≤n) (H:HS g h (qy a (zu x q)::R)):aA n 80 [.ptr a 0,.int .i64 f,.int .i64 e,.int .i64 y] h λ_ h'=>HS g h' (qy a (zu (xH x f e y) q)::R):=by
 refine pu (S:=S80) rfl omQ λk hk=>?_;unfold S80;try simp only[iZ]
 refine qK (qQ (qw H (b:=a) .here ⟨rfl,rfl⟩ (by simp[zu]) λh1 H1=>?_));refine qK (qQ (qw H1 (b:=a) .here ⟨rfl,rfl⟩ (by simp[zu]) λh2 H2=>?_));refine qK (qQ (qw H2 (b:=a) .here ⟨rfl,rfl⟩ (by simp[zu]) λh3 H3=>?_));refine qK (qQ (qw H3 (b:=a) .here ⟨rfl,rfl⟩ (by simp[zu]) λh4 H4=>?_));exact qY H4
theorem aO.nil {st:Int} {f:kK} {e:Qv} {iv fv ev cv:AV} (H:HS g h (aO st f e none iv fv ev cv::R)):cv=.aP∧HS g h R:=by
 unfold aO at H;dsimp only at H
 split at H
 ·obtain⟨b,H⟩:=H.dU;have H:=H.cq;exact⟨H.ed.1.1,H.drop.drop⟩
 ·split at H
  ·obtain⟨b,H⟩:=H.dU;have H:=H.cq;exact⟨H.ed.1.1,H.drop.drop⟩
  ·exact H.ed
theorem aO.fet {f:kK} {e:Qv} {iv fv ev cv:AV} (H:HS g h (aO 3 f e none iv fv ev cv::R)):∃b,(cv=.aP∧fv=.ptr b 0∧iv=.iface 144 (.ptr b 0))∧HS g h (qy b (gH f)::R):=by obtain⟨b,H⟩:=(show HS g h (.ex (λb:Nat=>SP.all [.fa (cv=.aP∧fv=.ptr b 0∧iv=.iface 144 (.ptr b 0)),qy b (gH f)])::R)from H).dU;exact⟨b,H.cq.ed⟩
end
end
section
variable {g h:AH} {L R:List SP}
section
variable {n a:Nat} {x:q9} {q:OT}
theorem Nc {K:AV→Go.Ae.R} {Q:AV→AH→Prop} (w:wp (K (.bool false)) Q):wp (mM .ptr true .aP .aP K) Q:=w
theorem Ui {K:AV→Go.Ae.R} {Q:AV→AH→Prop} (w:wp (K (.bool true)) Q):wp (mM .ptr false .aP .aP K) Q:=w
theorem cd.P {vb:Nat} {p:r9} {rv bv:AV} {gv:Int} (H:HS g h (cd vb (.prog p) rv bv gv::R)):∃ib nx,(rv=.ptr ib 0∧bv=.ak∧gv=0)∧HS g h (aJ ib vb p.l 0 (qp p.l) p.s p.err p.fin p.left nx::R):=by obtain⟨z,H⟩:=(show HS g h (.ex (λz:Nat×Int=>SP.all [.fa (rv=.ptr z.1 0∧bv=.ak∧gv=0),aJ z.1 vb p.l 0 (qp p.l) p.s p.err p.fin p.left z.2])::R)from H).dU;exact⟨z.1,z.2,H.cq.ed⟩
theorem cd.PI {vb ib:Nat} {p:r9} {nx:Int} {rv bv:AV} {gv:Int} (e:rv=.ptr ib 0∧bv=.ak∧gv=0) (H:HS g h (aJ ib vb p.l 0 (qp p.l) p.s p.err p.fin p.left nx::R)):HS g h (cd vb (.prog p) rv bv gv::R) :=
 show HS g h (.ex (λz:Nat×Int=>SP.all [.fa (rv=.ptr z.1 0∧bv=.ak∧gv=0),aJ z.1 vb p.l 0 (qp p.l) p.s p.err p.fin p.left z.2])::R)from
  HS.en (ib,nx) (HS.allI (A:=[_,_]) (HS.eK e H))
theorem cd.S {vb k:Nat} {bs:List Int} {rv bv:AV} {gv:Int} (H:HS g h (cd vb (.aj bs k) rv bv gv::R)):(rv=.aP∧gv=(k:Int))∧HS g h (qD 3 1 bs.length bv (bs.map (.int .i64))::R) :=
 ((show HS g h (SP.all [.fa (rv=.aP∧gv=(k:Int)),qD 3 1 bs.length bv (bs.map (.int .i64))]::R)from H).cq).ed
theorem cd.SI {vb k:Nat} {bs:List Int} {rv bv:AV} {gv:Int} (e:rv=.aP∧gv=(k:Int)) (H:HS g h (qD 3 1 bs.length bv (bs.map (.int .i64))::R)):HS g h (cd vb (.aj bs k) rv bv gv::R) :=
 show HS g h (SP.all [.fa (rv=.aP∧gv=(k:Int)),qD 3 1 bs.length bv (bs.map (.int .i64))]::R)from HS.allI (A:=[_,_]) (HS.eK e H)
theorem PB {l:List Int} {k:Nat} (h:k<l.length):(l.map (.int .i64))[k]? =some (AV.int .i64 l[k]):=by rw[List.getElem?_map,iW h];rfl
theorem qvS (hn:16≤n) (hg:jL x.v) (hf:bK x.v.lv<9000) (hj:bZ True x.v x.au) (H:HS g h (qy a (zu x q)::cd q.vb x.au q.rv q.bv q.gv::ab q.vb x.v::R)) :
  aA n 109 [.ptr a 0] h λr h'=>r=.bJ [.int .i64 (yY x).1.1,.int .i64 (yY x).1.2]∧
   ∃gv,HS g h' (qy a (zu (yY x).2 { q with gv:=gv })::cd q.vb (yY x).2.au q.rv q.bv gv::ab q.vb (yY x).2.v::R):=by
 refine aB (S:=S109) rfl omQ λk hk=>?_;unfold S109;try simp only[iZ]
 unfold yY;cases hx:x.au with
 |prog p=>
  rw[hx]at H hj;obtain⟨F,Q,gb,hr,hl⟩:=hj;obtain⟨G,h0,h1,h2⟩:=hr trivial;obtain⟨ib,nx,⟨e1,e2,e3⟩,H1⟩:=cd.P (H.aI e_1);refine qK (qQ (qX H (b:=a) .here (x:=.ptr ib 0) (by rw[← e1];rfl) ?_));refine G5 (qZ (qW ?_))
  try dsimp only
  refine qK (qQ (qX H (b:=a) .here (x:=.ptr ib 0) (by rw[← e1];rfl) ?_));rw[h0,h1]at H1;refine qG (qx1 omQ F Q G h2 omQ (H1.sub (.cons .here (.cons e_1 (.cons .here .refl))))) ?_;rintro _ h3 ⟨rfl,uu,H3⟩;refine qK (qQ (qX H3 (b:=a) e_2 (x:=.ptr ib 0) (by rw[← e1];rfl) ?_));refine qG (qzE omQ H3) ?_;rintro _ _ ⟨rfl,rfl⟩;refine qb H .here (by rw[← e1];rfl) H3 e_2 (by rw[← e1];rfl) (HS.lt H .here) ?_;refine qY ⟨rfl,0,?_⟩;have H4:=(cd.PI (p:=⟨p.l,(zp p.l (qp p.l) p.left p.s x.v).s,if(zp p.l (qp p.l) p.left p.s x.v).kind=1 then 0 else(zp p.l (qp p.l) p.left p.s x.v).kind,(zp p.l (qp p.l) p.left p.s x.v).err,(zp p.l (qp p.l) p.left p.s x.v).left⟩) ⟨e1,e2,rfl⟩ H3).sub (.cons e_2 (.cons .here (.cons .here .refl)));have eg:zu x q=zu x { q with gv:=0 }:=by unfold zu;rw[e3]
  rw[eg]at H4;exact H4
 |aj bs k=>
  rw[hx]at H hj;obtain⟨⟨e1,e2⟩,H1⟩:=cd.S (H.aI e_1);refine qK (qQ (qX H (b:=a) .here (x:=.aP) (by rw[← e1];rfl) ?_));refine Nc (qJ ?_);have FP:=hj.1;have FR:=hj.2;dsimp only;generalize hG:xf x.v (bs.drop k) k=G
  refine jR (λm s h'=>s=(.ptr a 0,())∧∃(i:Nat) (V:VM),i≤bs.length∧m=bs.length-i∧jL V∧xf V (bs.drop i) i=G∧
    HS g h' (qy a (zu x { q with gv:=(i:Int) })::qD 3 1 bs.length q.bv (bs.map (.int .i64))::ab q.vb V::R))
   ?_ (m:=bs.length-k) (by show _<1000000000;omega) ⟨rfl,k,x.v,FP,rfl,hg,hG,by
    have:q={ q with gv:=(k:Int) }:=by rw[← e2]
    rw[← this]
    exact H1.sub (.cons e_1 (.cons .here .refl))⟩
  clear H H1 hG;rintro m ih s h1 bF ⟨rfl,i,V,hi,rfl,hV,hG,H⟩;dsimp only;refine qK (qQ (qX H (b:=a) .here rfl ?_));refine qK (qQ (qX H (b:=a) .here rfl ?_));refine qm H e_1 ?_;by_cases ap:i<bs.length
  ·refine jH (by show(i:Int)<_;omega) (qZ ?_);refine qK (qQ (qX H (b:=a) .here rfl ?_));refine qK (qQ (qX H (b:=a) .here rfl ?_));refine qK (qQ (qX H (b:=a) .here rfl ?_));refine jb (H.sl e_1) (PB ap) ?_;refine qG (qV2 (b:=bs[i]) omQ (H.aI e_2) hV.ok) ?_;rintro _ h2 ⟨rfl,H2⟩;rw[List.drop_eq_getElem_cons ap]at hG;by_cases h0:(xE V bs[i]).1=0
   ·refine qk h0 (qZ ?_);refine qK (qQ (qX H2 (b:=a) e_1 (x:=.int .i64 (i:Int)) rfl ?_));refine qU omQ ?_;refine qK (qQ ?_);refine qw H2 (b:=a) e_1 ⟨rfl,rfl⟩ (by simp[zu]) λh3 H3=>?_;refine bF (bs.length-(i+1)) _ _ omQ ⟨rfl,i+1,(xE V bs[i]).2,by omega,rfl,hV.r5.1,?_,H3.sub (.cons .here (.cons e_1 (.cons .here .refl)))⟩;rw[show xf V (bs[i]::bs.drop (i+1)) i=xf (xE V bs[i]).2 (bs.drop (i+1)) (i+1)from iJ h0]at hG;exact hG
   ·rw[show xf V (bs[i]::bs.drop (i+1)) i=((i,(xE V bs[i]).1),(xE V bs[i]).2)from iQ h0]at hG;subst hG;refine qj h0 (qJ ?_);have H3:=(cd.SI (vb:=q.vb) (k:=i) ⟨e1,rfl⟩ (H2.sub (.cons e_2 (.cons e_1 (.cons .here .refl))))).sub (.cons e_1 (.cons .here (.cons .here .refl)));by_cases dq:(xE V bs[i]).1=11
    ·refine qk dq (qZ (qx (qY ⟨?_,(i:Int),?_⟩)))
     ·rw[iJ dq];rfl
     ·exact H3
    ·refine qj dq (qJ (qx (qY ⟨?_,(i:Int),?_⟩)))
     ·rw[iQ dq,iQ h0];rfl
     ·exact H3
  ·obtain rfl:i=bs.length:=by omega
   rw[List.drop_length,show xf V [] bs.length=((bs.length,0),V)from rfl]at hG;subst hG;refine jz (by show¬(bs.length:Int)<_;omega) (qJ (qx (qY ⟨rfl,(bs.length:Int),?_⟩)));have H3:=(cd.SI (vb:=q.vb) (k:=bs.length) ⟨e1,rfl⟩ (H.sub (.cons e_1 (.cons .here (.cons .here .refl))))).sub (.cons e_1 (.cons .here (.cons .here .refl)));exact H3
theorem Gz {st:Int} {t b:Nat} (hn:1≤n) (H:HS g h (qy a (zu x q)::R)):aA n 115 [.ptr a 0,.int .i64 st,.iface t (.ptr b 0)] h λ_ h'=>HS g h' (qy a (zu { x with state:=st } { q with iv:=.iface t (.ptr b 0) })::R):=by
 refine cL (S:=S115) rfl omQ λk hk=>?_;unfold S115;try simp only[iZ]
 refine qK (qQ (qw H (b:=a) .here ⟨rfl,rfl⟩ (by simp[zu]) λh1 H1=>?_));refine qK (qQ (qw H1 (b:=a) .here ⟨rfl,rfl⟩ (by simp[zu]) λh2 H2=>?_));exact qY H2
theorem PC {p:Int} (hn:3≤n) (hp:p<4611686018427387904) (H:HS g h (qy a (zu x q)::R)):aA n 110 [.ptr a 0,.int .i64 p] h λ_ h'=>
  ∃b,HS g h' (qy b (gH (Qr x p).f)::qy a (zu (Qr x p) { q with iv:=.iface 144 (.ptr b 0),fv:=.ptr b 0 })::R):=by
 refine ba (S:=S110) rfl omQ λk hk=>?_;unfold S110;try simp only[iZ]
 refine qW ?_
 try dsimp only
 refine qK (qQ (qX H (b:=a) .here rfl ?_));refine qK (qQ (qh (qh (qX H (b:=a) .here rfl ?_))));refine qK (qQ (qh (qh (qX H (b:=a) .here rfl ?_))));refine qG (L9 omQ hp) ?_;rintro _ _ ⟨rfl,rfl⟩;refine qK (qQ (qh (qX H (b:=a) .here rfl ?_)));refine qK (qQ (qX H (b:=a) .here rfl ?_));refine qG (qzl omQ H) ?_;rintro _ h1 ⟨b,rfl,H1⟩;refine qK (qQ ?_);refine qw H1 (b:=a) e_1 (x:=.ptr b 0) ⟨rfl,rfl⟩ (by simp[zu]) λh2 H2=>?_;refine qb H .here rfl H .here rfl (HS.lt H .here) ?_;refine qb H .here rfl H .here rfl (HS.lt H .here) ?_;refine qb H .here rfl H .here rfl (HS.lt H .here) ?_;have H3:HS g h2 (qy a (zu { x with f:=OR x.me p (ofM p x.set.ax x.set.wide) x.set.ao x.af } { q with fv:=.ptr b 0 })::qy b (gH (OR x.me p (ofM p x.set.ax x.set.wide) x.set.ao x.af))::R):=H2;refine qK (qQ (qX H3 (b:=a) .here rfl ?_));refine qG (Gz omQ H3) λ_ h4 H4=>qY ⟨b,H4.sub (.cons e_1 (.cons .here .refl))⟩
theorem Vq {st:Int} (hn:4≤n) (hr:x.r.length≤16) (H:HS g h (qy a (zu x q)::bX q.db x.r::R)):aA n 112 [.ptr a 0,.int .i64 st] h λ_ h'=>
  ∃b,HS g h' (b5 b (ww x st).e::qy a (zu (ww x st) { q with iv:=.iface 145 (.ptr b 0),ev:=.ptr b 0 })::bX q.db x.r::R):=by
 refine ba (S:=S112) rfl omQ λk hk=>?_;unfold S112;try simp only[iZ]
 refine qW ?_
 try dsimp only
 refine qK (qQ (qX H (b:=a) .here rfl ?_));refine qK (qQ (qh (qX H (b:=a) .here rfl ?_)));refine qK (qQ (qX H (b:=a) .here rfl ?_));refine qG (NF omQ omQ (H.aI e_1)) λv h1 H1=>?_;refine qG (qjc (me:=x.me) (sp:=x.set.ao) (r:=x.r) omQ omQ H1) ?_;rintro _ h2 ⟨b,rfl,H2⟩;refine qK (qQ ?_);refine qw H2 (b:=a) e_2 (x:=.ptr b 0) ⟨rfl,rfl⟩ (by simp[zu]) λh3 H3=>?_;refine qb H .here rfl H1 e_2 rfl (HS.lt H .here) ?_;refine qb H .here rfl H1 e_2 rfl (HS.lt H .here) ?_;have H4:HS g h3 (qy a (zu { x with e:=NX x.me x.set.ao x.r } { q with ev:=.ptr b 0 })::b5 b (NX x.me x.set.ao x.r)::bX q.db x.r::R):=H3;refine qK (qQ (qX H4 (b:=a) .here rfl ?_));refine qG (Gz omQ H4) λ_ h5 H5=>qY ⟨b,H5.sub (.cons e_1 (.cons .here .refl))⟩
end
end
section
variable {g h:AH} {L R:List SP}
section
variable {st:Int} {f:kK} {e:Qv} {c:Option zL} {iv fv ev cv:AV} {b:Nat}
theorem aO.sf (cP:st=3) (hc:c=none) (q:cv=.aP∧fv=.ptr b 0∧iv=.iface 144 (.ptr b 0)) (H:HS g h (qy b (gH f)::R)):HS g h (aO st f e c iv fv ev cv::R):=by subst cP;subst hc;show HS g h (.ex (λb':Nat=>SP.all [.fa (cv=.aP∧fv=.ptr b' 0∧iv=.iface 144 (.ptr b' 0)),qy b' (gH f)])::R);exact HS.en b (HS.allI (A:=[_,_]) (HS.eK q H))
theorem aO.pX (cP:st=3) (hc:c=none) (H:HS g h (aO st f e c iv fv ev cv::R)):∃b,(cv=.aP∧fv=.ptr b 0∧iv=.iface 144 (.ptr b 0))∧HS g h (qy b (gH f)::R):=by subst cP;subst hc;exact aO.fet H
theorem aO.sg (cP:st=4∨st=5) (hc:c=none) (q:cv=.aP∧ev=.ptr b 0∧iv=.iface 145 (.ptr b 0)) (H:HS g h (b5 b e::R)):HS g h (aO st f e c iv fv ev cv::R):=by subst hc;unfold aO;dsimp only;rw[iQ omQ,iJ cP];exact HS.en b (HS.allI (A:=[_,_]) (HS.eK q H))
theorem aO.n6 (cP:st=4∨st=5) (hc:c=none) (H:HS g h (aO st f e c iv fv ev cv::R)):∃b,(cv=.aP∧ev=.ptr b 0∧iv=.iface 145 (.ptr b 0))∧HS g h (b5 b e::R):=by subst hc;unfold aO at H;dsimp only at H;rw[iQ omQ,iJ cP]at H;obtain⟨b,H⟩:=H.dU;exact⟨b,H.cq.ed⟩
theorem aO.te (cP:st≠3∧st≠4∧st≠5) (hc:c=none) (q:cv=.aP) (H:HS g h R):HS g h (aO st f e c iv fv ev cv::R):=by subst hc;unfold aO;dsimp only;rw[iQ omQ,iQ omQ];exact HS.eK q H
theorem aO.Cw (hc:c=none) (H:HS g h (aO st f e c iv fv ev cv::R)):cv=.aP∧HS g h R:=by subst hc;exact aO.nil H
theorem aO.pY {d:zL} (hc:c=some d) (q:cv=.ptr b 0∧(st=6→iv=.iface 146 (.ptr b 0))) (H:HS g h (ay b d::R)):HS g h (aO st f e c iv fv ev cv::R):=by subst hc;show HS g h (.ex (λb':Nat=>SP.all [.fa (cv=.ptr b' 0∧(st=6→iv=.iface 146 (.ptr b' 0))),ay b' d])::R);exact HS.en b (HS.allI (A:=[_,_]) (HS.eK q H))
theorem aO.l7 {d:zL} (hc:c=some d) (H:HS g h (aO st f e c iv fv ev cv::R)):∃b,(cv=.ptr b 0∧(st=6→iv=.iface 146 (.ptr b 0)))∧HS g h (ay b d::R):=by subst hc;obtain⟨b,H⟩:=(show HS g h (.ex (λb':Nat=>SP.all [.fa (cv=.ptr b' 0∧(st=6→iv=.iface 146 (.ptr b' 0))),ay b' d])::R)from H).dU;exact⟨b,H.cq.ed⟩
end
section
variable {n a:Nat} {x:q9} {q:OT}
theorem O3 (hn:18≤n) (B:Qw x) (hj:bZ True x.v x.au) (hc:x.c=none) (iO:q.cv=.aP) (H:HS g h (qy a (zu x q)::cd q.vb x.au q.rv q.bv q.gv::ab q.vb x.v::bX q.db x.r::R)) :
  aA n 81 [.ptr a 0] h λ_ h'=>HS g h' (aE a (xl x)::R):=by
 refine aB (S:=S81) rfl omQ λk hk=>?_;unfold S81;try simp only[iZ]
 have D:=NC B.aH B.fr hj;unfold xl;refine qG (qvS omQ B.aH B.fr hj H) ?_;rintro _ h1 ⟨rfl,gv,H1⟩;clear H;generalize(yY x).1.1=kd at*;generalize(yY x).1.2=er at*;generalize(yY x).2=y at*;obtain⟨e1,e2,e3,e4,e5⟩:=D.same;have ux:y.c=none:=by rw[e5,hc]
 have fH:y.r.length≤16:=by rw[e3];exact B.r
 rw[← e3]at H1;generalize hA:wu y kd er=A;refine qB rfl (qB rfl ?_);refine jm [] (λ_ h'=>HS g h' (aE a A::R)) (λj hj=>?_) λ_ h' H'=>qx (qY H');unfold wu at hA;have iN:=D.aH.ok.hi;by_cases c1:kd=1
 ·rw[iJ c1]at hA;subst hA;refine qk c1 (qZ ?_);have hnd:=D.aC c1;have hk:=D.kept.1;refine qK (qQ (qX H1 (b:=a) .here rfl ?_));refine qG (Ua omQ (H1.aI (P:=ab q.vb y.v) e_2)) ?_;rintro _ _ ⟨rfl,rfl⟩;refine qG (PC omQ omQ H1) ?_;rintro _ h2 ⟨b,H2⟩;refine hj _ _ (aE.I (q:={ q with gv:=gv,iv:=.iface 144 (.ptr b 0),fv:=.ptr b 0 }) ?_);have H3:=aO.sf (st:=3) (e:=y.e) (ev:=q.ev) rfl ux ⟨iO,rfl,rfl⟩ H2;exact H3.sub (.cons e_1 (.cons e_1 (.cons e_1 (.cons e_1 (.cons .here .refl)))))
 rw[iQ c1]at hA;refine qj c1 (qJ ?_);by_cases c3:kd=3
 ·rw[iJ c3]at hA;subst hA;refine qk c3 (qZ ?_);refine qK (qQ ?_);refine qw H1 (b:=a) .here ⟨rfl,rfl⟩ (by simp[zu]) λh2 H2=>?_;have H2:HS g h2 (qy a (zu { y with bt:=true } { q with gv:=gv })::cd q.vb y.au q.rv q.bv gv::ab q.vb y.v::bX q.db y.r::R):=H2;refine qG (Vq (x:={ y with bt:=true }) (q:={ q with gv:=gv }) omQ fH (H2.sub (.cons .here (.cons e_2 .refl)))) ?_;rintro _ h3 ⟨b,H3⟩;refine hj _ _ (aE.I (q:={ q with gv:=gv,iv:=.iface 145 (.ptr b 0),ev:=.ptr b 0 }) ?_);have H4:=aO.sg (st:=5) (f:=y.f) (fv:=q.fv) (c:=y.c) (cv:=q.cv) (.inr rfl) ux ⟨iO,rfl,rfl⟩ H3;exact H4.sub (.cons e_1 (.cons e_2 (.cons e_2 (.cons e_1 (.cons .here .refl)))))
 rw[iQ c3]at hA;refine qj c3 (qJ ?_);have gone:∀{fin err:Int} {h2:AH},HS g h2 (qy a (zu (xH y fin err (-1)) { q with gv:=gv })::cd q.vb y.au q.rv q.bv gv::ab q.vb y.v::bX q.db y.r::R)→HS g h2 (aE a (xH y fin err (-1))::R):=λ{fin err h2} H2=>by
  refine aE.I (q:={ q with gv:=gv }) ?_;have H3:=aO.te (st:=7) (f:=y.f) (e:=y.e) (c:=y.c) (iv:=q.iv) (fv:=q.fv) (ev:=q.ev) (cv:=q.cv) od ux iO H2;exact H3.sub (.cons e_1 (.cons e_1 (.cons e_1 (.cons e_1 (.cons .here .refl)))))
 by_cases c4:kd=4
 ·rw[iJ c4]at hA;subst hA;refine qk c4 (qZ ?_);refine qG (ke omQ H1) λ_ h2 H2=>?_;exact hj _ _ (gone H2)
 rw[iQ c4]at hA;refine qj c4 (qJ ?_);refine qK (qQ (qX H1 (b:=a) .here rfl ?_));refine qG (VL omQ (H1.aI (P:=ab q.vb y.v) e_2) D.aH.ok) λv h2 H2=>?_;have BC:=OY D.aH.ok;refine qm H2 .here ?_;by_cases c5:jh y.v.lv=[]
 ·rw[iJ c5]at hA;subst hA;refine qk (by rw[c5];rfl) (qZ ?_);refine qG (ke omQ (H2.sub (.cons e_2 (.cons e_2 (.cons e_1 (.cons e_1 (.drop .refl))))))) λ_ h3 H3=>?_;exact qY (gone H3)
 ·rw[iQ c5]at hA;have mZ:0<(jh y.v.lv).length:=List.length_pos_iff.2 c5;refine qj omQ (qJ ?_);refine qW ?_
  try dsimp only
  refine qK (qQ (qX H2 (b:=a) e_2 rfl ?_));refine qK (qQ (qh (qX H2 (b:=a) e_2 rfl ?_)));refine qK (qQ (qX H2 (b:=a) e_2 rfl ?_));refine qK (qQ (qX H2 (b:=a) e_2 rfl ?_));refine qG (NF omQ omQ (H2.aI (P:=bX q.db y.r) e_4)) λv2 h3 H3=>?_;refine qK (qQ (qh (qh (qX H3 (b:=a) e_4 rfl ?_))));refine qK (qQ (qh (qh (qX H3 (b:=a) e_4 rfl ?_))));refine qG (qjm (me:=y.me) (sp:=y.set.ao) (st:=y.af) (a:=y.set.ax) (w:=y.set.wide) (r:=y.r) (cs:=jh y.v.lv) omQ omQ mZ omQ (λc h=>by have:=BC.2 c h;omega) (H3.sub (.cons .here (.cons e_1 .refl)))) ?_;rintro _ h4 ⟨b,rfl,H4⟩;refine qK (qQ ?_);refine qw H4 (b:=a) e_3 (x:=.ptr b 0) ⟨rfl,rfl⟩ (by simp[zu]) λh5 H5=>?_;refine qb H2 e_2 rfl H3 e_4 rfl (HS.lt H2 e_2) ?_;refine qb H2 e_2 rfl H3 e_4 rfl (HS.lt H2 e_2) ?_;refine qb H2 e_2 rfl H3 e_4 rfl (HS.lt H2 e_2) ?_;refine qb H2 e_2 rfl H3 e_4 rfl (HS.lt H2 e_2) ?_;refine qb H2 e_2 rfl H3 e_4 rfl (HS.lt H2 e_2) ?_;have H6:HS g h5 (qy a (zu { y with c:=some (On y.me y.set.ao y.af y.r (jh y.v.lv) y.set.ax y.set.wide) } { q with gv:=gv,cv:=.ptr b 0 })::ay b (On y.me y.set.ao y.af y.r (jh y.v.lv) y.set.ax y.set.wide)::bX q.db y.r::ab q.vb y.v::cd q.vb y.au q.rv q.bv gv::R):=H5;refine qK (qQ (qX H6 (b:=a) .here rfl ?_));refine qG (Gz omQ H6) λ_ h6 H7=>?_;subst hA;refine hj _ _ (aE.I (q:={ q with gv:=gv,cv:=.ptr b 0,iv:=.iface 146 (.ptr b 0) }) ?_);have H8:=aO.pY (st:=6) (f:=y.f) (e:=y.e) (fv:=q.fv) (ev:=q.ev) rfl ⟨rfl,λ_=>rfl⟩ (H7.aI e_1);exact H8.sub (.cons e_1 (.cons e_3 (.cons e_2 (.cons e_1 (.cons .here .refl)))))
theorem qKM (r:List xD) (x:xD):(gr r x).1=0∨(gr r x).2=r:=by
 unfold gr
 split
 ·exact .inr rfl
 ·split
  ·split<;>exact .inr rfl
  ·split
   ·exact .inr rfl
   ·exact .inl rfl
theorem N0 (hn:20≤n) (B:Qw x) (hj:bZ True x.v x.au) (hw:0≤x.f.word∧x.f.word<18446744073709551616) (hc:x.c=none) {b:Nat} (hq:q.cv=.aP∧q.fv=.ptr b 0) (H:HS g h (qy a (zu x q)::cd q.vb x.au q.rv q.bv q.gv::ab q.vb x.v::bX q.db x.r::qy b (gH x.f)::R)) :
  aA n 143 [.ptr a 0] h λ_ h'=>HS g h' (aE a (xW x)::R):=by
 refine aB (S:=S143) rfl omQ λk hk=>?_;unfold S143;try simp only[iZ]
 generalize hA:xW x=A;unfold xW at hA;refine qK (qQ (qX H (b:=a) .here (x:=.ptr b 0) (by rw[← hq.2];rfl) ?_));refine qG (Gt omQ H (s:=e_4)) ?_;rintro _ _ ⟨rfl,rfl⟩;by_cases c6:x.f.p.fin=6
 ·rw[iJ c6]at hA;subst hA;refine qk c6 (qZ ?_);refine qG (Vq (q:=q) omQ B.r (H.sub (.cons .here (.cons e_2 .refl)))) ?_;rintro _ h3 ⟨b',H3⟩;refine qY (aE.I (q:={ q with iv:=.iface 145 (.ptr b' 0),ev:=.ptr b' 0 }) ?_);have H4:=aO.sg (st:=4) (f:=x.f) (fv:=q.fv) (c:=x.c) (cv:=q.cv) (.inl rfl) hc ⟨hq.1,rfl,rfl⟩ H3;exact H4.sub (.cons e_1 (.cons e_2 (.cons e_2 (.cons e_1 (.cons .here (.drop .refl))))))
 rw[iQ c6]at hA;refine qj c6 (qJ ?_);refine qW ?_
 try dsimp only
 refine qK (qQ (qX H (b:=a) .here rfl ?_));refine qK (qQ (qX H (b:=a) .here (x:=.ptr b 0) (by rw[← hq.2];rfl) ?_));refine qG (qGU omQ H e_4) ?_;rintro _ h1 ⟨rfl,H1⟩;refine qG (qxE (x:=xN x.f) omQ B.r (H1.aI (P:=bX q.db x.r) e_3)) ?_;rintro _ h2 ⟨rfl,H2⟩;refine qb H .here rfl H1 .here rfl (HS.lt H .here) ?_;refine jm [] (λ_ h'=>HS g h' (aE a A::R)) (λj uo=>?_) λ_ h' H'=>qx (qY H');have hx:=Gj hw;by_cases c0:(gr x.r (xN x.f)).1=0
 ·rw[iJ c0]at hA;subst hA;refine qk c0 (qZ ?_);refine qW ?_
  try dsimp only
  refine qK (qQ (qX H2 (b:=a) e_1 rfl ?_));refine qK (qQ (qX H2 (b:=a) e_1 rfl ?_));refine qG (Ua omQ (H2.aI (P:=ab q.vb x.v) e_3)) ?_;rintro _ _ ⟨rfl,rfl⟩;refine qK (qQ (qX H2 (b:=a) e_1 (x:=.ptr b 0) (by rw[← hq.2];rfl) ?_));refine qG (qWN omQ H2 e_4) ?_;rintro _ _ ⟨rfl,rfl⟩;refine qG (qYC (p:=x.v.aC) (x:=xq x.f) omQ (H2.aI (P:=ab q.vb x.v) e_3) B.aH.ok) ?_;rintro _ h3 ⟨rfl,H3⟩;refine qb H2 e_1 (x:=.ptr b 0) (by rw[← hq.2];rfl) H2 e_1 (by rw[← hq.2];rfl) (HS.lt H2 e_1) ?_;refine qb H2 e_1 rfl H2 e_1 rfl (HS.lt H2 e_1) ?_;refine qb H2 e_1 rfl H2 e_1 rfl (HS.lt H2 e_1) ?_;refine qG (O3 (x:={ x with r:=(gr x.r (xN x.f)).2,v:=(yK x.v x.v.aC (xq x.f)).2 }) (q:=q) (R:=R) omQ ?_ (hj.pP hx) hc hq.1 (H3.sub (.cons e_2 (.cons e_2 (.cons .here (.cons .here (.drop .refl))))))) λ_ h4 H4=>uo _ _ H4;exact⟨B.set,Y4 B.aH hx,by show((yK x.v x.v.aC (xq x.f)).2.sz:Int)=x.set.words;rw[Qi.2];exact B.sz,by show bK (yK x.v x.v.aC (xq x.f)).2.lv<9000;rw[Qi.1];exact B.fr,Uq B.r,(hj.pP hx).same λh=>h.elim,B.c⟩
 rw[iQ c0]at hA;refine qj c0 (qJ ?_);have oQ:(gr x.r (xN x.f)).2=x.r:=(qKM x.r (xN x.f)).resolve_left c0;rw[oQ]at H2;have gone:∀{fin err:Int} {h2:AH},HS g h2 (qy a (zu (xH x fin err (-1)) q)::bX q.db x.r::cd q.vb x.au q.rv q.bv q.gv::ab q.vb x.v::qy b (gH x.f)::R)→HS g h2 (aE a (xH x fin err (-1))::R):=λ{fin err h2} H2=>by
  refine aE.I (q:=q) ?_;have H3:=aO.te (st:=7) (f:=x.f) (e:=x.e) (c:=x.c) (iv:=q.iv) (fv:=q.fv) (ev:=q.ev) (cv:=q.cv) od hc hq.1 H2;exact H3.sub (.cons e_1 (.cons e_2 (.cons e_2 (.cons e_1 (.cons .here (.drop .refl))))))
 by_cases DV:(gr x.r (xN x.f)).1=14
 ·rw[iJ DV]at hA;subst hA;refine qk DV (qZ ?_);refine qG (ke omQ (H2.aI e_1)) λ_ h3 H3=>?_;exact uo _ _ (gone H3)
 ·rw[iQ DV]at hA;subst hA;refine qj DV (qJ ?_);refine qG (ke omQ (H2.aI e_1)) λ_ h3 H3=>?_;exact uo _ _ (gone H3)
theorem JI (hn:4≤n) (O:∀c,x.c=some c→zr c) (H:HS g h (aE a x::R)):aA n 63 [.ptr a 0] h λr h'=>r=.bool (zm x)∧HS g h' (aE a x::R):=by
 refine aB (S:=S63) rfl omQ λk hk=>?_;unfold S63;try simp only[iZ]
 obtain⟨q,H1⟩:=aE.E H;refine qK (qQ (qX H1 (b:=a) .here rfl ?_));unfold zm;by_cases c8:x.state=8
 ·rw[iV (λh=>h c8),Bool.false_and];refine jJ c8 ?_;refine qW ?_;(try dsimp only);refine qS ?_;(try dsimp only);refine qF (qW ?_);(try dsimp only);refine qS ?_;(try dsimp only);refine qW ?_;(try dsimp only);refine zF ?_;(try dsimp only);refine qW ?_;(try dsimp only);refine qS ?_;(try dsimp only);refine qF ?_
  exact qY ⟨rfl,H⟩
 rw[iG (show x.state≠8 from c8),Bool.true_and];refine jQ c8 ?_;cases hc:x.c with
 |none=>
  obtain⟨e,H2⟩:=aO.Cw hc (H1.aI e_4);refine qW ?_;(try dsimp only);refine qR ?_;(try dsimp only);refine qK (qQ (qX ‹_› .here rfl ?_))
  rw[e];refine Nc (qC (qW ?_));(try dsimp only);refine qS ?_;(try dsimp only);refine qW ?_;(try dsimp only);refine zF ?_;(try dsimp only);refine qW ?_;(try dsimp only);refine qS ?_;(try dsimp only);refine qF ?_
  exact qY ⟨rfl,H⟩
 |some c=>
  obtain⟨b,e,H2⟩:=aO.l7 hc (H1.aI e_4);refine qW ?_;(try dsimp only);refine qR ?_;(try dsimp only);refine qK (qQ (qX ‹_› e_1 rfl ?_))
  rw[e.1];refine G5 (qC (qW ?_));(try dsimp only);refine qR ?_;(try dsimp only);refine qK (qQ (qX ‹_› e_1 rfl ?_))
  rw[e.1];refine qG (OF omQ H2) ?_;rintro _ _ ⟨rfl,rfl⟩;cases hw:Q5 c with
  |true=>
   refine qW ?_;(try dsimp only);refine jZ ?_;(try dsimp only);refine qW ?_;(try dsimp only);refine qR ?_;(try dsimp only);refine qC (qC ?_)
   exact qY ⟨rfl,H⟩
  |false=>
   refine qW ?_;(try dsimp only);refine qc ?_;(try dsimp only);refine qK (qQ (qX ‹_› e_1 rfl ?_))
   rw[e.1];refine qG (G3 omQ H2) ?_;rintro _ _ ⟨rfl,rfl⟩;by_cases c2:c.p.fin=2
   ·refine qk c2 ?_;rw[iG c2];refine qW ?_;(try dsimp only);refine qR ?_;(try dsimp only);refine qF (qC ?_)
    exact qY ⟨rfl,H⟩
   ·refine qj c2 ?_;rw[iV c2];refine qW ?_;(try dsimp only);refine qR ?_;(try dsimp only);refine qF (qC ?_)
    exact qY ⟨rfl,H⟩
theorem qVD (hn:22≤n) (O:ze x) (h3:3≤x.state) (h6:x.state≤6) (H:HS g h (aE a x::R)):aA n 116 [.ptr a 0] h λ_ h'=>HS g h' (aE a (zQ x)::R):=by
 refine aB (S:=S116) rfl omQ λk hk=>?_;unfold S116;try simp only[iZ]
 obtain⟨q,H1⟩:=aE.E H;clear H;generalize hA:zQ x=A;unfold zQ at hA;refine qK (qQ (qX H1 (b:=a) .here rfl ?_));refine jm [] (λ_ h'=>HS g h' (aE a A::R)) (λj hj=>?_) λ_ h' H'=>qx (qY H');by_cases c3:x.state=3
 ·rw[iJ c3]at hA;subst hA;refine qk c3 (qZ ?_);obtain⟨b,e,H2⟩:=aO.pX c3 (O.c0 omQ) (H1.aI e_4);refine qG (N0 (q:=q) (R:=R) omQ O.b (O.au.same λ_=>by omega) (O.f c3).2 (O.c0 omQ) ⟨e.1,e.2.1⟩ (H2.sub (.cons e_1 (.cons e_1 (.cons e_1 (.cons e_1 (.cons .here .refl))))))) λ_ h3 H3=>hj _ _ H3
 rw[iQ c3]at hA;refine qj c3 (qJ ?_);by_cases c4:x.state=4
 ·rw[iJ c4]at hA;subst hA;refine qk c4 (qZ ?_);have hnd:=O.aC omQ omQ;have iN:=O.aH.ok.hi;obtain⟨b,e,H2⟩:=aO.n6 (.inl c4) (O.c0 omQ) (H1.aI e_4);obtain⟨sv,H3⟩:=b5.E H2;refine qK (qQ (qX H1 (b:=a) .here (x:=.ptr b 0) (by rw[← e.2.1];rfl) ?_));refine qG (U9 omQ H3 .here) ?_;rintro _ _ ⟨rfl,rfl⟩;refine qK (qQ ?_);refine qw H2 (b:=a) e_1 ⟨rfl,rfl⟩ (by simp[zu]) λh4 H4=>?_;have H4:HS g h4 (qy a (zu { x with af:=yr x.e } q)::b5 b x.e::cd q.vb x.au q.rv q.bv q.gv::ab q.vb x.v::bX q.db x.r::R):=H4;refine qK (qQ (qX H4 (b:=a) .here rfl ?_));refine qG (Ua omQ (H4.aI (P:=ab q.vb x.v) e_3)) ?_;rintro _ _ ⟨rfl,rfl⟩;refine qG (PC omQ omQ H4) ?_;rintro _ h5 ⟨b',H5⟩;refine hj _ _ (aE.I (q:={ q with iv:=.iface 144 (.ptr b' 0),fv:=.ptr b' 0 }) ?_);have H6:=aO.sf (st:=3) (e:=x.e) (ev:=q.ev) (c:=x.c) (cv:=q.cv) rfl (O.c0 omQ) ⟨e.1,rfl,rfl⟩ H5;exact H6.sub (.cons e_1 (.cons e_2 (.cons e_2 (.cons e_2 (.cons .here (.drop .refl))))))
 rw[iQ c4]at hA;refine qj c4 (qJ ?_);by_cases c5:x.state=5
 ·rw[iJ c5]at hA;subst hA;refine qk c5 (qZ ?_);obtain⟨b,e,H2⟩:=aO.n6 (.inr c5) (O.c0 omQ) (H1.aI e_4);obtain⟨sv,H3⟩:=b5.E H2;refine qK (qQ (qX H1 (b:=a) .here (x:=.ptr b 0) (by rw[← e.2.1];rfl) ?_));refine qG (U9 omQ H3 .here) ?_;rintro _ _ ⟨rfl,rfl⟩;refine qK (qQ ?_);refine qw H2 (b:=a) e_1 ⟨rfl,rfl⟩ (by simp[zu]) λh4 H4=>?_;have H4:HS g h4 (qy a (zu { x with af:=yr x.e } q)::b5 b x.e::cd q.vb x.au q.rv q.bv q.gv::ab q.vb x.v::bX q.db x.r::R):=H4;refine qG (ke omQ H4) λ_ h5 H5=>?_;refine hj _ _ (aE.I (q:=q) ?_);have H6:=aO.te (st:=7) (f:=x.f) (e:=x.e) (c:=x.c) (iv:=q.iv) (fv:=q.fv) (ev:=q.ev) (cv:=q.cv) od (O.c0 omQ) e.1 H5;exact H6.sub (.cons e_1 (.cons e_2 (.cons e_2 (.cons e_2 (.cons .here (.drop .refl))))))
 rw[iQ c5]at hA;refine qj c5 (qJ ?_);have c6:x.state=6:=by omega
 refine qk c6 (qZ ?_)
 split at hA
 ·rename_i c hc;subst hA;obtain⟨b,e,H2⟩:=aO.l7 hc (H1.aI e_4);refine qW ?_
  try dsimp only
  refine qK (qQ (qX H1 (b:=a) .here (x:=.ptr b 0) (by rw[← e.1];rfl) ?_));refine qG (G3 omQ H2) ?_;rintro _ _ ⟨rfl,rfl⟩;refine qK (qQ (qX H1 (b:=a) .here (x:=.ptr b 0) (by rw[← e.1];rfl) ?_));refine qG (qjI omQ H2) ?_;rintro _ _ ⟨rfl,rfl⟩;refine qG (ke omQ (H2.aI e_1)) λ_ h5 H5=>?_;refine qb H1 .here (x:=.ptr b 0) (by rw[← e.1];rfl) H1 .here (by rw[← e.1];rfl) (HS.lt H1 .here) ?_;refine hj _ _ (aE.I (q:=q) ?_);have H6:=aO.pY (st:=7) (f:=x.f) (e:=x.e) (iv:=q.iv) (fv:=q.fv) (ev:=q.ev) (b:=b) hc ⟨e.1,λh=>by cases h⟩ (H5.aI (P:=ay b c) e_1);exact H6.sub (.cons e_1 (.cons e_1 (.cons e_1 (.cons e_1 (.cons .here .refl)))))
 ·rename_i hc;exact absurd hc (O.c6 c6)
end
end
section
variable {g h:AH} {L R:List SP}
section
variable {n a:Nat} {x:q9} {q:OT}
theorem aO.out {st st':Int} {f:kK} {e:Qv} {c:Option zL} {iv fv ev cv:AV} (h7:st'=7∨st'=8) (H:HS g h (aO st f e c iv fv ev cv::R)):HS g h (aO st' f e c iv fv ev cv::R):=by
 cases c with
 |none=>obtain⟨q,H⟩:=aO.Cw rfl H;exact aO.te omQ rfl q H
 |some d=>obtain⟨b,q,H⟩:=aO.l7 rfl H;exact aO.pY rfl ⟨q.1,λh=>by omega⟩ H
theorem Kd (hn:24≤n) (O:ze x) (h3:3≤x.state) (h6:x.state≤6) (H:HS g h (aE a x::R)):aA n 82 [.ptr a 0] h λ_ h'=>HS g h' (aE a (jN x)::R):=by
 (refine qA (g:=W82) rfl omQ λk hk=>?_;show wp (S82 (callT tab qz k) _ _) _;unfold S82;try simp only[iI,uU,iZ])
 obtain⟨q,H1⟩:=aE.E H;have fin:∀{K2:AV→AH→Go.Ae.R} {Q:AV→AH→Prop},wp (K2 (.int .i64 (jn x).1) h) Q→wp (yz (callT tab qz k) [(98,54),(144,171),(145,176),(146,96),(211,125)] q.iv [] h K2) Q:=λ{K2 Q} w=>by
  unfold jn at w;by_cases c3:x.state=3
  ·rw[iJ c3]at w;obtain⟨b,e,H2⟩:=aO.pX c3 (O.c0 omQ) (H1.aI e_4);rw[e.2.2];refine wR rfl (Gt omQ H2 .here) ?_;rintro _ _ ⟨rfl,rfl⟩;exact w
  ·rw[iQ c3]at w;by_cases c6:x.state=6
   ·rw[iJ c6]at w
    split at w
    ·rename_i c hc;obtain⟨b,e,H2⟩:=aO.l7 hc (H1.aI e_4);rw[e.2 c6];refine wR rfl (G3 omQ H2) ?_;rintro _ _ ⟨rfl,rfl⟩;exact w
    ·rename_i hc;exact absurd hc (O.c6 c6)
   ·rw[iQ c6]at w;obtain⟨b,e,H2⟩:=aO.n6 omQ (O.c0 omQ) (H1.aI e_4);obtain⟨sv,H3⟩:=b5.E H2;rw[e.2.2];refine wR rfl (Pa omQ H3 .here) ?_;rintro _ _ ⟨rfl,rfl⟩;exact w
 have cU:∀{K2:AV→AH→Go.Ae.R} {Q:AV→AH→Prop},wp (K2 (.int .i64 (jn x).2) h) Q→wp (yz (callT tab qz k) [(98,83),(144,362),(145,370),(146,373),(211,365)] q.iv [] h K2) Q:=λ{K2 Q} w=>by
  unfold jn at w;by_cases c3:x.state=3
  ·rw[iJ c3]at w;obtain⟨b,e,H2⟩:=aO.pX c3 (O.c0 omQ) (H1.aI e_4);rw[e.2.2];refine wR rfl (qvT omQ H2 .here) ?_;rintro _ _ ⟨rfl,rfl⟩;exact w
  ·rw[iQ c3]at w;by_cases c6:x.state=6
   ·rw[iJ c6]at w
    split at w
    ·rename_i c hc;obtain⟨b,e,H2⟩:=aO.l7 hc (H1.aI e_4);rw[e.2 c6];refine wR rfl (qv4 omQ H2) ?_;rintro _ _ ⟨rfl,rfl⟩;exact w
    ·rename_i hc;exact absurd hc (O.c6 c6)
   ·rw[iQ c6]at w;obtain⟨b,e,H2⟩:=aO.n6 omQ (O.c0 omQ) (H1.aI e_4);obtain⟨sv,H3⟩:=b5.E H2;rw[e.2.2];refine wR rfl (qvo omQ H3 .here) ?_;rintro _ _ ⟨rfl,rfl⟩;exact w
 refine qK (qQ (qX H1 (b:=a) .here rfl (fin ?_)));have OL:=MV O h3 h6;show wp _ λ_ h'=>HS g h' (aE a (xK (yd x))::R);refine jm [] (λs h'=>s=(.ptr a 0,())∧HS g h' (aE a (yd x)::R)) (λj hj=>?_) ?_
 rotate_left
 ·rintro _ h2 ⟨rfl,H2⟩;dsimp only;refine qG (JI omQ OL.c H2) ?_;rintro _ h3 ⟨rfl,H3⟩;unfold xK;cases hw:zm (yd x)with
  |false=>exact qJ (qx (qY H3))
  |true=>
   refine qZ ?_;have ma:∃c,(yd x).c=some c:=by
    unfold zm at hw;cases hc:(yd x).c with
    |none=>rw[hc]at hw;simp at hw
    |some c=>exact⟨c,rfl⟩
   obtain⟨c,hc⟩:=ma;obtain⟨q2,H4⟩:=aE.E H3;obtain⟨b,e,H5⟩:=aO.l7 hc (H4.aI e_4);refine qK (qQ (qX H4 (b:=a) .here (x:=.ptr b 0) (by rw[← e.1];rfl) ?_));refine qG (qXl omQ (OL.c c hc).now H5) ?_;rintro _ _ ⟨rfl,rfl⟩;refine qK (qQ ?_);refine qw H4 (b:=a) .here ⟨rfl,rfl⟩ (by simp[zu]) λh5 H6=>qx (qY ?_);rw[iJ rfl];have H7:HS g h5 (qy a (zu { yd x with af:=Ys c } q2)::cd q2.vb (yd x).au q2.rv q2.bv q2.gv::ab q2.vb (yd x).v::bX q2.db (yd x).r::aO (yd x).state (yd x).f (yd x).e (yd x).c q2.iv q2.fv q2.ev q2.cv::R):=H6;rw[hc]at H7 ⊢;exact aE.I (q:=q2) H7
 generalize hL:yd x=Y at*;unfold yd at hL;by_cases c0:(jn x).1=0
 ·rw[iJ c0]at hL;subst hL;exact qk c0 (qZ (hj _ _ ⟨rfl,H⟩))
 rw[iQ c0]at hL;refine qj c0 (qJ ?_);by_cases c5:(jn x).1=5
 ·rw[iJ c5]at hL;subst hL;refine qk c5 (qZ ?_);refine qK (qQ (qX H1 (b:=a) .here rfl (cU ?_)));refine qG (ke omQ H1) λ_ h2 H2=>hj _ _ ⟨rfl,aE.I (q:=q) ?_⟩;have H3:=aO.out (st':=7) (.inl rfl) (H2.aI e_4);exact H3.sub (.cons e_1 (.cons e_1 (.cons e_1 (.cons e_1 (.cons .here .refl)))))
 ·rw[iQ c5]at hL;subst hL;refine qj c5 (qJ ?_);exact qG (qVD omQ O h3 h6 H) λ_ h2 H2=>hj _ _ ⟨rfl,H2⟩
theorem qYt {an:cO} (hn:26≤n) (O:ze x) (ha:XH an) (H:HS g h (aE a x::R)):aA n 53 [.ptr a 0,.agg (zt an)] h λ_ h'=>HS g h' (aE a (jY x an)::R):=by
 (refine qA (g:=W53) rfl omQ λk hk=>?_;show wp (S53 (callT tab qz k) _ _ _) _;unfold S53;try simp only[iI,uU,iZ])
 have cP:=O.st;obtain⟨q,H0⟩:=aE.E H;refine qI H0 rfl λb0 h1 H1=>?_;have H1:HS g h1 (qy b0 (zt an)::uE a x q R):=H1;clear H H0;generalize hA:jY x an=A;unfold jY at hA;refine qK (qQ (qX H1 (b:=a) e_1 rfl ?_));by_cases c8:x.state=8
 ·rw[iJ c8]at hA;subst hA;exact qk c8 (qZ (qY (aE.I (q:=q) H1.drop)))
 rw[iQ c8]at hA;refine qj c8 (qJ ?_);refine qQ (qX H1 (b:=b0) .here (x:=.int .i64 an.err) rfl ?_);by_cases ce:an.err=0
 rotate_left
 ·rw[iJ ce]at hA;subst hA;refine jQ ce (qZ ?_);refine qQ (qX H1 (b:=b0) .here (x:=.int .i64 an.err) rfl ?_);refine qG (ke omQ (H1.aI e_1)) λ_ h2 H2=>?_;refine qK (qQ ?_);refine qw H2 (b:=a) .here ⟨rfl,rfl⟩ (by simp[zu]) λh3 H3=>qY (aE.I (q:=q) ?_);have H4:=aO.out (st':=8) (.inr rfl) (H3.aI e_5);exact H4.sub (.cons e_1 (.cons e_2 (.cons e_2 (.cons e_2 (.cons .here (.drop .refl))))))
 rw[iQ (λh=>h ce)]at hA;refine jJ ce (qJ ?_);refine qK (qQ (qX H1 (b:=a) e_1 rfl ?_));refine jm [] (λ_ h'=>HS g h' (aE a A::R)) (λj hj=>?_) λ_ h' H'=>qx (qY H');by_cases c0:x.state=0
 ·rw[iJ c0]at hA;subst hA;refine qk c0 (qZ ?_);refine qK (qQ ?_);refine qw H1 (b:=a) e_1 ⟨rfl,rfl⟩ (by simp[zu]) λh2 H2=>hj _ _ (aE.I (q:=q) ?_);obtain⟨e,H3⟩:=aO.Cw (O.c0 omQ) (H2.aI e_5);have H4:=aO.te (st:=1) (f:=x.f) (e:=x.e) (c:=x.c) (iv:=q.iv) (fv:=q.fv) (ev:=q.ev) od (O.c0 omQ) e H3;exact H4.sub (.cons e_1 (.cons e_2 (.cons e_2 (.cons e_2 (.cons .here (.drop .refl))))))
 rw[iQ c0]at hA;refine qj c0 (qJ ?_);by_cases c1:x.state=1
 ·rw[iJ c1]at hA;subst hA;refine qk c1 (qZ ?_);refine qW ?_
  try dsimp only
  refine qQ (qX H1 (b:=b0) .here (x:=.int .u64 an.word) rfl ?_);refine qQ (qX H1 (b:=b0) .here (x:=.int .u64 an.word) rfl ?_);refine qK (qQ ?_);refine qw H1 (b:=a) e_1 ⟨rfl,rfl⟩ (by simp[zu]) λh2 H2=>?_;refine qK (qQ ?_);refine qw H2 (b:=a) .here ⟨rfl,rfl⟩ (by simp[zu]) λh3 H3=>?_;refine qK (qQ ?_);refine qw H3 (b:=a) .here ⟨rfl,rfl⟩ (by simp[zu]) λh4 H4=>?_;refine qb H2 e_1 rfl H3 e_1 rfl (HS.lt H1 .here) ?_;refine qb H1 .here rfl H2 e_1 rfl (HS.lt H1 .here) ?_;refine qb H1 .here rfl H2 e_1 rfl (HS.lt H1 .here) ?_;refine qK (qQ ?_);refine qw H4 (b:=a) .here ⟨rfl,rfl⟩ (by simp[zu]) λh5 H5=>hj _ _ (aE.I (q:=q) ?_);obtain⟨e,H6⟩:=aO.Cw (O.c0 omQ) (H5.aI e_5);have H7:=aO.te (st:=2) (f:=x.f) (e:=x.e) (c:=x.c) (iv:=q.iv) (fv:=q.fv) (ev:=q.ev) od (O.c0 omQ) e H6;exact H7.sub (.cons e_1 (.cons e_2 (.cons e_2 (.cons e_2 (.cons .here (.drop .refl))))))
 rw[iQ c1]at hA;refine qj c1 (qJ ?_);by_cases c2:x.state=2
 ·rw[iJ c2]at hA;subst hA;refine qk c2 (qZ ?_);obtain⟨e,H3⟩:=aO.Cw (O.c0 omQ) (H1.aI e_5);exact qG (O3 (q:=q) (R:=R) omQ O.b (O.au.same λ_=>by omega) (O.c0 omQ) e (H3.sub (.cons e_1 (.cons e_1 (.cons e_1 (.cons e_1 (.drop .refl))))))) λ_ h4 H4=>hj _ _ H4
 rw[iQ c2]at hA;refine qj c2 (qJ ?_);by_cases c7:x.state=7
 ·rw[iJ c7]at hA;subst hA;refine qk c7 (qZ ?_);refine qK (qQ ?_);refine qw H1 (b:=a) e_1 ⟨rfl,rfl⟩ (by simp[zu]) λh2 H2=>hj _ _ (aE.I (q:=q) ?_);have H3:=aO.out (st':=8) (.inr rfl) (H2.aI e_5);exact H3.sub (.cons e_1 (.cons e_2 (.cons e_2 (.cons e_2 (.cons .here (.drop .refl))))))
 rw[iQ c7]at hA;refine qj c7 (qJ ?_);refine qK (qQ (qX H1 (b:=a) e_1 rfl ?_));refine qE H1 (b:=b0) (off:=0) .here rfl omQ (l:=zt an) rfl ?_;have Ap:∀{y:q9},y.state=x.state→3≤y.state∧y.state≤6:=λh=>by omega
 by_cases c3:x.state=3
 ·rw[iJ c3]at hA;subst hA;obtain⟨b,e,H2⟩:=aO.pX c3 (O.c0 omQ) (H1.aI e_5);rw[e.2.2];refine wR rfl (qGt (a:=an) omQ (O.f c3).1 H2) λ_ h3 H3=>?_;have H4:=aO.sf (st:=x.state) (e:=x.e) (ev:=q.ev) c3 (O.c0 omQ) e H3;have O':ze { x with f:=xY x.f an }:=⟨O.set,O.aH,O.sz,O.fr,O.r,O.au,O.st,λh=>⟨Xm (O.f h).1,Gg (O.f h).2 ha⟩,O.aC,O.e,O.c,O.c0,O.c6⟩;exact qG (Kd (x:={ x with f:=xY x.f an }) omQ O' (Ap rfl).1 (Ap rfl).2 (aE.I (q:=q) (H4.sub (.cons e_2 (.cons e_2 (.cons e_2 (.cons e_2 (.cons .here (.drop .refl))))))))) λ_ h5 H5=>hj _ _ H5
 rw[iQ c3]at hA;by_cases c6:x.state=6
 ·rw[iJ c6]at hA;subst hA;cases hc:x.c with
  |none=>exact absurd hc (O.c6 c6)
  |some c=>obtain⟨b,e,H2⟩:=aO.l7 hc (H1.aI e_5);rw[e.2 c6];have Oc:=O.c c hc;refine wR rfl (qq5 (a:=an) omQ Oc H2) λ_ h3 H3=>?_;have H4:=aO.pY (st:=x.state) (f:=x.f) (e:=x.e) (fv:=q.fv) (ev:=q.ev) (c:=some (xL c an)) rfl e H3;have O':ze { x with c:=some (xL c an) }:=⟨O.set,O.aH,O.sz,O.fr,O.r,O.au,O.st,O.f,O.aC,O.e,λc' h=>by cases h;exact Gy Oc ha,λh=>absurd h (by show¬x.state≤5;omega),λ_ h=>by cases h⟩;rw[hc]at hj;exact qG (Kd (x:={ x with c:=some (xL c an) }) omQ O' (Ap rfl).1 (Ap rfl).2 (aE.I (q:=q) (H4.sub (.cons e_2 (.cons e_2 (.cons e_2 (.cons e_2 (.cons .here (.drop .refl))))))))) λ_ h5 H5=>hj _ _ H5
 rw[iQ c6]at hA;subst hA;obtain⟨b,e,H2⟩:=aO.n6 omQ (O.c0 omQ) (H1.aI e_5);rw[e.2.2];refine wR rfl (qG6 (a:=an) omQ (O.e omQ omQ) H2) λ_ h3 H3=>?_;have H4:=aO.sg (st:=x.state) (f:=x.f) (fv:=q.fv) omQ (O.c0 omQ) e H3;have O':ze { x with e:=xO x.e an }:=⟨O.set,O.aH,O.sz,O.fr,O.r,O.au,O.st,O.f,O.aC,λh1 h2=>X7 (O.e h1 h2),O.c,O.c0,O.c6⟩;exact qG (Kd (x:={ x with e:=xO x.e an }) omQ O' (Ap rfl).1 (Ap rfl).2 (aE.I (q:=q) (H4.sub (.cons e_2 (.cons e_2 (.cons e_2 (.cons e_2 (.cons .here (.drop .refl))))))))) λ_ h5 H5=>hj _ _ H5
theorem qWl (hn:4≤n) (O:ze x) (H:HS g h (aE a x::R)):aA n 50 [.ptr a 0] h λr h'=>r=rC (jC x)∧HS g h' (aE a x::R):=by
 (refine qA (g:=W50) rfl omQ λk hk=>?_;show wp (S50 (callT tab qz k) _ _) _;unfold S50;try simp only[iI,uU,iZ])
 have cP:=O.st;obtain⟨q,H0⟩:=aE.E H;refine qI H0 rfl λb0 h1 H1=>?_;clear H H0;refine qK (qQ (qX H1 (b:=a) e_1 rfl ?_));unfold jC;have uF:∀{o:dF} {h':AH},HS g h' (qy b0 (x8 o)::uE a x q R)→wp (zc h' (.ptr b0 0) 10 λv=>some (.bJ [v,.bool true],h')) λr h'=>r=rC (some o)∧HS g h' (aE a x::R):=λ{o h'} H'=>by
  refine qE H' (b:=b0) (off:=0) .here rfl omQ (l:=x8 o) rfl ?_;exact qY ⟨rfl,aE.I (q:=q) H'.drop⟩
 by_cases c0:x.state=0
 ·rw[iJ c0];refine qk c0 (qZ ?_);refine qK (qQ (qX H1 (b:=a) e_1 rfl ?_));refine qL (l:=x8 (bi 9 x.me 1)) rfl ?_;exact qd H1 (b:=b0) .here rfl (by show 0+10≤10;omega) rfl λh3 H3=>uF H3
 rw[iQ c0];refine qj c0 (qJ ?_);by_cases c1:x.state=1
 ·rw[iJ c1];refine qk c1 (qZ ?_);refine qL (l:=x8 (bi 6 0 0)) rfl ?_;exact qd H1 (b:=b0) .here rfl (by show 0+10≤10;omega) rfl λh3 H3=>uF H3
 rw[iQ c1];refine qj c1 (qJ ?_);by_cases c2:x.state=2
 ·rw[iJ c2];refine qk c2 (qZ ?_);refine qK (qQ (qX H1 (b:=a) e_1 rfl ?_));refine qK (qQ (qX H1 (b:=a) e_1 rfl ?_));refine NU (qL (l:=x8 (bi 9 x.me (zg .u64 (x.af+1)))) rfl ?_);exact qd H1 (b:=b0) .here rfl (by show 0+10≤10;omega) rfl λh3 H3=>uF H3
 rw[iQ c2];refine qj c2 (qJ ?_);by_cases c7:x.state=7
 ·rw[iJ c7];refine qk c7 (qZ ?_);refine qK (qQ (qX H1 (b:=a) e_1 rfl ?_));refine qL (l:=x8 (bi 9 x.me 0)) rfl ?_;exact qd H1 (b:=b0) .here rfl (by show 0+10≤10;omega) rfl λh3 H3=>uF H3
 rw[iQ c7];refine qj c7 (qJ ?_);by_cases c8:x.state=8
 ·rw[iJ c8];refine qk c8 (qZ ?_);refine qL (l:=x8 (bi 0 0 0)) rfl ?_;refine qd H1 (b:=b0) .here rfl (by show 0+10≤10;omega) rfl λh3 H3=>?_;refine qE H3 (b:=b0) (off:=0) .here rfl omQ (l:=x8 (bi 0 0 0)) rfl ?_;exact qY ⟨rfl,aE.I (q:=q) H3.drop⟩
 rw[iQ c8];refine qj c8 (qJ ?_);refine qK (qQ (qX H1 (b:=a) e_1 rfl ?_));have Hi:∀{o:Option dF} {h':AH},HS g h' (qy b0 (x8 (bi 0 0 0))::uE a x q R)→wp (xv (rC o) 0 λv=>xv (rC o) 1 λv2=>jU h' (.ptr b0 0) v 10 λh2=>zc h2 (.ptr b0 0) 10 λv3=>some (.bJ [v3,v2],h2)) λr h'=>r=rC o∧HS g h' (aE a x::R):=λ{o h'} H'=>by
  refine qB rfl (qB rfl ?_);refine qd H' (b:=b0) .here rfl (by show 0+10≤10;omega) rfl λh3 H3=>?_;refine qE H3 (b:=b0) (off:=0) .here rfl omQ (l:=x8 (o.getD (bi 0 0 0))) rfl ?_;exact qY ⟨rfl,aE.I (q:=q) H3.drop⟩
 by_cases c3:x.state=3
 ·rw[iJ c3];obtain⟨b,e,H2⟩:=aO.pX c3 (O.c0 omQ) (H1.aI e_5);rw[e.2.2];refine wR rfl (qV6 omQ H2) ?_;rintro _ h3 ⟨rfl,H3⟩;have H4:=aO.sf (st:=x.state) (e:=x.e) (ev:=q.ev) c3 (O.c0 omQ) e H3;exact Hi (H4.sub (.cons e_1 (.cons e_1 (.cons e_1 (.cons e_1 (.cons e_1 (.cons .here .refl)))))))
 rw[iQ c3];by_cases c6:x.state=6
 ·rw[iJ c6];cases hc:x.c with
  |none=>exact absurd hc (O.c6 c6)
  |some c=>obtain⟨b,e,H2⟩:=aO.l7 hc (H1.aI e_5);rw[e.2 c6];refine wR rfl (qGR omQ (O.c c hc) H2) ?_;rintro _ h3 ⟨rfl,H3⟩;have H4:=aO.pY (st:=x.state) (f:=x.f) (e:=x.e) (fv:=q.fv) (ev:=q.ev) hc e H3;exact Hi (H4.sub (.cons e_1 (.cons e_1 (.cons e_1 (.cons e_1 (.cons e_1 (.cons .here .refl)))))))
 rw[iQ c6];obtain⟨b,e,H2⟩:=aO.n6 omQ (O.c0 omQ) (H1.aI e_5);rw[e.2.2];refine wR rfl (qGE omQ (O.e omQ omQ) H2) ?_;rintro _ h3 ⟨rfl,H3⟩;have H4:=aO.sg (st:=x.state) (f:=x.f) (fv:=q.fv) omQ (O.c0 omQ) e H3;exact Hi (H4.sub (.cons e_1 (.cons e_1 (.cons e_1 (.cons e_1 (.cons e_1 (.cons .here .refl)))))))
end
end
section
variable {g h:AH} {L R:List SP}
section
variable {n:Nat} {s S:zK}
abbrev QB (S:zK):List AV:=[.int .i64 S.words,.int .i64 S.ax,.int .i64 S.wide,.int .i64 S.aa,.int .u64 S.start]
abbrev x5 (S:zK):List AV:=[.int .i64 S.words,.int .i64 S.ax,.int .i64 S.wide,.int .i64 S.aa,.int .u64 S.start,.int .i64 S.ao,.int .i64 S.writes,.int .i64 S.fuel]
theorem OX (hn:1≤n) (H:HS g h R):aA n 41 [.agg (QB s)] h λr h'=>r=.agg (QB (jG s))∧HS g h' R:=by
 refine aB (S:=S41) rfl omQ λk hk=>?_;unfold S41;try simp only[iZ]
 refine qI H rfl λb0 h1 H1=>?_;refine qI H1 rfl λb1 h2 H2=>?_;refine qQ (qX H2 (b:=b0) e_1 rfl (zz (zh ?_)));refine qQ (qX H2 (b:=b0) e_1 rfl (zz (zh ?_)));refine qQ (qX H2 (b:=b0) e_1 rfl (zz (zh ?_)));refine qQ (qX H2 (b:=b0) e_1 rfl (zz (zh ?_)));refine qQ (qX H2 (b:=b0) e_1 rfl (zz ?_));refine qL (l:=QB (jG s)) rfl ?_;refine qd H2 (b:=b1) .here rfl (by show 0+5≤5;omega) rfl λh3 H3=>?_;refine qE H3 (b:=b1) (off:=0) .here rfl omQ (l:=QB (jG s)) rfl ?_;exact qY ⟨rfl,H3.drop.drop⟩
theorem Ug (hn:2≤n) (H:HS g h R):aA n 22 [.agg (x5 s)] h λr h'=>r=.agg (x5 (jG s))∧HS g h' R:=by
 refine aB (S:=S22) rfl omQ λk hk=>?_;unfold S22;try simp only[iZ]
 refine qI H rfl λb0 h1 H1=>?_;refine qI H1 rfl λb1 h2 H2=>?_;refine qW ?_
 try dsimp only
 refine qQ (qE H2 (b:=b0) (off:=0) e_1 rfl omQ (l:=QB s) rfl ?_);refine qG (OX omQ H2) ?_;rintro _ h3 ⟨rfl,H3⟩;refine qQ (qX H3 (b:=b0) e_1 rfl (zz (zh ?_)));refine qQ (qX H3 (b:=b0) e_1 rfl (zz (zh ?_)));refine qQ (qX H3 (b:=b0) e_1 rfl (zz (zh ?_)));refine qL (l:=x5 (jG s)) rfl ?_;refine qd H3 (b:=b1) .here rfl (by show 0+8≤8;omega) rfl λh4 H4=>?_;refine qb H2 e_1 rfl H3 e_1 rfl (HS.lt H2 e_1) ?_;refine qb H2 e_1 rfl H3 e_1 rfl (HS.lt H2 e_1) ?_;refine qb H2 e_1 rfl H3 e_1 rfl (HS.lt H2 e_1) ?_;refine qE H4 (b:=b1) (off:=0) .here rfl omQ (l:=x5 (jG s)) rfl ?_;exact qY ⟨rfl,H4.drop.drop⟩
theorem qxL {w:Int} (hn:1≤n) (hw:32≤w∧w≤256) (H:HS g h R):aA n 42 [.int .i64 w] h λr h'=>∃b v,r=.ptr b 0∧HS g h' (qy b [v]::qD 24 1 w.toNat v ((List.replicate w.toNat (0:Int)).map (.int .u64))::R):=by
 refine aB (S:=S42) rfl omQ λk hk=>?_;unfold S42;try simp only[iZ]
 refine zz (zh ?_);rw[show max ((32:Nat):Int) (min w ((256:Nat):Int))=((w.toNat:Nat):Int) by omega];refine JO H omQ λv h1 H1=>?_;rw[show List.replicate w.toNat (AV.int .u64 ((0:Nat):Int))=(List.replicate w.toNat (0:Int)).map (.int .u64) by rw[List.map_replicate];rfl]at H1;have o1:=H1.one .here;refine qL (l:=[v]) (by simp only[xT,o1.1];rfl) ?_;refine qI H1 (by simp only[ql,List.all_cons,o1.2];rfl) λb h2 H2=>qY ⟨b,v,rfl,H2⟩
theorem qj2 {w:Int} (hn:1≤n) (hw:1≤w∧w≤4) (H:HS g h R):aA n 45 [.int .i64 w] h λr h'=>∃b v,r=.ptr b 0∧HS g h' (qy b [v]::qD 24 1 w.toNat v ((List.replicate w.toNat (0:Int)).map (.int .u64))::R):=by
 refine aB (S:=S45) rfl omQ λk hk=>?_;unfold S45;try simp only[iZ]
 refine zz (zh ?_);rw[show max ((1:Nat):Int) (min w ((4:Nat):Int))=((w.toNat:Nat):Int) by omega];refine JO H omQ λv h1 H1=>?_;rw[show List.replicate w.toNat (AV.int .u64 ((0:Nat):Int))=(List.replicate w.toNat (0:Int)).map (.int .u64) by rw[List.map_replicate];rfl]at H1;have o1:=H1.one .here;refine qL (l:=[v]) (by simp only[xT,o1.1];rfl) ?_;refine qI H1 (by simp only[ql,List.all_cons,o1.2];rfl) λb h2 H2=>qY ⟨b,v,rfl,H2⟩
theorem qQH:∀k:Nat,yI [AV.int .u64 ((0:Nat):Int),.bool false,.int .i64 ((0:Nat):Int)] k=(List.replicate k cB).flatMap zW:=by
 intro k
 induction k with
 |zero=>rfl
 |succ k ih=>rw[List.replicate_succ,List.flatMap_cons,← ih];rfl
theorem qkN {w z:Int} (hn:2≤n) (hw:1≤w∧w≤16) (hz:1≤z∧z≤16) (H:HS g h R):aA n 43 [.int .i64 w,.int .i64 z] h λr h'=>∃b v,r=.ptr b 0∧HS g h' (qy b [v,.int .i64 z]::qD 65 3 w.toNat v ((List.replicate w.toNat cB).flatMap zW)::R):=by
 refine ba (S:=S43) rfl omQ λk hk=>?_;unfold S43;try simp only[iZ]
 refine qG (KX omQ) ?_;rintro _ _ ⟨rfl,rfl⟩;rw[show max 1 (min w ((16:Nat):Int))=((w.toNat:Nat):Int) by omega];refine YA (sz:=3) (ln:=w.toNat) (cp:=w.toNat) H rfl (Nat.le_refl _) omQ λv h1 H1=>?_;rw[List.take_of_length_le (by rw[wD];exact Nat.le_refl _),qQH]at H1;refine qG (KX omQ) ?_;rintro _ _ ⟨rfl,rfl⟩;rw[show max 1 (min z ((16:Nat):Int))=z by omega];have o1:=H1.one .here;refine qL (l:=[v,.int .i64 z]) (by simp only[xT,o1.1];rfl) ?_;refine qI H1 (by simp only[ql,List.all_cons,o1.2];rfl) λb h2 H2=>qY ⟨b,v,rfl,H2⟩
theorem qzH {w:Int} (hn:1≤n) (hw:w≤4611686018427387903) (H:HS g h R):aA n 44 [.int .u64 w] h λr h'=>∃b,r=.ptr b 0∧HS g h' (qy b [.int .u64 w]::R):=by
 refine aB (S:=S44) rfl omQ λk hk=>?_;unfold S44;try simp only[iZ]
 refine zz ?_;rw[show min w ((4611686018427387903:Nat):Int)=w by omega];refine qL (l:=[.int .u64 w]) rfl ?_;refine qI H rfl λb h2 H2=>qY ⟨b,rfl,H2⟩
theorem qxP (hn:4≤n) (hs:0≤s.start) (H:HS g h R):aA n 23 [.agg (QB s)] h λr h'=>∃p,r=.ptr p 0∧HS g h' (bQ p (jG s) (yW (jG s))::R):=by
 refine aB (S:=S23) rfl omQ λk hk=>?_;unfold S23;try simp only[iZ]
 have O:=vC hs;refine qI H rfl λb0 h1 H1=>?_;refine qE H1 (b:=b0) (off:=0) .here rfl omQ (l:=QB s) rfl ?_;refine qG (OX omQ H1) ?_;rintro _ h2 ⟨rfl,H2⟩;clear H H1;refine qd H2 (b:=b0) .here rfl (by show 0+5≤5;omega) rfl λh3 H3=>?_;have H3:HS g h3 (qy b0 (QB (jG s))::R):=H3;generalize jG s=S at*;clear H2;refine qW ?_
 try dsimp only
 refine qE H3 (b:=b0) (off:=0) .here rfl omQ (l:=QB S) rfl ?_;refine qQ (qX H3 (b:=b0) .here rfl ?_);refine qG (qxL omQ O.words H3) ?_;rintro _ h4 ⟨hb,wv,rfl,H4⟩;refine qQ (qX H4 (b:=b0) e_2 rfl ?_);refine qQ (qX H4 (b:=b0) e_2 rfl ?_);refine qG (qkN omQ O.ax O.wide H4) ?_;rintro _ h5 ⟨tb,lv,rfl,H5⟩;refine qQ (qX H5 (b:=b0) e_4 rfl ?_);refine qG (qzH omQ O.start.2 H5) ?_;rintro _ h6 ⟨cb,rfl,H6⟩;refine qQ (qX H6 (b:=b0) e_5 rfl ?_);refine qG (qj2 omQ O.aa H6) ?_;rintro _ h7 ⟨sb,sv,rfl,H7⟩;refine qL (l:=[.int .i64 S.words,.int .i64 S.ax,.int .i64 S.wide,.int .i64 S.aa,.int .u64 S.start,.ptr hb 0,.ptr tb 0,.ptr cb 0,.ptr sb 0,.int .i64 0]) rfl ?_;refine qI H7 rfl λp h8 H8=>?_;refine qb H5 e_4 rfl H6 e_5 rfl (HS.lt H3 .here) ?_;refine qb H4 e_2 rfl H5 e_4 rfl (HS.lt H3 .here) ?_;refine qb H3 .here rfl H4 e_2 rfl (HS.lt H3 .here) ?_;refine qb H4 e_2 rfl H5 e_4 rfl (HS.lt H3 .here) ?_;refine qb H3 .here rfl H4 e_2 rfl (HS.lt H3 .here) ?_;refine qb H3 .here rfl H4 e_2 rfl (HS.lt H3 .here) ?_;refine qb H3 .here rfl H4 e_2 rfl (HS.lt H3 .here) ?_;refine zO H6 e_5 rfl H7 e_7 rfl rfl omQ (HS.lt H3 .here) ?_;refine zO H5 e_4 rfl H6 e_5 rfl rfl omQ (HS.lt H3 .here) ?_;refine zO H4 e_2 rfl H5 e_4 rfl rfl omQ (HS.lt H3 .here) ?_;refine zO H3 .here rfl H4 e_2 rfl rfl omQ (HS.lt H3 .here) ?_;refine qY ⟨p,rfl,bQ.I (hb:=hb) (tb:=tb) (cb:=cb) (sb:=sb) (wv:=wv) (lv:=lv) (sv:=sv) ?_⟩;unfold uw yW;dsimp only;simp only[List.length_replicate];exact H8.sub (.cons .here (.cons e_5 (.cons e_5 (.cons e_3 (.cons e_3 (.cons e_2 (.cons .here (.cons .here (.drop .refl)))))))))
theorem U3 {m:Nat} {e:TypeId} {v:AV} {xs:List AV} {R2:List SP} (hn:1≤n) (H:HS g h L) (s:bc L (qD e 1 m v xs) R2) (ha:ql xs=true) (hm:m≤1000000) :
  aA n 98 [v] h λr h'=>HS g h' (qD 3 1 m r xs::L):=by
 refine aB (S:=S98) rfl omQ λk hk=>?_;unfold S98;try simp only[iZ]
 refine Qh H s (λh1 h2=>?_) (qJ ?_)
 ·subst h1 h2;obtain rfl:xs=[]:=iA (by simpa using H.cZ s);exact qZ (qY H.ak)
 ·refine qf (n:=0) (l:=[]) (sz:=1) H rfl rfl rfl rfl λv2 h2 H2=>?_;refine ju H2 (H2.sl (.there s)) omQ omQ ha λv3 h3 H3=>?_;rw[Nat.zero_add,List.nil_append]at H3;exact qY H3
theorem UD {me:Int} (hn:6≤n) (hs:0≤s.start) (H:HS g h R):aA n 107 [.int .i64 me,.agg (x5 s)] h λr h'=>∃a vb db,r=.ptr a 0∧
  HS g h' (qy a (zu (Ou me (jG s) (.aj [] 0)) ⟨.aP,.ak,.cH,.aP,.aP,.aP,0,vb,db⟩)::bX db []::ab vb (U1 (jG s).words (jG s).writes)::R):=by
 refine ba (S:=S107) rfl omQ λk hk=>?_;unfold S107;try simp only[iZ]
 refine qI H rfl λb0 h1 H1=>?_;refine qE H1 (b:=b0) (off:=0) .here rfl omQ (l:=x5 s) rfl ?_;refine qG (Ug omQ H1) ?_;rintro _ h2 ⟨rfl,H2⟩;clear H H1;refine qd H2 (b:=b0) .here rfl (by show 0+8≤8;omega) rfl λh3 H3=>?_;have H3:HS g h3 (qy b0 (x5 (jG s))::R):=H3;generalize jG s=S at*;clear H2;refine qW ?_
 try dsimp only
 refine qE H3 (b:=b0) (off:=0) .here rfl omQ (l:=x5 S) rfl ?_;refine qQ (qh (qX H3 (b:=b0) .here rfl ?_));refine qQ (qX H3 (b:=b0) .here rfl ?_);refine qG (qkD omQ H3) ?_;rintro _ h4 ⟨vb,rfl,H4⟩;refine qG (qz1 omQ H4) ?_;rintro _ h5 ⟨db,rfl,H5⟩;refine qL (l:=zu (Ou me S (.aj [] 0)) ⟨.aP,.ak,.cH,.aP,.aP,.aP,0,vb,db⟩) rfl ?_;refine qI H5 rfl λa h6 H6=>?_;refine zO H4 e_1 rfl H5 e_2 rfl rfl omQ (HS.lt H3 .here) ?_;refine zO H3 .here rfl H4 e_1 rfl rfl omQ (HS.lt H3 .here) ?_;exact qY ⟨a,vb,db,rfl,H6.sub (.cons .here (.cons .here (.cons .here (.drop .refl))))⟩
theorem qj3 {me:Int} {l:List qa} {sv:AV} (hn:10≤n) (hs:0≤s.start) (hc:(xZ l).2=0) (S:Rd g R 5 l.length sv (l.flatMap zD)) (H:HS g h R) :
  aA n 79 [.int .i64 me,.agg (x5 s),.agg [sv]] h λr h'=>∃a,r=.ptr a 0∧HS g h' (aE a (yg me s l)::R):=by
 refine cL (S:=S79) rfl omQ λk hk=>?_;unfold S79;try simp only[iZ]
 have hle:=(M2 hc).le;refine qI H rfl λb0 h1 H1=>?_;refine qI H1 (yl (km (S.sl H))) λb1 h2 H2=>?_;refine qE H2 (b:=b0) (off:=0) e_1 rfl omQ (l:=x5 s) rfl ?_;refine qG (UD omQ hs H2) ?_;rintro _ h3 ⟨a,vb,db,rfl,H3⟩;refine qE H3 (b:=b1) (off:=0) e_3 rfl omQ (l:=[sv]) rfl ?_;refine qK (qQ (qX H3 (b:=a) .here rfl ?_));refine qK (qQ (qh (qX H3 (b:=a) .here rfl ?_)));refine qG (qxp omQ H3 S.more.more.more.more.more omQ) ?_;rintro _ h4 ⟨ib,rfl,H4⟩;refine qK (qQ ?_);refine qw H4 (b:=a) e_1 (x:=.ptr ib 0) ⟨rfl,rfl⟩ (by simp[zu]) λh5 H5=>qY ⟨a,rfl,?_⟩;have hm:KF l=qp l:=by unfold KF;rw[iJ hc]
 rw[hm,hc]at H5;refine aE.I (q:=⟨.ptr ib 0,.ak,.cH,.aP,.aP,.aP,0,vb,db⟩) ?_;have H6:=cd.PI (p:=⟨l,Qc,0,0,XB (jG s).fuel⟩) ⟨rfl,rfl,rfl⟩ (H5.aI e_1);have H7:=aO.te (st:=0) (f:=OR 0 0 0 0 0) (e:=NX 0 0 []) (c:=none) (iv:=.cH) (fv:=.aP) (ev:=.aP) od rfl rfl H6;exact H7.sub (.cons e_2 (.cons e_1 (.cons e_2 (.cons e_1 (.cons .here (.drop (.drop .refl)))))))
theorem qX1 {me:Int} {bs:List Int} {e:TypeId} {sv:AV} {R2:List SP} (hn:8≤n) (hs:0≤s.start) (hb:bs.length≤1000000) (H:HS g h L) (S:bc L (qD e 1 bs.length sv (bs.map (.int .i64))) R2) :
  aA n 78 [.int .i64 me,.agg (x5 s),sv] h λr h'=>∃a,r=.ptr a 0∧HS g h' (aE a (QF me s bs)::L):=by
 refine cL (S:=S78) rfl omQ λk hk=>?_;unfold S78;try simp only[iZ]
 refine qI H rfl λb0 h1 H1=>?_;refine qE H1 (b:=b0) (off:=0) .here rfl omQ (l:=x5 s) rfl ?_;refine qG (UD omQ hs H1) ?_;rintro _ h3 ⟨a,vb,db,rfl,H3⟩;refine qG (U3 omQ H3 (.there (.there (.there (.there S)))) (Nv (λ_=>rfl) _) hb) λbv h4 H4=>?_;have o4:=H4.one .here;refine qK (qQ ?_);refine qw H4 (b:=a) e_1 o4 (by simp[zu]) λh5 H5=>qY ⟨a,rfl,?_⟩;refine aE.I (q:=⟨.aP,bv,.cH,.aP,.aP,.aP,0,vb,db⟩) ?_;have H6:=cd.SI (vb:=vb) (k:=0) (rv:=.aP) (gv:=0) ⟨rfl,rfl⟩ (H5.aI e_1);have H7:=aO.te (st:=0) (f:=OR 0 0 0 0 0) (e:=NX 0 0 []) (c:=none) (iv:=.cH) (fv:=.aP) (ev:=.aP) od rfl rfl H6;exact H7.sub (.cons e_2 (.cons e_1 (.cons e_2 (.cons e_1 (.cons .here (.drop .refl))))))
section
variable {a:Nat} {x:q9} {q:OT}
theorem qY2 (hn:3≤n) (O:ze x) (H:HS g h (aE a x::R)):aA n 58 [.ptr a 0] h λr h'=>HS g h' (qD 111 2 x.r.length r (x.r.flatMap yf)::aE a x::R):=by
 refine aB (S:=S58) rfl omQ λk hk=>?_;unfold S58;try simp only[iZ]
 obtain⟨q,H1⟩:=aE.E H;have hr:=O.r;refine qK (qQ (qX H1 (b:=a) .here rfl ?_));refine qG (NF omQ omQ (H1.aI (P:=bX q.db x.r) e_3)) λv h2 H2=>qY ?_;exact HS.cm e_1 (aE.I (q:=q) (H2.sub (.cons e_2 (.cons e_2 (.cons e_2 (.cons e_1 (.cons e_1 (.cons .here .refl))))))))
theorem qKE (hn:2≤n) (O:ze x) (H:HS g h (aE a x::R)):aA n 99 [.ptr a 0] h λr h'=>HS g h' (qD 163 2 x.v.K.length r (x.v.K.flatMap jT)::aE a x::R):=by
 refine aB (S:=S99) rfl omQ λk hk=>?_;unfold S99;try simp only[iZ]
 obtain⟨q,H1⟩:=aE.E H;refine qK (qQ (qX H1 (b:=a) .here rfl ?_));refine qG (qKe omQ (H1.aI (P:=ab q.vb x.v) e_2) O.aH.ok) λv h2 H2=>qY ?_;exact HS.cm e_1 (aE.I (q:=q) (H2.sub (.cons e_2 (.cons e_2 (.cons e_1 (.cons e_1 (.cons e_1 (.cons .here .refl))))))))
theorem QA (hn:5≤n) (O:ze x) (H:HS g h (aE a x::R)):aA n 118 [.ptr a 0] h λr h'=>r=.bool (zM x)∧HS g h' (aE a x::R):=by
 refine aB (S:=S118) rfl omQ λk hk=>?_;unfold S118;try simp only[iZ]
 obtain⟨q,H1⟩:=aE.E H;refine qG (PA omQ H1 .here) ?_;rintro _ _ ⟨rfl,rfl⟩;unfold zM;by_cases c:jq x=2
 ·refine qk c ?_;rw[iG c];refine qW ?_;(try dsimp only);refine jZ ?_;(try dsimp only);refine qC ?_
  exact qY ⟨rfl,H⟩
 ·refine qj c ?_;rw[iV c];refine qW ?_;(try dsimp only);refine qc ?_;(try dsimp only)
  refine qG (JI omQ O.c H) ?_;rintro _ h2 ⟨rfl,H2⟩;refine qF ?_;exact qY ⟨rfl,H2⟩
theorem MF (hn:1≤n) (H:HS g h L) (s:bc L (qy a (zu x q)) R):aA n 59 [.ptr a 0] h λr h'=>r=.bool (zx x)∧h'=h:=by
 refine aB (S:=S59) rfl omQ λk hk=>?_;unfold S59;try simp only[iZ]
 refine qK (qQ (qX H s rfl ?_));unfold zx;by_cases c:x.state=8
 ·rw[iV (λh=>h c)];refine jJ c ?_;refine qW ?_;(try dsimp only);refine qS ?_;(try dsimp only);refine qF ?_
  exact qY ⟨rfl,rfl⟩
 ·rw[iG (show x.state≠8 from c)];refine jQ c ?_;refine qW ?_;(try dsimp only);refine qR ?_;(try dsimp only);refine qK (qQ ?_)
  refine qX H s rfl ?_;refine qC ?_;exact qY ⟨rfl,rfl⟩
theorem qZ7 (hn:11≤n) (O:ze x) (H:HS g h (aE a x::R)):aA n 100 [.ptr a 0] h λr h'=>HS g h' (qD 163 2 (YM x).length r ((YM x).flatMap jT)::aE a x::R):=by
 refine aB (S:=S100) rfl omQ λk hk=>?_;unfold S100;try simp only[iZ]
 refine qG (QA omQ O H) ?_;rintro _ h1 ⟨rfl,H1⟩;unfold YM;cases hc:zM x with
 |false=>exact jF (qZ (qY H1.ak))
 |true=>refine jA (qJ ?_);obtain⟨q,H2⟩:=aE.E H1;refine qK (qQ (qX H2 (b:=a) .here rfl ?_));refine qG (VL omQ (H2.aI (P:=ab q.vb x.v) e_2) O.aH.ok) λv h3 H3=>qY ?_;exact HS.cm e_1 (aE.I (q:=q) (H3.sub (.cons e_2 (.cons e_2 (.cons e_1 (.cons e_1 (.cons e_1 (.cons .here .refl))))))))
theorem Ve (hn:6≤n) (O:ze x) (H:HS g h (aE a x::R)):aA n 90 [.ptr a 0] h λr h'=>∃e,HS g h' (qD e 1 (zJ x).length r ((zJ x).map (.int .i64))::aE a x::R):=by
 refine aB (S:=S90) rfl omQ λk hk=>?_;unfold S90;try simp only[iZ]
 refine qG (QA omQ O H) ?_;rintro _ h1 ⟨rfl,H1⟩;unfold zJ;cases hc:zM x with
 |false=>exact jF (qZ (qY ⟨3,H1.ak⟩))
 |true=>
  refine jA (qJ ?_);rw[iJ rfl];obtain⟨q,H2⟩:=aE.E H1;have hj:=O.au;cases hx:x.au with
  |aj bs k=>rw[hx]at hj;obtain⟨e,H3⟩:=cd.S (by rw[← hx];exact H2.aI e_1);have FR:=hj.2;refine qK (qQ (qX H2 (b:=a) .here (x:=.aP) (by rw[← e.1];rfl) ?_));refine Ui (qZ ?_);refine qK (qQ (qX H2 (b:=a) .here rfl ?_));refine qG (U3 omQ H3 .here (Nv (λ_=>rfl) _) omQ) λv h4 H4=>qY ⟨3,?_⟩;have H5:=cd.SI (vb:=q.vb) (k:=k) e (H4.aI e_1);rw[← hx]at H5;exact HS.cm e_1 (aE.I (q:=q) (H5.sub (.cons e_2 (.cons .here (.cons e_1 (.cons e_1 (.cons e_1 (.cons .here .refl))))))))
  |prog p=>obtain⟨ib,nx,e,H3⟩:=cd.P (by rw[← hx];exact H2.aI e_1);refine qK (qQ (qX H2 (b:=a) .here (x:=.ptr ib 0) (by rw[← e.1];rfl) ?_));refine Gr (qJ ?_);refine qK (qQ (qX H2 (b:=a) .here rfl ?_));refine qG (qXb omQ (H2.aI (P:=ab q.vb x.v) e_2) O.aH.ok) λv h4 H4=>qY ⟨3,?_⟩;exact HS.cm e_1 (aE.I (q:=q) (H4.sub (.cons e_2 (.cons e_2 (.cons e_1 (.cons e_1 (.cons e_1 (.cons .here .refl))))))))
theorem VY (hn:8≤n) (O:ze x) (H:HS g h (aE a x::R)):aA n 87 [.ptr a 0] h λr h'=>r=.str (zG x)∧HS g h' (aE a x::R):=by
 refine aB (S:=S87) rfl omQ λk hk=>?_;unfold S87;try simp only[iZ]
 refine qG (QA omQ O H) ?_;rintro _ h1 ⟨rfl,H1⟩;unfold zG;cases hc:zM x with
 |false=>
  refine jF (qW ?_);(try dsimp only);refine jZ ?_;(try dsimp only);refine qC (qZ ?_)
  exact qY ⟨rfl,H1⟩
 |true=>
  refine jA ?_;rw[iJ rfl];obtain⟨q,H2⟩:=aE.E H1;have hj:=O.au;cases hx:x.au with
  |aj bs k=>
   obtain⟨e,H3⟩:=cd.S (by rw[← hx];exact H2.aI e_1);refine qW ?_;(try dsimp only);refine qc ?_;(try dsimp only);refine qK (qQ (qX ‹_› e_1 rfl ?_))
   rw[e.1];refine Ui (qF (qZ ?_));exact qY ⟨rfl,H1⟩
  |prog p=>
   rw[hx]at hj;obtain⟨ib,nx,e,H3⟩:=cd.P (by rw[← hx];exact H2.aI e_1);refine qW ?_;(try dsimp only);refine qc ?_;(try dsimp only);refine qK (qQ (qX ‹_› e_1 rfl ?_))
   rw[e.1];refine Gr (qF (qJ (qK (qQ (qX ‹_› e_1 rfl ?_)))));rw[e.1];have ho:=hj.2.2.1.out;refine qG (qKP omQ H3 ho) ?_;rintro _ h4 ⟨o,rfl,H4⟩;refine qG (qxf omQ H4 omQ hj.2.2.1.its) ?_;rintro _ h5 ⟨rfl,H5⟩;refine qY ⟨rfl,aE.I (q:=q) ?_⟩;have H6:=cd.PI (p:=p) e H5.drop;rw[← hx]at H6;exact H6.sub (.cons e_1 (.cons .here (.cons .here (.cons .here (.cons .here .refl)))))
end
end
end
section
variable {g h:AH} {L R:List SP}
def dc (b:Nat) (r:List KG):SP:=.ex λsv=>.all [qy b [sv],qD 150 2 r.length sv (r.flatMap jT)]
section
variable {n b:Nat} {r:List KG}
theorem dc.E (H:HS g h (dc b r::R)):∃sv,HS g h (qy b [sv]::qD 150 2 r.length sv (r.flatMap jT)::R):=by obtain⟨sv,H⟩:=H.dU;exact⟨sv,H.cq⟩
theorem dc.I {sv:AV} (H:HS g h (qy b [sv]::qD 150 2 r.length sv (r.flatMap jT)::R)):HS g h (dc b r::R):=HS.en sv H.allI
theorem qX5 (hn:1≤n) (H:HS g h R):aA n 47 [] h λv h'=>∃b,v=.ptr b 0∧HS g h' (dc b []::R):=by
 refine ud (S:=S47) rfl omQ λk hk=>?_;unfold S47;try simp only[iZ]
 refine qL (l:=[.ak]) rfl ?_;refine qI H rfl λb h1 H1=>?_;refine qY ⟨b,rfl,dc.I (sv:=.ak) ?_⟩;exact H1.ak.sub (.cons e_1 (.cons .here .refl))
theorem qK0 (hn:1≤n) (H:HS g h (dc b r::R)):aA n 122 [.ptr b 0] h λv h'=>v=.int .i64 (r.length:Int)∧h'=h:=by
 refine aB (S:=S122) rfl omQ λk hk=>?_;unfold S122;try simp only[iZ]
 obtain⟨sv,H1⟩:=dc.E H;refine qK (qQ (qX H1 (b:=b) .here rfl ?_));refine qm H1 e_1 ?_;exact qY ⟨rfl,rfl⟩
theorem VK {z:Int} {bs:List Int} {bv:AV} (hn:1≤n) (hr:r.length+bs.length≤1000000) (H:HS g h (dc b r::R)) (S:Rd g R 1 bs.length bv (bs.map (.int .i64))) :
  aA n 89 [.ptr b 0,.int .u64 z,bv] h λ_ h'=>HS g h' (dc b (r++bs.map λq=>(q,z))::R):=by
 refine cL (S:=S89) rfl omQ λk hk=>?_;unfold S89;try simp only[iZ]
 refine xS (S.more.sl H) ?_;refine jR (λc s h'=>∃i:Nat,s=(.int .i64 (i:Int),.int .i64 (bs.length:Int),bv,.int .u64 z,.ptr b 0,())∧i≤bs.length∧c=bs.length-i∧HS g h' (dc b (r++(bs.take i).map λq=>(q,z))::R))
  ?_ (m:=bs.length) (by show _<1000000000;omega) ⟨0,rfl,Nat.zero_le _,rfl,by rw[List.take_zero,List.map_nil,List.append_nil];exact H⟩
 clear H;rintro c ih s h1 bF ⟨i,rfl,hi,rfl,H⟩;dsimp only;by_cases ap:i<bs.length
 ·refine jH omQ (qZ ?_);refine jb (S.more.sl H) (PB ap) ?_;obtain⟨sv,H1⟩:=dc.E H;refine qK (qQ (qX H1 (b:=b) .here rfl ?_));refine qL (l:=jT (bs[i],z)) rfl ?_;refine qf (n:=1) (l:=jT (bs[i],z)) (sz:=2) H1 rfl rfl rfl rfl λv2 h2 H2=>?_;refine ju (H2.aI e_2) (H2.sl .here) omQ (by rw[List.length_append,List.length_map,List.length_take];omega) rfl λv3 h3 H3=>?_;have o3:=H3.one .here;refine qK (qQ ?_);refine qw H3 (b:=b) e_2 o3 aN λh4 H4=>?_;refine qU omQ ?_;refine bF (bs.length-(i+1)) _ _ omQ ⟨i+1,rfl,by omega,rfl,dc.I (sv:=v3) ?_⟩;have er:r++(bs.take (i+1)).map (λq=>(q,z))=(r++(bs.take i).map λq=>(q,z))++[(bs[i],z)]:=by rw[List.take_add_one,iW ap,List.append_assoc,List.map_append];rfl
  rw[er,List.length_append,List.flatMap_append];exact H4.sub (.cons .here (.cons .here (.drop .refl)))
 ·obtain rfl:i=bs.length:=by omega
  refine jz omQ (qJ (qx (qY ?_)));rw[List.take_length]at H;exact H
theorem qZe {sl:List Int} {v:AV} {z:Int} (hn:1≤n) (hl:sl.length≤1000) (S:Sl (λ_=>True) h 1 sl.length v (sl.map (.int .u64))) :
  aA n 150 [v,.int .u64 z] h λr h'=>r=.bool (jX sl z)∧h'=h:=by
 refine ba (S:=S150) rfl omQ λk hk=>?_;unfold S150;try simp only[iZ]
 refine xS S ?_;refine jR (λc s h'=>∃i:Nat,s=(.int .i64 (i:Int),.int .i64 (sl.length:Int),v,.int .u64 z,())∧i≤sl.length∧c=sl.length-i∧h'=h∧jX sl z=jX (sl.drop i) z)
  ?_ (m:=sl.length) (by show _<1000000000;omega) ⟨0,rfl,Nat.zero_le _,rfl,rfl,rfl⟩
 rintro c ih s _ bF ⟨i,rfl,hi,rfl,rfl,hp⟩;dsimp only;by_cases ap:i<sl.length
 ·refine jH omQ (qZ ?_);refine jb S (x:=.int .u64 sl[i]) (by rw[List.getElem?_map,iW ap];rfl) ?_;have hd:sl.drop i=sl[i]::sl.drop (i+1):=List.drop_eq_getElem_cons ap;have Cy:jX (sl[i]::sl.drop (i+1)) z=(decide (sl[i]=0∨z<sl[i])&&jX (sl.drop (i+1)) z):=rfl;rw[hd,Cy]at hp;refine qW ?_
  try dsimp only
  by_cases c0:sl[i]=0
  ·refine jJ c0 (qS ?_);refine qF (qJ ?_);refine qU omQ ?_;refine bF (sl.length-(i+1)) _ _ omQ ⟨i+1,rfl,by omega,rfl,rfl,?_⟩;rw[hp,iG (.inl c0),Bool.true_and]
  ·refine jQ c0 (qR ?_);by_cases c1:z<sl[i]
   ·refine Jt omQ (qC (qJ ?_));refine qU omQ ?_;refine bF (sl.length-(i+1)) _ _ omQ ⟨i+1,rfl,by omega,rfl,rfl,?_⟩;rw[hp,iG (.inr c1),Bool.true_and]
   ·refine Qt omQ (qC (qZ (qx (qY ⟨?_,rfl⟩))));rw[hp,iV (λh=>h.elim c0 c1),Bool.false_and]
 ·obtain rfl:i=sl.length:=by omega
  refine jz omQ (qJ (qx (qY ⟨?_,rfl⟩)));rw[hp,List.drop_length];rfl
theorem qzR {sl:List Int} {v:AV} (hn:2≤n) (hl:sl.length≤1000) (hr:r.length≤1000000) (H:HS g h (dc b r::R)) (S:Rd g R 1 sl.length v (sl.map (.int .u64))) :
  aA n 123 [.ptr b 0,v] h λq h'=>
   HS g h' (qD 150 2 (r.filter λx=>jX sl x.2).length q ((r.filter λx=>jX sl x.2).flatMap jT)::dc b (r.filter λx=>!jX sl x.2)::R):=by
 refine ba (S:=S123) rfl omQ λk hk=>?_;unfold S123;try simp only[iZ]
 obtain⟨sv,H1⟩:=dc.E H;clear H;refine qK (qQ (qX H1 (b:=b) .here rfl ?_));refine qm H1 e_1 ?_;have fl:∀(p:KG→Bool) (i:Nat),((r.take i).filter p).length≤r.length:=λp i=>Nat.le_trans (List.length_filter_le ..) (by rw[List.length_take];omega)
 refine jR (λc s h'=>∃(i:Nat) (qv wv:AV),s=(.int .i64 (i:Int),.int .i64 (r.length:Int),sv,wv,qv,v,.ptr b 0,())∧i≤r.length∧c=r.length-i∧
   HS g h' (qD 150 2 ((r.take i).filter λx=>jX sl x.2).length qv (((r.take i).filter λx=>jX sl x.2).flatMap jT)::qD 150 2 ((r.take i).filter λx=>!jX sl x.2).length wv (((r.take i).filter λx=>!jX sl x.2).flatMap jT)::
    qy b [sv]::qD 150 2 r.length sv (r.flatMap jT)::R))
  ?_ (m:=r.length) (by show _<1000000000;omega) ⟨0,.ak,.ak,rfl,Nat.zero_le _,rfl,H1.ak.ak⟩
 clear H1;rintro c ih s h1 bF ⟨i,qv,wv,rfl,hi,rfl,H⟩;dsimp only;by_cases ap:i<r.length
 ·refine jH omQ (qZ ?_)
  refine jm [] (λs h'=>∃(qv wv:AV),s=(.int .i64 (i:Int),.int .i64 (r.length:Int),sv,wv,qv,v,.ptr b 0,())∧
   HS g h' (qD 150 2 ((r.take (i+1)).filter λx=>jX sl x.2).length qv (((r.take (i+1)).filter λx=>jX sl x.2).flatMap jT)::qD 150 2 ((r.take (i+1)).filter λx=>!jX sl x.2).length wv (((r.take (i+1)).filter λx=>!jX sl x.2).flatMap jT)::
    qy b [sv]::qD 150 2 r.length sv (r.flatMap jT)::R)) (λj hj=>?_) ?_
  rotate_left
  ·rintro _ h2 ⟨qv,wv,rfl,H2⟩;dsimp only;refine qU omQ ?_;exact bF (r.length-(i+1)) _ _ omQ ⟨i+1,qv,wv,rfl,by omega,rfl,H2⟩
  refine zS (l:=jT r[i]) (H.sl e_3) ap omQ (gJ (sz:=2) (enc:=jT) (λ_=>rfl) (iW ap)) ?_;refine qI H rfl λb2 h2 H2=>?_;refine qd H2 (b:=b2) .here rfl (by show 0+2≤2;omega) rfl λh3 H3=>?_;refine qQ (qX H3 (b:=b2) .here (x:=.int .u64 r[i].2) rfl ?_);refine qG (qZe (sl:=sl) omQ hl (S.more.more.more.more.more.sl H3)) ?_;rintro _ _ ⟨rfl,rfl⟩;have et:r.take (i+1)=r.take i++[r[i]]:=by rw[List.take_add_one,iW ap];rfl
  have f1:=fl (λx=>jX sl x.2) i;have f2:=fl (λx=>!jX sl x.2) i;cases hp:jX sl r[i].2 with
  |true=>refine qZ (qE H3 (b:=b2) (off:=0) .here rfl omQ (l:=jT r[i]) rfl ?_);refine qf (n:=1) (l:=jT r[i]) (sz:=2) H3 rfl rfl rfl rfl λv2 h4 H4=>?_;refine ju (H4.aI e_2) (H4.sl .here) omQ omQ rfl λv3 h5 H5=>hj _ _ ⟨v3,wv,rfl,?_⟩;rw[et,List.filter_append,List.filter_append,show[r[i]].filter (λx=>jX sl x.2)=[r[i]] by simp[hp],show[r[i]].filter (λx=>!jX sl x.2)=[] by simp[hp],List.append_nil,List.length_append,List.flatMap_append];exact H5.sub (.cons .here (.cons e_2 (.cons e_2 (.cons e_2 (.drop (.drop .refl))))))
  |false=>refine qJ (qE H3 (b:=b2) (off:=0) .here rfl omQ (l:=jT r[i]) rfl ?_);refine qf (n:=1) (l:=jT r[i]) (sz:=2) H3 rfl rfl rfl rfl λv2 h4 H4=>?_;refine ju (H4.aI e_3) (H4.sl .here) omQ omQ rfl λv3 h5 H5=>hj _ _ ⟨qv,v3,rfl,?_⟩;rw[et,List.filter_append,List.filter_append,show[r[i]].filter (λx=>jX sl x.2)=[] by simp[hp],show[r[i]].filter (λx=>!jX sl x.2)=[r[i]] by simp[hp],List.append_nil,List.length_append,List.flatMap_append];exact H5.sub (.cons e_3 (.cons .here (.cons e_2 (.cons e_2 (.drop (.drop .refl))))))
 ·obtain rfl:i=r.length:=by omega
  rw[List.take_length]at H;refine jz omQ (qJ ?_);have o1:=H.one e_1;refine qK (qQ ?_);refine qw H (b:=b) e_2 o1 aN λh2 H2=>qx (qY ?_);have H3:=dc.I (r:=r.filter λx=>!jX sl x.2) (sv:=wv) (H2.sub (.cons .here (.cons e_1 .refl)));exact H3.sub (.cons e_1 (.cons .here (.drop .refl)))
end
end
section
variable {g h:AH} {L R:List SP}
theorem G6 {R:List SP} {P:SP}:∀{A:List SP} {i:Nat},A[i]? =some P→bc (A++R) P (A.eraseIdx i++R):=by
 intro A
 induction A with
 |nil=>intro i h;cases h
 |cons x r ih=>
  intro i h;cases i with
  |zero=>cases h;exact .here
  |succ i=>exact .there (ih (by simpa using h))
def aW (js:List (List qa)) (v:AV):SP:=.ex λvs:List AV=>.all [.fa (vs.length=js.length),qD 29 1 js.length v vs,.all (List.zipWith yy vs js)]
structure Aq where
  rv:AV
  cv:AV
  fe:TypeId
  fv:AV
def Yt (r:Gi) (z:Aq):List AV:=[.int .i64 r.uy,.int .i64 r.au,.int .i64 r.Hc,.bool r.aj,.int .i64 r.kind,.int .i64 r.err,.int .u64 r.cw,.int .u64 r.af,.int .i64 r.born,.int .i64 r.ended,z.rv,z.cv,z.fv,.str r.pQ]
def Mn (r:Gi) (z:Aq):List SP:=[qD 163 2 r.reads.length z.rv (r.reads.flatMap jT),qD 163 2 r.cells.length z.cv (r.cells.flatMap jT),qD z.fe 1 r.np.length z.fv (r.np.map (.int .i64))]
def dV (r:List Gi) (v:AV):SP:=.ex λzs:List (Gi×Aq)=>.all [.fa (zs.map (·.1)=r),qD 116 14 zs.length v (zs.flatMap λz=>Yt z.1 z.2),.all (zs.flatMap λz=>Mn z.1 z.2)]
def Jb (r:Ur):List AV:=[.int .i64 r.kind,.int .i64 r.err,.str r.pQ,.int .u64 r.af]
def ig (x:Option q9) (v:AV):SP:=match x with
 |none=>.fa (v=.aP)
 |some x=>.ex λa:Nat=>.all [.fa (v=.ptr a 0),aE a x]
structure Us where
  jv:AV
  gv:AV
  nv:AV
  pv:AV
  rv:AV
  lb:Nat
  sv:AV
def yv (t:qt) (q:Us):List AV:=[.int .i64 t.me,.int .i64 t.set.words,.int .i64 t.set.ax,.int .i64 t.set.wide,.int .i64 t.set.aa,.int .u64 t.set.start,.int .i64 t.set.ao,.int .i64 t.set.writes,.int .i64 t.set.fuel,
 q.jv,.int .i64 t.au,.int .i64 t.state,.bool t.aj,q.gv,.int .i64 t.ag,.int .i64 t.aD,q.nv,.int .i64 t.born,.bool t.bR,q.pv,q.rv,.ptr q.lb 0,q.sv,.int .i64 t.cU,.int .u64 t.since,.bool t.bj,.int .i64 t.aV]
abbrev Xo (b:Nat) (t:qt) (q:Us) (R:List SP):List SP :=
 qy b (yv t q)::aW t.jobs q.jv::qD 150 2 t.ae.length q.gv (t.ae.flatMap jT)::ig t.now q.nv::dV t.az q.pv::qD 46 4 t.results.length q.rv (t.results.flatMap Jb)::dc q.lb t.ad::qD 24 1 t.ah.length q.sv (t.ah.map (.int .u64))::R
def aF (b:Nat) (t:qt):SP:=.ex λq:Us=>.all (Xo b t q [])
section
variable {n b:Nat} {t:qt} {q:Us}
theorem aF.E (H:HS g h (aF b t::R)):∃q,HS g h (Xo b t q R):=by obtain⟨q,H⟩:=H.dU;exact⟨q,H.cq⟩
theorem aF.I (H:HS g h (Xo b t q R)):HS g h (aF b t::R):=HS.en q (HS.allI (A:=Xo b t q []) H)
theorem ig.E {x:q9} {v:AV} (H:HS g h (ig (some x) v::R)):∃a,v=.ptr a 0∧HS g h (aE a x::R):=by obtain⟨a,H⟩:=(show HS g h (.ex (λa:Nat=>SP.all [.fa (v=.ptr a 0),aE a x])::R)from H).dU;have H:=H.cq.ed;exact⟨a,H.1,H.2⟩
theorem ig.I {x:q9} {a:Nat} (H:HS g h (aE a x::R)):HS g h (ig (some x) (.ptr a 0)::R) :=
 show HS g h (.ex (λa':Nat=>SP.all [.fa (AV.ptr a 0=.ptr a' 0),aE a' x])::R)from HS.en a (HS.allI (A:=[_,_]) (HS.eK rfl H))
theorem aW.E {js:List (List qa)} {v:AV} (H:HS g h (aW js v::R)):∃vs:List AV,vs.length=js.length∧HS g h (qD 29 1 js.length v vs:: .all (List.zipWith yy vs js)::R):=by obtain⟨vs,H⟩:=H.dU;exact⟨vs,H.cq.ed⟩
theorem aW.I {js:List (List qa)} {v:AV} {vs:List AV} (hl:vs.length=js.length) (H:HS g h (qD 29 1 js.length v vs:: .all (List.zipWith yy vs js)::R)):HS g h (aW js v::R) :=
 HS.en vs (HS.allI (A:=[_,_,_]) (HS.eK hl H))
theorem PD {A R:List SP} {P:SP}:bc (A++P::R) P (A++R):=by
 induction A with
 |nil=>exact .here
 |cons x r ih=>exact .there ih
theorem QN (hn:11≤n) (B:ThrB t) (hr:t.ae.length≤1000000) (H:HS g h (aF b t::R)):aA n 51 [.ptr b 0] h λ_ h'=>HS g h' (aF b (jg t)::R):=by
 refine aB (S:=S51) rfl omQ λk hk=>?_;unfold S51;try simp only[iZ]
 obtain⟨q,H0⟩:=aF.E H;clear H;refine qK (qQ (qw H0 (b:=b) .here ⟨rfl,rfl⟩ (by simp[yv]) λh1 H1=>?_));refine qK (qQ (qw H1 (b:=b) .here ⟨rfl,rfl⟩ (by simp[yv]) λh2 H2=>?_))
 let T:qt:={ t with born:=0,bR:=false }
 have H2:HS g h2 (Xo b T q R):=H2;have mz:=kY B.set;refine jm [] (λs h'=>∃(x:q9) (a:Nat),s=(.ptr b 0,())∧jg t={ T with state:=1,now:=some x }∧HS g h' (Xo b { T with now:=some x } { q with nv:=.ptr a 0 } R)) (λj hj=>?_) ?_
 rotate_left
 ·rintro _ h3 ⟨x,a,rfl,e,H3⟩;dsimp only;refine qK (qQ (qw H3 (b:=b) .here ⟨rfl,rfl⟩ (by simp[yv]) λh4 H4=>qx (qY ?_)));rw[e];exact aF.I (q:={ q with nv:=.ptr a 0 }) H4
 have lT:=B.jl;have hjb:=B.au;obtain⟨vs,Cz,H3⟩:=aW.E (js:=t.jobs) (H2.aI (P:=aW T.jobs q.jv) e_1);refine qK (qQ (qX H2 (b:=b) .here rfl ?_));refine qK (qQ (qX H2 (b:=b) .here rfl ?_));refine qm H3 (sz:=1) (n:=t.jobs.length) (v:=q.jv) .here ?_;by_cases c:t.au=(t.jobs.length:Int)
 ·rw[show jg t={ t with born:=0,bR:=false,state:=6,now:=none }from iJ c];refine qk c (qZ ?_);refine qK (qQ ?_);refine qw H2 (b:=b) .here ⟨rfl,rfl⟩ (by simp[yv]) λh4 H4=>?_;refine qK (qQ ?_);refine qw H4 (b:=b) .here ⟨rfl,rfl⟩ (by simp[yv]) λh5 H5=>qY ?_;refine aF.I (q:={ q with nv:=.aP }) ?_;have H6:=(HS.eK (φ:=AV.aP=.aP) rfl H5);exact H6.sub (.cons e_1 (.cons e_1 (.cons e_1 (.cons .here (.drop .refl)))))
 ·refine qj c (qJ ?_);by_cases dP:t.aj=true
  ·refine qK (qQ (qh (qX H2 (b:=b) .here (x:=.bool true) (by rw[← dP];rfl) ?_)));refine qZ (qK (qQ (qh (qX H2 (b:=b) .here rfl ?_))));refine qm H2 (n:=t.ae.length) (v:=q.gv) e_2 ?_;refine jR (λc s h'=>∃(i:Nat) (av:AV),s=(.int .i64 (i:Int),.int .i64 (t.ae.length:Int),q.gv,av,.ptr b 0,())∧i≤t.ae.length∧c=t.ae.length-i∧HS g h' (qD 3 1 i av (((t.ae.take i).map (·.1)).map (.int .i64))::Xo b T q R))
    ?_ (m:=t.ae.length) (by show _<1000000000;omega) ⟨0,.ak,rfl,Nat.zero_le _,rfl,H2.ak⟩
   clear H0 H1 H2 H3;rintro c ih s h3 bF ⟨i,av,rfl,hi,rfl,H⟩;dsimp only;by_cases ap:i<t.ae.length
   ·refine jH omQ (qZ ?_);refine zS (l:=jT t.ae[i]) (H.sl (n:=t.ae.length) (v:=q.gv) (xs:=t.ae.flatMap jT) e_3) ap omQ (gJ (sz:=2) (enc:=jT) (λ_=>rfl) (iW ap)) ?_;refine qI H rfl λb2 h4 H4=>?_;refine qd H4 (b:=b2) .here rfl (by show 0+2≤2;omega) rfl λh5 H5=>?_;refine qQ (qX H5 (b:=b2) .here (x:=.int .i64 t.ae[i].1) rfl ?_);refine qf (n:=1) (l:=[.int .i64 t.ae[i].1]) (sz:=1) H5 rfl rfl rfl rfl λv2 h6 H6=>?_;refine ju (H6.aI (P:=qD 3 1 i av (((t.ae.take i).map (·.1)).map (.int .i64))) e_2) (H6.sl .here) omQ omQ rfl λv3 h7 H7=>?_;refine qU omQ ?_;refine bF (t.ae.length-(i+1)) _ _ omQ ⟨i+1,v3,rfl,by omega,rfl,?_⟩;have et:((t.ae.take (i+1)).map (·.1)).map (AV.int .i64)=((t.ae.take i).map (·.1)).map (AV.int .i64)++[.int .i64 t.ae[i].1]:=by rw[List.take_add_one,iW ap,List.map_append,List.map_append];rfl
    rw[et];exact H7.sub (.cons .here (.drop (.drop .refl)))
   ·obtain rfl:i=t.ae.length:=by omega
    refine jz omQ (qJ ?_);rw[List.take_length]at H;refine qK (qQ (qX H (b:=b) e_1 rfl ?_));refine qK (qQ (qE H (b:=b) (off:=1) e_1 rfl (by simp[yv]) (l:=x5 t.set) rfl ?_));refine qG (qX1 (bs:=t.ae.map (·.1)) omQ B.set.start.1 (by rw[List.length_map];omega) H (by rw[List.length_map];exact .here)) ?_;rintro _ h4 ⟨a,rfl,H4⟩;refine qK (qQ ?_);refine qw H4 (b:=b) e_2 (x:=.ptr a 0) ⟨rfl,rfl⟩ (by simp[yv]) λh5 H5=>?_;refine hj _ _ ⟨QF t.me t.set (t.ae.map (·.1)),a,rfl,by unfold jg;rw[iQ c,iJ dP],?_⟩;have H6:=ig.I (H5.aI (P:=aE a (QF t.me t.set (t.ae.map (·.1)))) e_1);exact H6.sub (.cons e_1 (.cons e_2 (.cons e_2 (.cons .here (.drop (.drop .refl))))))
  ·have hsf:t.aj=false:=by simpa using dP
   refine qK (qQ (qh (qX H2 (b:=b) .here (x:=.bool false) (by rw[← hsf];rfl) ?_)));refine qJ ?_;have ap:t.au.toNat<t.jobs.length:=by omega
   have ta:t.jobs[t.au.toNat]? =some t.jobs[t.au.toNat]:=iW ap;have dJ:=B.jobs _ (List.getElem_mem ap);have CA:t.au.toNat<vs.length:=by omega
   refine qK (qQ (qX H2 (b:=b) .here rfl ?_));refine qK (qQ (qE H2 (b:=b) (off:=1) .here rfl (by simp[yv]) (l:=x5 t.set) rfl ?_));refine qK (qQ (qX H2 (b:=b) .here rfl ?_));refine qK (qQ (qX H2 (b:=b) .here (x:=.int .i64 ((t.au.toNat:Nat):Int)) (by show some (AV.int .i64 t.au)=_;congr;omega) ?_));refine zS (l:=[vs[t.au.toNat]]) (H3.sl .here) ap omQ (by rw[Nat.mul_one,List.drop_eq_getElem_cons CA];rfl) ?_;have H4:=(H3.aI (P:=.all (List.zipWith yy vs t.jobs)) e_1).cq;have hz:(List.zipWith yy vs t.jobs)[t.au.toNat]? =some (yy vs[t.au.toNat] t.jobs[t.au.toNat]):=by rw[List.getElem?_zipWith,iW CA,ta]
   refine qG (qj3 (l:=t.jobs[t.au.toNat]) omQ B.set.start.1 dJ.1 (H4.rd (e:=26) (sz:=5) (n:=(t.jobs[t.au.toNat]).length) (G6 hz)) H4) ?_;rintro _ h5 ⟨a,rfl,H5⟩;have H6:HS g h5 (.all (List.zipWith yy vs t.jobs)::aE a (yg t.me t.set t.jobs[t.au.toNat])::qD 29 1 t.jobs.length q.jv vs::qy b (yv T q)::_):=HS.allI (HS.cm PD H5);have H7:=aW.I Cz (H6.aI (P:=qD 29 1 t.jobs.length q.jv vs) e_2);refine qK (qQ ?_);refine qw H7 (b:=b) e_2 (x:=.ptr a 0) ⟨rfl,rfl⟩ (by simp[yv]) λh8 H8=>?_;refine hj _ _ ⟨yg t.me t.set t.jobs[t.au.toNat],a,rfl,by unfold jg;rw[iQ c,iQ dP,ta];rfl,?_⟩;have H9:=ig.I (H8.aI (P:=aE a (yg t.me t.set t.jobs[t.au.toNat])) e_2);exact H9.sub (.cons e_1 (.cons e_1 (.cons e_1 (.cons .here (.drop .refl)))))
theorem wc (hn:12≤n) (B:ThrB { t with au:=t.au+1,aj:=false,ae:=[],ag:=0,aD:=0 }) (H:HS g h (aF b t::R)):aA n 49 [.ptr b 0] h λ_ h'=>HS g h' (aF b (jD t)::R):=by
 refine aB (S:=S49) rfl omQ λk hk=>?_;unfold S49;try simp only[iZ]
 obtain⟨q,H0⟩:=aF.E H;have hj:=B.au;have lT:=B.jl;dsimp only at hj lT;refine qK (qQ (qX H0 (b:=b) .here rfl ?_));refine qU omQ ?_;refine qK (qQ ?_);refine qw H0 (b:=b) .here ⟨rfl,rfl⟩ (by simp[yv]) λh1 H1=>?_;refine qL (l:=[.bool false,.ak,.int .i64 0,.int .i64 0]) rfl ?_;refine qK (qQ ?_);refine qd H1 (b:=b) .here rfl (by simp[yv]) rfl λh2 H2=>?_;have H3:=aF.I (b:=b) (t:={ t with au:=t.au+1,aj:=false,ae:=[],ag:=0,aD:=0 }) (q:={ q with gv:=.ak }) ((H2.ak (e:=150) (sz:=2)).sub (.cons e_1 (.cons e_1 (.cons .here (.drop .refl)))));exact qG (QN omQ B (Nat.zero_le _) H3) λ_ h4 H4=>qY H4
theorem VR (hn:1≤n) (H:HS g h L) (s:bc L (qy b (yv t q)) R):aA n 33 [.ptr b 0] h λr h'=>r=.int .i64 t.state∧h'=h:=by
 refine aB (S:=S33) rfl omQ λk hk=>?_;unfold S33;try simp only[iZ]
 refine qK (qQ (qX H s rfl ?_));exact qY ⟨rfl,rfl⟩
end
end
end Go.Proofs.YthmopakmcboghaaGreatDoor
