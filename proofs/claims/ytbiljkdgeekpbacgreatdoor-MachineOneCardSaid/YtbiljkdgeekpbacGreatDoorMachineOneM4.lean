/- Lemmas for 'quietus/quietuslaw28.MachineOne': Threads: plain: what a step keeps;A run on a view that knows less: it asks for a word, or does the same. Plain;What a run writes lies within the heap: plain;... No condition. -/
import Derived.Test.YtbiljkdgeekpbacGreatDoorMachineOneM3
import Derived.Test.YtbiljkdgeekpbacGreatDoorMachineOneM2
import Derived.Test.YtbiljkdgeekpbacGreatDoorMachineOneM1
namespace Go.Proofs.YtbiljkdgeekpbacGreatDoor
open Go Go.Ae
set_option maxRecDepth 100000
section
def qWi:Jw→Bool
 | .prog _=>false
 | .sweep _ _=>true
structure wF (x y:jG):Prop where
  me:y.me=x.me
  set:y.set=x.set
  sw:qWi y.job=qWi x.job
theorem wF.refl (x:jG):wF x x:=⟨rfl,rfl,rfl⟩
theorem wF.trans {x y z:jG} (a:wF x y) (b:wF y z):wF x z:=⟨b.me.trans a.me,b.set.trans a.set,b.sw.trans a.sw⟩
theorem qXS (x:jG):wF x (y8 x).2:=by
 unfold y8;cases hx:x.job with
 |prog q=>exact⟨rfl,rfl,by rw[hx];rfl⟩
 |sweep bs k=>exact⟨rfl,rfl,by rw[hx];rfl⟩
theorem ZX (x:jG) (k e:Int):wF x (gY x k e):=by
 unfold gY
 repeat' split
 all_goals exact⟨rfl,rfl,rfl⟩
theorem Kj (x:jG):wF x (yW x):=(qXS x).trans (ZX ..)
theorem Uv (x:jG):wF x (yL x):=by
 unfold yL
 split
 ·exact⟨rfl,rfl,rfl⟩
 ·split
  ·exact(wF.trans (y:={ x with r:=(kE x.r (vY x.f)).2,v:=(xW x.v x.v.need (yP x.f)).2 }) ⟨rfl,rfl,rfl⟩ (Kj _))
  ·split<;>exact⟨rfl,rfl,rfl⟩
theorem JR (x:jG):wF x (xu x):=by
 have hs:∀y:jG,wF y (xz y):=λy=>by
  unfold xz
  repeat' split
  all_goals exact⟨rfl,rfl,rfl⟩
 unfold xu;refine wF.trans ?_ (hs _)
 split
 ·exact .refl x
 ·split
  ·exact⟨rfl,rfl,rfl⟩
  ·unfold yA
   split
   ·exact Uv x
   ·repeat' split
    all_goals exact⟨rfl,rfl,rfl⟩
theorem GO (x:jG) (a:AnM):wF x (jU x a):=by
 unfold jU
 split
 ·exact .refl x
 ·split
  ·exact⟨rfl,rfl,rfl⟩
  ·split
   ·exact⟨rfl,rfl,rfl⟩
   ·split
    ·exact⟨rfl,rfl,rfl⟩
    ·split
     ·exact Kj x
     ·split
      ·exact⟨rfl,rfl,rfl⟩
      ·split
       ·exact wF.trans (y:={ x with f:=xo x.f a }) ⟨rfl,rfl,rfl⟩ (JR _)
       ·split
        ·exact wF.trans (y:={ x with c:=x.c.map λc=>zH c a }) ⟨rfl,rfl,rfl⟩ (JR _)
        ·exact wF.trans (y:={ x with e:=yq x.e a }) ⟨rfl,rfl,rfl⟩ (JR _)
structure ThrB (t:qo):Prop where
  set:yX t.set
  me:0≤t.me∧t.me<t.set.threads
  jobs:∀l∈t.jobs,(zb l).2=0∧Quiet l
  jl:t.jobs.length≤6
  job:0≤t.job∧t.job≤t.jobs.length
  rests:t.rests.length+t.giving.length≤9000*t.results.length
  slots:t.slots.length≤6
  tries:0≤t.tries∧t.tries≤t.past.length
  conf:0≤t.conf∧t.conf≤t.tries
  giv:t.sweep=false→t.giving=[]
structure kR (t:qo):Prop extends ThrB t where
  now:∀x,t.now=some x→zm x∧x.me=t.me∧x.set=t.set∧qWi x.job=t.sweep
  lt:t.job<t.jobs.length
  some:t.now≠none
structure ya (t:qo):Prop where
  st:1≤t.state∧t.state≤6
  b:ThrB t
  c:t.state≠6→kR t
  fin:t.state=6→t.job=t.jobs.length∧t.now=none
  res:(t.results.length:Int)≤t.job+(if t.state≠6∧(t.sweep=true∨t.state=5)then 1 else 0)
  slo:t.state=5→(t.slots.length:Int)<t.set.threads∧(t.slots.length:Int)≠t.me
  pau:t.state=3→0<t.pauses∧t.pauses≤8
  byy:t.state=2→0≤t.by_∧t.by_<t.set.threads
  sw5:t.state=5→t.sweep=false
variable {t:qo}
theorem ThrB.len (B:ThrB t) (h:(t.results.length:Int)≤t.job+1):t.rests.length+t.giving.length≤63000:=by have h1:=B.jl;have h2:=B.job;have h3:=B.rests;omega
theorem wc (B:ThrB t) (hr:(t.results.length:Int)≤t.job+(if t.sweep=true∧t.job≠t.jobs.length then 1 else 0)):ya (zV t):=by
 have hlen:=B.len (by split at hr<;>omega);have hs:=B.set.start.1;have hset:=Qx B.set;unfold zV
 split
 ·rename_i hj;refine⟨by show(1:Int)≤6∧(6:Int)≤6;decide,⟨B.set,B.me,B.jobs,B.jl,B.job,B.rests,B.slots,B.tries,B.conf,B.giv⟩,λh=>absurd rfl h,λ_=>⟨hj,rfl⟩,?_,λh=>(by cases h),λh=>(by cases h),λh=>(by cases h),nofun⟩;rw[iQ (λh=>h.2 hj)]at hr;show(t.results.length:Int)≤t.job+(if(6:Int)≠6∧_ then 1 else 0);rw[iQ (λh=>h.1 rfl)];exact hr
 ·rename_i hj;have B':ThrB { t with born:=0,alarm:=false,state:=1,now:=some (if t.sweep=true then yr t.me t.set (t.giving.map (·.1))else yY t.me t.set ((t.jobs[t.job.toNat]?).getD [])) }:=⟨B.set,B.me,B.jobs,B.jl,B.job,B.rests,B.slots,B.tries,B.conf,B.giv⟩;refine⟨by show(1:Int)≤1∧(1:Int)≤6;decide,B',λ_=>⟨B',λx hx=>?_,by have:=B.job;show t.job<(t.jobs.length:Int);omega,nofun⟩,λh=>(by cases h),?_,λh=>(by cases h),λh=>(by cases h),λh=>(by cases h),nofun⟩
  ·cases hx
   split
   ·rename_i hsw;exact⟨qQ8 hs (by rw[List.length_map];omega),rfl,hset,hsw.symm⟩
   ·rename_i hsw;have hlt:t.job.toNat<t.jobs.length:=by have:=B.job;omega
    rw[iW hlt];have:=B.jobs _ (List.getElem_mem hlt);exact⟨GY hs this.1 this.2,rfl,hset,by simp only[Bool.not_eq_true]at hsw;exact hsw.symm⟩
  ·show(t.results.length:Int)≤t.job+(if(1:Int)≠6∧(t.sweep=true∨(1:Int)=5)then 1 else 0);by_cases hsw:t.sweep=true
   ·rw[iJ ⟨by decide,.inl hsw⟩];rw[iJ ⟨hsw,hj⟩]at hr;exact hr
   ·rw[iQ (λh=>hsw h.1)]at hr;rw[iQ (λh=>by rcases h.2 with h |h;exact hsw h;cases h)];exact hr
theorem Qy (B:ThrB { t with job:=t.job+1,sweep:=false,giving:=[],tries:=0,conf:=0 }) (hr:(t.results.length:Int)≤t.job+1):ya (jc t):=by unfold jc;refine wc B ?_;show(t.results.length:Int)≤t.job+1+(if false=true∧_ then 1 else 0);rw[iQ (λh=>by cases h.1)];omega
theorem QM (B:ThrB t) (hj:t.job<t.jobs.length) (hr:(t.results.length:Int)≤t.job+1):ya (jc t):=by have:=B.job;have:=B.tries;refine Qy ⟨B.set,B.me,B.jobs,B.jl,by show 0≤t.job+1∧t.job+1≤(t.jobs.length:Int);omega,?_,B.slots,by show(0:Int)≤0∧(0:Int)≤(List.length _:Int);omega,by show(0:Int)≤0∧(0:Int)≤0;decide,λ_=>rfl⟩ hr;have:=B.rests;show t.rests.length+0≤9000*t.results.length;omega
theorem ZF (c:Int):1≤vp c∧vp c≤8:=by
 unfold vp
 repeat' split
 all_goals omega
theorem kR.go (C:kR t) {u:qo} (h1:u.set=t.set) (h2:u.me=t.me) (h3:u.jobs=t.jobs) (h4:u.job=t.job) (h5:u.rests=t.rests) (h6:u.giving=t.giving) (h7:u.results=t.results) (h8:u.slots.length≤6) (h9:0≤u.tries∧u.tries≤u.past.length) (h10:0≤u.conf∧u.conf≤u.tries) (h11:u.now=t.now) (h12:u.sweep=t.sweep):kR u:=by have B:=C.toThrB;refine⟨⟨by rw[h1];exact B.set,by rw[h1,h2];exact B.me,by rw[h3];exact B.jobs,by rw[h3];exact B.jl,by rw[h3,h4];exact B.job,by rw[h5,h6,h7];exact B.rests,h8,h9,h10,by rw[h12,h6];exact B.giv⟩,by rw[h11,h1,h2,h12];exact C.now,by rw[h3,h4];exact C.lt,by rw[h11];exact C.some⟩
theorem Mj (C:kR t) {draw:Int} (hd:0≤draw) (hr:(t.results.length:Int)≤t.job+(if t.sweep=true then 1 else 0)):ya (xl t draw):=by
 have hm:=ZF t.conf;have hlt:=C.lt;unfold xl
 split
 ·refine wc (C.go (u:={ t with pauses:=0,state:=3 }) rfl rfl rfl rfl rfl rfl rfl C.slots C.tries C.conf rfl rfl).toThrB ?_;show(t.results.length:Int)≤t.job+(if t.sweep=true∧t.job≠t.jobs.length then 1 else 0);by_cases hs:t.sweep=true
  ·rw[iJ ⟨hs,by omega⟩];rw[iJ hs]at hr;exact hr
  ·rw[iQ (λh=>hs h.1)];rw[iQ hs]at hr;exact hr
 ·rename_i hn;have C':kR { t with pauses:=draw%(vp t.conf+1),state:=3 }:=C.go rfl rfl rfl rfl rfl rfl rfl C.slots C.tries C.conf rfl rfl;have h1:=Int.emod_nonneg draw (show vp t.conf+1≠0 by omega);have h2:=Int.emod_lt_of_pos draw (show 0<vp t.conf+1 by omega);refine⟨by show(1:Int)≤3∧(3:Int)≤6;decide,C'.toThrB,λ_=>C',λh=>(by cases h),?_,λh=>(by cases h),λ_=>⟨by show 0<draw%(vp t.conf+1);omega,by show draw%(vp t.conf+1)≤8;omega⟩,λh=>(by cases h),nofun⟩;show(t.results.length:Int)≤t.job+(if(3:Int)≠6∧(t.sweep=true∨(3:Int)=5)then 1 else 0);by_cases hs:t.sweep=true
  ·rw[iJ ⟨by decide,.inl hs⟩];rw[iJ hs]at hr;exact hr
  ·rw[iQ (λh=>by rcases h.2 with h |h;exact hs h;cases h)];rw[iQ hs]at hr;exact hr
theorem qJi {α:Type} (p:α→Bool) (l:List α):(l.filter p).length+(l.filter λx=>!p x).length=l.length:=by
 induction l with
 |nil=>rfl
 |cons x r ih=>rw[List.filter_cons,List.filter_cons];cases p x<;>simp<;>omega
theorem OD (C:kR t) (hr:(t.results.length:Int)≤t.job+1) (h5:t.state=5) (hl:(t.slots.length:Int)≤t.set.threads) (hsw:t.sweep=false):ya (xT t):=by
 have h4:=C.set.threads;have hlt:=C.lt;have hg:=C.giv hsw;have hre:=C.rests;rw[hg]at hre;unfold xT;have key:∀u:qo,u={ t with slots:=u.slots }→(u.slots.length:Int)≤5→(u.slots.length:Int)≠t.me→ya (xJ u):=by
  intro u hu hul hme;have C':kR u:=by rw[hu];exact C.go rfl rfl rfl rfl rfl rfl rfl (by show u.slots.length≤6;omega) C.tries C.conf rfl rfl
  have hul':(u.slots.length:Nat)≤6:=by omega
  unfold xJ;have e1:u.set=t.set:=by rw[hu]
  have e2:u.rests=t.rests:=by rw[hu]
  have e3:u.results=t.results:=by rw[hu]
  have e4:u.job=t.job:=by rw[hu]
  have e5:u.state=5:=by rw[hu];exact h5
  have e6:u.me=t.me:=by rw[hu]
  have e7:u.jobs=t.jobs:=by rw[hu]
  have e8:u.giving=[]:=by rw[hu];exact hg
  have hf:=qJi (λr:GN=>q8 u.slots r.2) u.rests
  split
  ·rename_i h;refine⟨by omega,C'.toThrB,λ_=>C',λh=>by omega,?_,λ_=>⟨h,by rw[e6];exact hme⟩,λh=>by omega,λh=>by omega,λ_=>by rw[hu];exact hsw⟩;rw[iJ ⟨by omega,.inr e5⟩,e3,e4];exact hr
  ·split
   ·refine QM ⟨C'.set,C'.me,C'.jobs,C'.jl,C'.job,?_,hul',C'.tries,C'.conf,C'.giv⟩ C'.lt (by show(u.results.length:Int)≤u.job+1;rw[e3,e4];exact hr);show(u.rests.filter λr=>!q8 u.slots r.2).length+u.giving.length≤9000*u.results.length;rw[e8,e3];rw[e2]at hf ⊢;simp at hre ⊢;omega
   ·refine wc ⟨C'.set,C'.me,C'.jobs,C'.jl,C'.job,?_,hul',by show(0:Int)≤0∧(0:Int)≤(List.length _:Int);omega,by show(0:Int)≤0∧(0:Int)≤0;decide,nofun⟩ ?_
    ·show(u.rests.filter λr=>!q8 u.slots r.2).length+(u.rests.filter λr=>q8 u.slots r.2).length≤9000*u.results.length;rw[e3];rw[e2]at hf ⊢;simp at hre;omega
    ·show(u.results.length:Int)≤u.job+(if true=true∧u.job≠u.jobs.length then 1 else 0);rw[iJ ⟨rfl,by rw[e4,e7];omega⟩,e3,e4];exact hr
 split
 ·rename_i h;refine key _ rfl ?_ ?_
  ·show((t.slots++[(0:Int)]).length:Int)≤5;rw[List.length_append,List.length_singleton];omega
  ·show((t.slots++[(0:Int)]).length:Int)≠t.me;rw[List.length_append,List.length_singleton];omega
 ·rename_i h;exact key t rfl omQ h
theorem qV8 (lv:List LvM):(gA lv).length≤frS lv:=by unfold gA frS;rw[List.length_flatMap,List.map_reverse,List.sum_reverse];exact Nat.le_refl _
theorem wK {x:jG} (O:zm x) (hp:qWi x.job=false):(zP x).length≤9000:=by
 unfold zP
 split
 ·cases hj:x.job with
  |prog q=>dsimp only;have h1:=O.fr;have h2:=qV8 x.v.lv;omega
  |sweep bs k=>rw[hj]at hp;cases hp
 ·simp
theorem qKF (C:kR t) {x:jG} (hx:t.now=some x) (hs5:t.state=1) {draw pick:Int} (hd:0≤draw) (hr:(t.results.length:Int)≤t.job+(if t.sweep=true then 1 else 0)):ya (zk t x draw pick):=by
 have ht:=C.tries;have hc:=C.conf;have hlt:=C.lt;have hlen:(t.past++[jb t x pick]).length=t.past.length+1:=by simp
 have hr1:(t.results.length:Int)≤t.job+1:=by split at hr<;>omega
 have hr6:∀s:Int,s≠6→(t.results.length:Int)≤t.job+(if s≠6∧(t.sweep=true∨s=5)then 1 else 0):=λs h6=>by
  by_cases hs:t.sweep=true
  ·rw[iJ ⟨h6,.inl hs⟩];rw[iJ hs]at hr;exact hr
  ·rw[iQ hs]at hr;split<;>omega
 unfold zk;dsimp only
 split
 ·split
  ·rename_i hb;have C':kR { t with past:=t.past++[jb t x pick],tries:=t.tries+1,conf:=t.conf+1,state:=2,by_:=QP x,yielding:=false } :=
    C.go rfl rfl rfl rfl rfl rfl rfl C.slots (by show 0≤t.tries+1∧t.tries+1≤((t.past++[jb t x pick]).length:Int);omega) (by show 0≤t.conf+1∧t.conf+1≤t.tries+1;omega) rfl rfl
   exact⟨by show(1:Int)≤2∧(2:Int)≤6;decide,C'.toThrB,λ_=>C',λh=>(by cases h),hr6 2 od,λh=>(by cases h),λh=>(by cases h),λ_=>hb,λh=>by cases h⟩
  ·exact Mj (t:={ t with past:=t.past++[jb t x pick],tries:=t.tries+1,conf:=t.conf+1 }) (C.go rfl rfl rfl rfl rfl rfl rfl C.slots (by show 0≤t.tries+1∧t.tries+1≤((t.past++[jb t x pick]).length:Int);omega) (by show 0≤t.conf+1∧t.conf+1≤t.tries+1;omega) rfl rfl) hd hr
 ·have C':∀s:Int,kR { t with past:=t.past++[jb t x pick],tries:=t.tries+1,state:=s }:=λs=>
   C.go rfl rfl rfl rfl rfl rfl rfl C.slots (by show 0≤t.tries+1∧t.tries+1≤((t.past++[jb t x pick]).length:Int);omega) (by show 0≤t.conf∧t.conf≤t.tries+1;omega) rfl rfl
  have CB:=(C' t.state).toThrB
  split
  ·split
   ·refine wc (t:={ t with past:=t.past++[jb t x pick],tries:=t.tries+1 }) CB ?_;show(t.results.length:Int)≤t.job+(if t.sweep=true∧t.job≠t.jobs.length then 1 else 0);by_cases hs:t.sweep=true
    ·rw[iJ ⟨hs,by omega⟩];rw[iJ hs]at hr;exact hr
    ·rw[iQ (λh=>hs h.1)];rw[iQ hs]at hr;exact hr
   ·exact⟨by show(1:Int)≤4∧(4:Int)≤6;decide,(C' 4).toThrB,λ_=>C' 4,λh=>(by cases h),hr6 4 od,λh=>(by cases h),λh=>(by cases h),λh=>(by cases h),λh=>by cases h⟩
  ·split
   ·rename_i hsw;unfold vZ
    split
    ·refine Qy ⟨C.set,C.me,C.jobs,C.jl,by have:=C.job;show 0≤t.job+1∧t.job+1≤(t.jobs.length:Int);omega,?_,C.slots,by show(0:Int)≤0∧(0:Int)≤(List.length _:Int);omega,by show(0:Int)≤0∧(0:Int)≤0;decide,λ_=>rfl⟩ hr1;have:=C.rests;show(t.rests++t.giving).length+0≤9000*t.results.length;rw[List.length_append];omega
    ·exact QM CB hlt hr1
   ·rename_i hsw;have hsw:t.sweep=false:=by simpa using hsw
    have hn:=C.now x hx;have hfl:=wK hn.1 (hn.2.2.2.trans hsw);rw[hsw,iQ osQ]at hr;have hgl:=C.giv hsw;have hre:=C.rests;rw[hgl]at hre;unfold yj;have e1:(t.results++[(⟨jS x,xp x,zR x,x.stamp⟩:YR)]).length=t.results.length+1:=by simp
    have e2:(t.rests++(zP x).map λb=>(b,x.stamp)).length=t.rests.length+(zP x).length:=by simp
    have B2:ThrB { t with past:=t.past++[jb t x pick],tries:=t.tries+1,results:=t.results++[⟨jS x,xp x,zR x,x.stamp⟩],rests:=t.rests++(zP x).map λb=>(b,x.stamp) } :=
     ⟨C.set,C.me,C.jobs,C.jl,C.job,by show(t.rests++(zP x).map λb=>(b,x.stamp)).length+t.giving.length≤9000*(t.results++[(⟨jS x,xp x,zR x,x.stamp⟩:YR)]).length;rw[e1,e2,hgl];rw[List.length_nil]at hre ⊢;omega,
      C.slots,by show 0≤t.tries+1∧t.tries+1≤((t.past++[jb t x pick]).length:Int);omega,by show 0≤t.conf∧t.conf≤t.tries+1;omega,C.giv⟩
    dsimp only
    split
    ·exact QM B2 hlt (by show((t.results++[(⟨jS x,xp x,zR x,x.stamp⟩:YR)]).length:Int)≤t.job+1;omega)
    ·refine OD
      ⟨⟨B2.set,B2.me,B2.jobs,B2.jl,B2.job,B2.rests,Nat.zero_le _,B2.tries,B2.conf,B2.giv⟩,C.now,C.lt,C.some⟩ (by show((t.results++[(⟨jS x,xp x,zR x,x.stamp⟩:YR)]).length:Int)≤t.job+1;omega) rfl (by have:=C.set.threads;show(0:Int)≤t.set.threads;omega) hsw
theorem Nu (O:ya t) {a:AnM} (ha:Yh a) {draw pick:Int} (hd:0≤draw):ya (zB t a draw pick):=by
 have hres:=O.res;unfold zB
 split
 ·rename_i h1;have C:=O.c omQ;cases hn:t.now with
  |none=>exact O
  |some x=>
   have hx:=C.now x hn;have hS:=GO x a;have hr:(t.results.length:Int)≤t.job+(if t.sweep=true then 1 else 0):=by
    by_cases hs:t.sweep=true
    ·rw[iJ ⟨by omega,.inl hs⟩]at hres;rw[iJ hs];exact hres
    ·rw[iQ (λh=>by rcases h.2 with h |h;exact hs h;omega)]at hres;rw[iQ hs];exact hres
   unfold gr;dsimp only
   have C':∀b:Int,kR { t with now:=some (jU x a),born:=b }:=λb=>⟨⟨C.set,C.me,C.jobs,C.jl,C.job,C.rests,C.slots,C.tries,C.conf,C.giv⟩,λy hy=>by
    cases hy
    exact⟨Kh hx.1 ha,hS.me.trans hx.2.1,hS.set.trans hx.2.2.1,hS.sw.trans hx.2.2.2⟩,C.lt,nofun⟩
   split
   ·exact⟨O.st,(C' _).toThrB,λ_=>C' _,λh=>absurd h (by show¬t.state=6;omega),O.res,λh=>absurd h (by show¬t.state=5;omega),λh=>absurd h (by show¬t.state=3;omega),λh=>absurd h (by show¬t.state=2;omega),λh=>absurd h (by show¬t.state=5;omega)⟩
   ·exact qKF (C' _) rfl h1 hd hr
 ·split
  ·rename_i h2;have C:=O.c omQ
   split
   ·have C':kR { t with yielding:=true,since:=a.word }:=C.go rfl rfl rfl rfl rfl rfl rfl C.slots C.tries C.conf rfl rfl;exact⟨O.st,C'.toThrB,λ_=>C',λh=>absurd h (by show¬t.state=6;omega),O.res,λh=>absurd h (by show¬t.state=5;omega),λh=>absurd h (by show¬t.state=3;omega),O.byy,λh=>absurd h (by show¬t.state=5;omega)⟩
   ·refine Mj C hd ?_;by_cases hs:t.sweep=true
    ·rw[iJ ⟨by omega,.inl hs⟩]at hres;rw[iJ hs];exact hres
    ·rw[iQ (λh=>by rcases h.2 with h |h;exact hs h;omega)]at hres;rw[iQ hs];exact hres
  ·split
   ·rename_i h5';have C:=O.c omQ;have hsl:=O.slo h5';rw[iJ ⟨by omega,.inr h5'⟩]at hres;have h4:=C.set.threads;have e:(t.slots++[if a.err≠0 then 0 else a.word]).length=t.slots.length+1:=by simp
    refine OD (C.go rfl rfl rfl rfl rfl rfl rfl (by show(t.slots++[if a.err≠0 then 0 else a.word]).length≤6;omega) C.tries C.conf rfl rfl) hres h5' ?_ (O.sw5 h5');show((t.slots++[if a.err≠0 then 0 else a.word]).length:Int)≤t.set.threads;omega
   ·exact O
theorem qJl (O:ya t):ya (vV t):=by
 have hres:=O.res;unfold vV
 split
 ·rename_i h3;have C:=O.c omQ;have hp:=O.pau h3
  split
  ·refine wc (C.go (u:={ t with pauses:=0 }) rfl rfl rfl rfl rfl rfl rfl C.slots C.tries C.conf rfl rfl).toThrB ?_;have hlt:=C.lt;show(t.results.length:Int)≤t.job+(if t.sweep=true∧t.job≠t.jobs.length then 1 else 0);by_cases hs:t.sweep=true
   ·rw[iJ ⟨hs,by omega⟩];rw[iJ ⟨by omega,.inl hs⟩]at hres;exact hres
   ·rw[iQ (λh=>hs h.1)];rw[iQ (λh=>by rcases h.2 with h |h;exact hs h;omega)]at hres;exact hres
  ·have C':kR { t with pauses:=t.pauses-1 }:=C.go rfl rfl rfl rfl rfl rfl rfl C.slots C.tries C.conf rfl rfl;exact⟨O.st,C'.toThrB,λ_=>C',λh=>absurd h (by show¬t.state=6;omega),O.res,λh=>absurd h (by show¬t.state=5;omega),λ_=>(by show 0<t.pauses-1∧t.pauses-1≤8;omega),λh=>absurd h (by show¬t.state=2;omega),λh=>absurd h (by show¬t.state=5;omega)⟩
 ·exact O
theorem qYD (O:ya t) {s v:Int}:ya (xN t s v):=by
 have hres:=O.res;unfold xN
 split
 ·exact O
 ·split
  ·split
   ·rename_i h4;have C:=O.c omQ;refine wc C.toThrB ?_;have hlt:=C.lt;by_cases hs:t.sweep=true
    ·rw[iJ ⟨hs,by omega⟩];rw[iJ ⟨by omega,.inl hs⟩]at hres;exact hres
    ·rw[iQ (λh=>hs h.1)];rw[iQ (λh=>by rcases h.2 with h |h;exact hs h;omega)]at hres;exact hres
   ·split
    ·rename_i h1;have C:=O.c omQ;have C':kR { t with alarm:=true }:=C.go rfl rfl rfl rfl rfl rfl rfl C.slots C.tries C.conf rfl rfl;exact⟨O.st,C'.toThrB,λ_=>C',O.fin,O.res,O.slo,O.pau,O.byy,O.sw5⟩
    ·exact O
  ·exact O
theorem jQ2 {me:Int} {s:zv} {jobs:List (List qR)} (hs:0≤s.start) (hj:∀l∈jobs,(zb l).2=0∧Quiet l):ya (Xq me s jobs):=by have S:=yi hs;have h4:=S.threads;refine Qy ⟨S,by show 0≤max 0 (min me ((jq s).threads-1))∧max 0 (min me ((jq s).threads-1))<(jq s).threads;omega,λl hl=>hj l (List.mem_of_mem_take hl),?_,by show(0:Int)≤ -1+1∧(-1:Int)+1≤_;omega,Nat.le_refl _,Nat.zero_le _,by show(0:Int)≤0∧(0:Int)≤(([]:List Uw).length:Int);decide,by show(0:Int)≤0∧(0:Int)≤0;decide,λ_=>rfl⟩ (by simp);show(jobs.take 6).length≤6;rw[List.length_take];omega
end
section
structure xQ (V W:VM):Prop where
  sz:V.sz=W.sz
  most:V.most=W.most
  lv:V.lv=W.lv
  K:∀p x,zg p V.K=some x→zg p W.K=some x
theorem xQ.same {V W:VM} (h:xQ V W) (lv:List LvM):xQ { V with lv:=lv } { W with lv:=lv }:=⟨h.sz,h.most,rfl,h.K⟩
theorem xQ.read {V W:VM} (h:xQ V W) (p:Int):(qi V p).1.2=11∨((qi V p).1=(qi W p).1∧xQ (qi V p).2 (qi W p).2):=by
 unfold qi;rw[← h.sz,← h.lv]
 split
 ·cases hl:Gr p V.lv with
  |some x=>exact .inr ⟨rfl,h⟩
  |none=>
   cases hk:zg p V.K with
   |some x=>rw[h.K p x hk];exact .inr ⟨rfl,h⟩
   |none=>exact .inl rfl
 ·exact .inr ⟨rfl,h⟩
theorem xQ.take {V W:VM} (h:xQ V W) (cs:List Cl):(zw V cs).1=(zw W cs).1∧xQ (zw V cs).2 (zw W cs).2:=by
 unfold zw;rw[← h.sz,← h.lv,← h.most]
 split
 ·exact⟨rfl,⟨rfl,rfl,rfl,h.K⟩⟩
 ·exact⟨rfl,h⟩
theorem xQ.ask {V W:VM} (h:xQ V W) (b:Int):(zq V b).1.2.2=11∨((zq V b).1=(zq W b).1∧xQ (zq V b).2 (zq W b).2):=by
 unfold zq;rw[← h.sz]
 split
 ·exact .inr ⟨rfl,h⟩
 ·rcases h.read (b-1)with e |⟨e,h2⟩
  ·rw[e];exact .inl rfl
  ·rw[← e]
   split
   ·split
    ·exact .inr ⟨rfl,h2⟩
    ·exact .inr ⟨rfl,h2⟩
   ·exact .inr ⟨rfl,h2⟩
theorem xQ.again {V W:VM} (h:xQ V W) (c b:Int):(yw V c b).1.2=11∨((yw V c b).1=(yw W c b).1∧xQ (yw V c b).2 (yw W c b).2):=by
 unfold yw
 split
 ·exact .inr ⟨rfl,h⟩
 ·rcases h.read b with e |⟨e,h2⟩
  ·rw[e];exact .inl rfl
  ·rw[← e];have ht:=h2.take [(c,(qi V b).1.1),(b-1,c+8)];rw[← ht.1]
   split
   ·split
    ·exact .inr ⟨rfl,ht.2⟩
    ·exact .inr ⟨rfl,ht.2⟩
   ·exact .inr ⟨rfl,h2⟩
theorem xQ.grown {V W:VM} (h:xQ V W) (c:Int):(yx V c).1.2=11∨((yx V c).1=(yx W c).1∧xQ (yx V c).2 (yx W c).2):=by
 unfold yx;rw[← h.sz];rcases h.read 5 with e |⟨e,h2⟩
 ·rw[e];exact .inl rfl
 ·rw[← e];have ht:=h2.take [(5,(qi V 5).1.1+1+gZ c),((qi V 5).1.1,c+8)];rw[← ht.1]
  split
  ·split
   ·exact .inr ⟨rfl,h2⟩
   ·split
    ·exact .inr ⟨rfl,ht.2⟩
    ·exact .inr ⟨rfl,ht.2⟩
  ·exact .inr ⟨rfl,h2⟩
theorem xQ.alloc {V W:VM} (h:xQ V W) (n:Int):(xG V n).1.2=11∨((xG V n).1=(xG W n).1∧xQ (xG V n).2 (xG W n).2):=by
 unfold xG
 split
 ·exact .inr ⟨rfl,h⟩
 ·rcases h.read (xe n)with e |⟨e,h2⟩
  ·rw[e];exact .inl rfl
  ·rw[← e]
   split
   ·split
    ·exact h2.grown _
    ·exact h2.again _ _
   ·exact .inr ⟨rfl,h2⟩
theorem xQ.free {V W:VM} (h:xQ V W) (b:Int):(vo V b).1=11∨((vo V b).1=(vo W b).1∧xQ (vo V b).2 (vo W b).2):=by
 unfold vo;rcases h.ask b with e |⟨e,h2⟩
 ·rw[e];exact .inl rfl
 ·rw[← e];have ht:=h2.take [(b-1,(zq V b).1.1)];rw[← ht.1]
  split
  ·split
   ·split
    ·refine .inr ⟨rfl,?_⟩;unfold freeV;rw[← ht.2.lv];exact⟨ht.2.sz,ht.2.most,rfl,ht.2.K⟩
    ·exact .inr ⟨ht.1,ht.2⟩
   ·exact .inr ⟨rfl,h2⟩
  ·exact .inr ⟨rfl,h2⟩
theorem xQ.give {V W:VM} (h:xQ V W) (b:Int):(zj V b).1=11∨((zj V b).1=(zj W b).1∧xQ (zj V b).2 (zj W b).2):=by
 unfold zj;rcases h.ask b with e |⟨e,h2⟩
 ·rw[e];exact .inl rfl
 ·rw[← e]
  split
  ·split
   ·exact .inr ⟨rfl,h2⟩
   ·rcases h2.read (zq V b).1.1 with e2 |⟨e2,h3⟩
    ·rw[e2];exact .inl rfl
    ·rw[← e2]
     split
     ·exact .inr (h3.take _)
     ·exact .inr ⟨rfl,h3⟩
  ·exact .inr ⟨rfl,h2⟩
theorem xQ.open' {V W:VM} (h:xQ V W):(vj V).1=(vj W).1∧xQ (vj V).2 (vj W).2:=by unfold vj;rw[← h.lv];exact⟨rfl,h.same _⟩
theorem xQ.drop {V W:VM} (h:xQ V W):(xi V).1=(xi W).1∧xQ (xi V).2 (xi W).2:=by unfold xi;rw[← h.lv];exact⟨rfl,h.same _⟩
theorem xQ.keep {V W:VM} (h:xQ V W):(vS V).1=(vS W).1∧xQ (vS V).2 (vS W).2:=by unfold vS;rw[← h.lv];exact⟨rfl,h.same _⟩
structure UW (a b:SM):Prop where
  e:a.e=b.e
  nx:a.nx=b.nx
  blk:a.blk=b.blk
  s:a.s=b.s
  v:xQ a.v b.v
theorem xQ.begin_ {V W:VM} (h:xQ V W) (op a nx:Int) (s:IM):UW (zM op a nx s V) (zM op a nx s W):=by
 unfold zM;rw[← h.open'.1]
 split
 ·exact⟨rfl,rfl,rfl,rfl,h.open'.2⟩
 ·exact⟨rfl,rfl,rfl,rfl,h.open'.2⟩
theorem xQ.retry {mt:List Int} {s:IM}:∀(o:List PtM) {V W:VM},xQ V W→UW (vG mt o s V) (vG mt o s W):=by
 intro o
 induction o with
 |nil=>intro V W h;exact⟨rfl,rfl,rfl,rfl,h⟩
 |cons p o ih=>
  intro V W h;unfold vG;rw[← h.drop.1]
  split
  ·split
   ·exact h.drop.2.begin_ ..
   ·exact ih h.drop.2
  ·exact⟨rfl,rfl,rfl,rfl,h.drop.2⟩
theorem xQ.turn {V W:VM} (h:xQ V W) (mt:List Int) (s:IM) (op:Int):UW (wB mt s V op) (wB mt s W op):=by
 unfold wB
 split
 ·exact h.begin_ ..
 ·split
  ·exact⟨h.keep.1,rfl,rfl,rfl,h.keep.2⟩
  ·split
   ·exact⟨h.keep.1,rfl,rfl,rfl,h.keep.2⟩
   ·split
    ·exact⟨h.drop.1,rfl,rfl,rfl,h.drop.2⟩
    ·exact xQ.retry _ h
theorem xQ.touch {V W:VM} (h:xQ V W) (s:IM) (x:qR):(jh s V x).1=11∨((jh s V x).1=(jh s W x).1∧(jh s V x).2.1=(jh s W x).2.1∧xQ (jh s V x).2.2 (jh s W x).2.2):=by
 unfold jh
 split
 ·split
  ·rcases h.read (yl (qM s.regs x.2.2.1) x.2.2.2.1).1 with e |⟨e,h2⟩
   ·rw[e];exact .inl rfl
   ·rw[← e]
    split
    ·exact .inr ⟨rfl,rfl,h2⟩
    ·exact .inr ⟨rfl,rfl,h2⟩
  ·exact .inr ⟨rfl,rfl,h⟩
 ·split
  ·split
   ·have ht:=h.take [((yl (qM s.regs x.2.1) x.2.2.2.1).1,qM s.regs x.2.2.1)];exact .inr ⟨ht.1,rfl,ht.2⟩
   ·exact .inr ⟨rfl,rfl,h⟩
  ·split
   ·split
    ·exact .inr ⟨rfl,rfl,h⟩
    ·rcases h.alloc (qM s.regs x.2.2.1)with e |⟨e,h2⟩
     ·rw[e];exact .inl rfl
     ·rw[← e]
      split
      ·exact .inr ⟨rfl,rfl,h2⟩
      ·exact .inr ⟨rfl,rfl,h2⟩
   ·split
    ·exact .inr ⟨rfl,rfl,h⟩
    ·rcases h.free (qM s.regs x.2.1)with e |⟨e,h2⟩
     ·exact .inl e
     ·exact .inr ⟨e,rfl,h2⟩
theorem yf {c:Prop} [Decidable c] {a b a' b':SM} (ha:a.e=11∨UW a a') (hb:b.e=11∨UW b b'):(if c then a else b).e=11∨UW (if c then a else b) (if c then a' else b'):=by
 split
 ·exact ha
 ·exact hb
theorem xQ.do_ {V W:VM} (h:xQ V W) (mt:List Int) (s:IM) (x:qR):(doM mt s V x).e=11∨UW (doM mt s V x) (doM mt s W x):=by
 have sm:∀(e nx:Int) (b:Bool) (s':IM),(⟨e,nx,b,s',V⟩:SM).e=11∨UW ⟨e,nx,b,s',V⟩ ⟨e,nx,b,s',W⟩:=λe nx b s'=>.inr ⟨rfl,rfl,rfl,rfl,h⟩;unfold doM;refine yf (sm ..) (yf (sm ..) (yf (sm ..) (yf (sm ..) (yf (sm ..) (yf (sm ..) (yf (sm ..) (yf (sm ..) (yf (sm ..) (yf (yf (sm ..) (sm ..)) (yf (sm ..) (yf ?_ (.inr (h.turn ..)))))))))))));rcases h.touch s x with e |⟨e1,e2,h2⟩
 ·exact .inl e
 ·exact .inr ⟨e1,rfl,rfl,e2,h2⟩
theorem qz5 {l:List qR} (F:Fit l) (Q:Quiet l):∀(n:Nat) {s:IM} {V W:VM},GI l s V→GI l s W→frS V.lv+n<9000→xQ V W→
  ((jL l (qO l) n s V).kind=1∧∃W',xQ (jL l (qO l) n s V).v W'∧W'.K=W.K∧W'.sz=W.sz∧GI l (jL l (qO l) n s V).s W'∧jL l (qO l) n s W=jL l (qO l) (jL l (qO l) n s V).left (jL l (qO l) n s V).s W')∨
  ((jL l (qO l) n s V).kind≠1∧(jL l (qO l) n s W).kind=(jL l (qO l) n s V).kind∧(jL l (qO l) n s W).err=(jL l (qO l) n s V).err∧(jL l (qO l) n s W).left=(jL l (qO l) n s V).left∧
   (jL l (qO l) n s W).s=(jL l (qO l) n s V).s∧xQ (jL l (qO l) n s V).v (jL l (qO l) n s W).v):=by
 intro n
 induction n with
 |zero=>
  intro s V W G GW hf h;right;rw[gc,gc]
  split
  ·exact⟨(nofun),rfl,rfl,rfl,rfl,h⟩
  ·exact⟨(nofun),rfl,rfl,rfl,rfl,h⟩
 |succ n ih=>
  intro s V W G GW hf h;by_cases h0:s.pc=l.length
  ·right;rw[MX h0,MX h0];exact⟨(nofun),rfl,rfl,rfl,rfl,h⟩
  ·obtain⟨i,hi,hil⟩:=G.pc;have hlt:i<l.length:=by omega
   have hfW:frS W.lv=frS V.lv:=by rw[h.lv]
   have S:=Jt F G hi hlt omQ (Q.at hlt).2 (Q.at hlt).1;have SW:=Jt F GW hi hlt omQ (Q.at hlt).2 (Q.at hlt).1;have D:=h.do_ (qO l) s (qS l i);have eV:=ww (l:=l) (mt:=qO l) (n:=n) (s:=s) (V:=V);have eW:=ww (l:=l) (mt:=qO l) (n:=n) (s:=s) (V:=W);rw[iQ h0,hi]at eV eW;generalize doM (qO l) s V (qS l i)=A at*;generalize doM (qO l) s W (qS l i)=B at*;rcases D with e11 |D
   ·left;obtain⟨n1,n2,_⟩:=S.need e11;rw[eV,iQ (by rw[e11];decide),iJ e11];refine⟨rfl,W,⟨by rw[← h.sz];exact S.sz,by rw[← h.most];exact S.most,by rw[← h.lv];exact n2,λp x hx=>h.K p x (by rw[← S.K];exact hx)⟩,rfl,rfl,?_,?_⟩
    ·rw[n1];exact GW
    ·rw[n1]
   ·rw[eV,eW,← D.e,← D.nx,← D.blk,← D.s];by_cases h1:A.e=0
    ·rw[iJ h1,iJ h1];by_cases h2:A.blk=true
     ·right;rw[iJ h2,iJ h2];exact⟨(nofun),rfl,rfl,rfl,rfl,D.v⟩
     ·rw[iQ h2,iQ h2];have hb:A.blk=false:=by simpa using h2
      have nW:=SW.next (by rw[← D.e];exact h1) (by rw[← D.blk];exact hb);rw[← D.nx,← D.s]at nW;have hfr:=S.fr;rcases ih (S.next h1 hb) nW omQ D.v with⟨k,W',p,hK,hz,g,e⟩ |r
      ·exact .inl ⟨k,W',p,hK.trans SW.K,hz.trans SW.sz,g,e⟩
      ·exact .inr r
    ·rw[iQ h1,iQ h1];by_cases h2:A.e=11
     ·left;obtain⟨n1,n2,_⟩:=S.need h2;obtain⟨m1,m2,_⟩:=SW.need (by rw[← D.e];exact h2);rw[iJ h2,iJ h2];refine⟨rfl,W,⟨by rw[← h.sz];exact S.sz,by rw[← h.most];exact S.most,by rw[← h.lv];exact n2,λp x hx=>h.K p x (by rw[← S.K];exact hx)⟩,rfl,rfl,?_,?_⟩
      ·show GI l A.s W;rw[n1];exact GW
      ·show _=jL l (qO l) (n+1) A.s W;rw[n1,eW,← D.e,← D.nx,← D.blk,← D.s,iQ h1,iJ h2,n1]
     ·right;rw[iQ h2,iQ h2];exact⟨(nofun),rfl,rfl,rfl,rfl,D.v⟩
end
section
theorem Zc {p v:Int} {l:List Cl} {c:Cl} (h:c∈vW p v l):c=(p,v)∨c∈l:=by
 induction l with
 |nil=>exact .inl (List.mem_singleton.1 h)
 |cons d l ih=>
  unfold vW at h
  split at h
  ·rename_i hd;rcases List.mem_cons.1 h with rfl |h
   ·exact .inl rfl
   ·exact .inr (iX _ h)
  ·rcases List.mem_cons.1 h with rfl |h
   ·exact .inr (iK ..)
   ·rcases ih h with h |h
    ·exact .inl h
    ·exact .inr (iX _ h)
theorem Zh {cs:List Cl}:∀{l:List Cl} {c:Cl},c∈vX l cs→c∈cs∨c∈l:=by
 induction cs with
 |nil=>intro l c h;exact .inr h
 |cons d r ih=>
  intro l c h;rcases ih h with h |h
  ·exact .inl (iX _ h)
  ·rcases Zc h with h |h
   ·exact .inl (by rw[h];exact iK ..)
   ·exact .inr h
theorem qWe:∀{lv:List LvM} {out:List Cl} {c:Cl},c∈lv.foldl (λout x=>vX x.1 out) out→c∈out∨∃x∈lv,c∈x.1:=by
 intro lv
 induction lv with
 |nil=>intro out c h;exact .inl h
 |cons x r ih=>
  intro out c h;rcases ih h with h |⟨y,hy,h⟩
  ·rcases Zh h with h |h
   ·exact .inl h
   ·exact .inr ⟨x,iK ..,h⟩
  ·exact .inr ⟨y,iX _ hy,h⟩
theorem J2 {lv:List LvM} {c:Cl} (h:c∈jZ lv):∃x∈lv,c∈x.1:=by
 rcases qWe h with h |h
 ·cases h
 ·exact h
theorem NK {lv:List LvM} (h:∀x∈lv,∀c∈x.1,0≤c.2∧c.2<18446744073709551616):∀c∈jZ lv,0≤c.2∧c.2<18446744073709551616:=λc hc=>by
 obtain⟨x,hx,h1⟩:=J2 hc;exact h x hx c h1
def InL (n:Nat) (lv:List LvM):Prop:=∀x∈lv,∀c∈x.1,1≤c.1∧c.1<n
theorem qxu {n most:Nat} {lv:List LvM} {p v:Int} (h:InL n lv) (hp:1≤p∧p<n):InL n (gw most lv p v).2:=by
 unfold gw;cases lv with
 |nil=>exact h
 |cons x r=>
  dsimp only
  split
  ·exact h
  ·split
   ·exact h
   ·intro y hy c hc;rcases List.mem_cons.1 hy with rfl |hy
    ·rcases Zc hc with rfl |hc
     ·exact hp
     ·exact h x (iK ..) c hc
    ·exact h y (iX _ hy) c hc
theorem qG4 {n most:Nat} {was:List LvM} (hw:InL n was):∀{cs:List Cl} {lv:List LvM},InL n lv→(∀c∈cs,1≤c.1∧c.1<n)→InL n (vt most was lv cs).2:=by
 intro cs
 induction cs with
 |nil=>intro lv h _;exact h
 |cons c cs ih=>
  intro lv h hc;rw[gC]
  split
  ·exact ih (qxu h (hc c (iK ..))) λd hd=>hc d (iX _ hd)
  ·exact hw
def InV (V:VM):Prop:=InL V.sz V.lv
theorem InV.read {V:VM} (h:InV V) (p:Int):InV (qi V p).2:=by
 unfold qi
 repeat' split
 all_goals exact h
theorem InV.take {V:VM} (h:InV V) (cs:List Cl):InV (zw V cs).2:=by
 unfold zw
 split
 ·rename_i hc;exact qG4 h h hc
 ·exact h
theorem InV.ask {V:VM} (h:InV V) (b:Int):InV (zq V b).2:=by
 unfold zq
 repeat' split
 all_goals first |exact h |exact h.read _
theorem InV.again {V:VM} (h:InV V) (c b:Int):InV (yw V c b).2:=by
 unfold yw
 repeat' split
 all_goals first |exact h |exact h.read _ |exact(h.read _).take _
theorem InV.grown {V:VM} (h:InV V) (c:Int):InV (yx V c).2:=by
 unfold yx
 repeat' split
 all_goals first |exact h |exact h.read _ |exact(h.read _).take _
theorem InV.alloc {V:VM} (h:InV V) (n:Int):InV (xG V n).2:=by
 unfold xG
 repeat' split
 all_goals first |exact h |exact h.read _ |exact(h.read _).grown _ |exact(h.read _).again _ _
theorem InV.freed {V:VM} (h:InV V) (b:Int):InV (freeV V b):=by
 intro x hx c hc;have hx:x∈XF V.lv b:=hx;unfold XF at hx;cases hl:V.lv with
 |nil=>rw[hl]at hx;cases hx
 |cons y r=>
  rw[hl]at hx;rcases List.mem_cons.1 hx with rfl |hx
  ·exact h y (by rw[hl];exact iK ..) c hc
  ·exact h x (by rw[hl];exact iX _ hx) c hc
theorem InV.free {V:VM} (h:InV V) (b:Int):InV (vo V b).2:=by
 unfold vo
 repeat' split
 all_goals first |exact(((h.ask _).take _).freed _) |exact(h.ask _).take _ |exact h.ask _
theorem InV.give {V:VM} (h:InV V) (b:Int):InV (zj V b).2:=by
 unfold zj
 repeat' split
 all_goals first |exact((h.ask _).read _).take _ |exact(h.ask _).read _ |exact h.ask _
theorem InV.open' {V:VM} (h:InV V):InV (vj V).2:=by
 unfold vj QI
 split
 ·exact h
 ·intro x hx c hc;rcases List.mem_cons.1 hx with rfl |hx
  ·cases hc
  ·exact h x hx c hc
theorem InV.drop {V:VM} (h:InV V):InV (xi V).2:=by
 unfold xi QH
 split
 ·exact h
 ·intro x hx c hc;exact h x (List.mem_of_mem_tail hx) c hc
theorem InV.keep {V:VM} (h:InV V):InV (vS V).2:=by
 intro x hx c hc;have hx:x∈(Jv V.lv).2:=hx;unfold Jv at hx
 split at hx
 ·rename_i a b r hl;rcases List.mem_cons.1 hx with rfl |hx
  ·rcases Zh hc with hc |hc
   ·exact h a (by rw[hl];exact iK ..) c hc
   ·exact h b (by rw[hl];exact iX _ (iK ..)) c hc
  ·exact h x (by rw[hl];exact iX _ (iX _ hx)) c hc
 ·exact h x hx c hc
theorem InV.begin_ {V:VM} (h:InV V) {op a nx:Int} {s:IM}:InV (zM op a nx s V).v:=by
 unfold zM
 split<;>exact h.open'
theorem InV.retry {mt:List Int} {s:IM}:∀(o:List PtM) {V:VM},InV V→InV (vG mt o s V).v:=by
 intro o
 induction o with
 |nil=>intro V h;exact h
 |cons p o ih=>
  intro V h;unfold vG
  split
  ·split
   ·exact(InV.begin_ h.drop)
   ·exact ih h.drop
  ·exact h.drop
theorem InV.turn {V:VM} (h:InV V) (mt:List Int) (s:IM) (op:Int):InV (wB mt s V op).v:=by
 unfold wB
 split
 ·exact InV.begin_ h
 ·split
  ·exact h.keep
  ·split
   ·exact h.keep
   ·split
    ·exact h.drop
    ·exact InV.retry _ h
theorem InV.touch {V:VM} (h:InV V) (s:IM) (x:qR):InV (jh s V x).2.2:=by
 unfold jh
 split
 ·split
  ·split<;>exact h.read _
  ·exact h
 ·split
  ·split
   ·exact h.take _
   ·exact h
  ·split
   ·split
    ·exact h
    ·split<;>exact h.alloc _
   ·split
    ·exact h
    ·exact h.free _
theorem qw7 {c:Prop} [Decidable c] {a b:SM} (ha:InV a.v) (hb:InV b.v):InV (if c then a else b).v:=by
 split
 ·exact ha
 ·exact hb
theorem InV.do_ {V:VM} (h:InV V) (mt:List Int) (s:IM) (x:qR):InV (doM mt s V x).v:=by
 have ht:=h.touch s x;have hu:=h.turn mt s x.1;unfold doM;generalize jh s V x=T at*;generalize wB mt s V x.1=U at*
 repeat' (first |exact h |exact ht |exact hu |apply qw7)
theorem InV.run {l:List qR} {mt:List Int}:∀(n:Nat) {s:IM} {V:VM},InV V→InV (jL l mt n s V).v:=by
 intro n
 induction n with
 |zero=>intro s V h;rw[gc];split<;>exact h
 |succ n ih=>
  intro s V h;have hd:=h.do_ mt s (qS l s.pc);rw[ww];generalize doM mt s V (qS l s.pc)=D at*
  split
  ·exact h
  ·split
   ·split
    ·exact hd
    ·exact ih hd
   ·split<;>exact hd
theorem InV.gives:∀(bs:List Int) (k:Nat) {V:VM},InV V→InV (jR V bs k).2:=by
 intro bs
 induction bs with
 |nil=>intro k V h;exact h
 |cons b r ih=>
  intro k V h;unfold jR
  split
  ·exact ih _ (h.give b)
  ·exact h.give b
end
section
abbrev U64 (z:Int):Prop:=0≤z∧z<18446744073709551616
structure Zi (M:jC):Prop where
  w:∀z∈M.w,U64 z
  n:U64 M.n
  s:∀z∈M.s,U64 z
theorem qKr {l:List Int} (h:∀z∈l,U64 z) (i:Int):U64 (qM l i):=by
 unfold qM;cases hi:l[i.toNat]? with
 |none=>exact⟨Int.le_refl _,by decide⟩
 |some z=>exact h z (List.mem_of_getElem? hi)
theorem ZE {l:List Int} (h:∀z∈l,U64 z) {i:Nat} {w:Int} (hw:U64 w):∀z∈l.set i w,U64 z:=λz hz=>by
 rcases List.mem_or_eq_of_mem_set hz with hz |rfl
 ·exact h z hz
 ·exact hw
theorem Zk {M:jC} {o:OpM} (R:Zi M) (ho:U64 o.word):Yh (jw M o).1∧Zi (jw M o).2:=by
 have z0:U64 (0:Int):=⟨Int.le_refl _,by decide⟩;have key:Yh (vK M o).1∧Zi (vK M o).2:=by
  unfold vK
  split
  ·unfold XI
   split
   ·exact⟨z0,R⟩
   ·split
    ·exact⟨qKr R.w _,R⟩
    ·exact⟨z0,⟨ZE R.w ho,R.n,R.s⟩⟩
  ·split
   ·unfold Qb
    repeat' split
    all_goals exact⟨z0,⟨R.w,R.n,R.s⟩⟩
   ·split
    ·unfold XV
     split
     ·exact⟨R.n,R⟩
     ·repeat' split
      all_goals first |exact⟨z0,R⟩ |exact⟨z0,⟨R.w,ho,R.s⟩⟩
    ·split
     ·unfold Q6
      split
      ·exact⟨z0,R⟩
      ·split
       ·exact⟨qKr R.s _,R⟩
       ·exact⟨z0,⟨R.w,R.n,ZE R.s ho⟩⟩
     ·exact⟨z0,R⟩
 rw[kY]
 split
 ·exact⟨key.1,⟨key.2.w,key.2.n,key.2.s⟩⟩
 ·exact key
theorem Nc {M:jC} {o:OpM}:(jw M o).2.cnt≤M.cnt+1∧M.cnt≤(jw M o).2.cnt:=by
 have h:=qJc (M:=M) (o:=o);rw[kY]
 split
 ·show(vK M o).2.cnt+1≤_∧_≤(vK M o).2.cnt+1;omega
 ·omega
theorem YL {c:zE} {f e y:Int}:(kr c f e y).cells=c.cells:=by unfold kr gU;split<;>rfl
theorem Mi {c:zE} {l:LkM}:(Qf c l).cells=c.cells:=by 
 unfold Qf
 split
 ·rfl
 ·exact YL
theorem OV {c:zE}:(vL c).cells=c.cells:=by unfold vL;split<;>rfl
theorem MC {c:zE}:(vv c).cells=c.cells:=by 
 unfold vv
 split
 ·exact OV
 ·rfl
theorem Gv {c:zE}:(kB c).cells=c.cells:=MC
theorem UY:∀(n:Nat) (c:zE),(gE c n).cells=c.cells:=by
 intro n
 induction n with
 |zero=>intro c;exact Gv
 |succ n ih=>
  intro c;unfold gE
  split
  ·split
   ·rfl
   ·split
    ·exact YL
    ·exact ih _
  ·exact Gv
theorem qGd {c:zE} {a:AnM}:(zH c a).cells=c.cells:=by
 unfold zH
 split
 ·rfl
 ·split
  ·unfold ku
   split
   ·exact Mi
   ·split
    ·rfl
    ·split
     ·rfl
     ·rfl
  ·split
   ·unfold wQ
    split
    ·exact YL
    ·split
     ·rfl
     ·split
      ·rfl
      ·split
       ·exact Gv
       ·exact UY _ _
   ·split
    ·unfold wU
     split
     ·exact Mi
     ·split
      ·exact YL
      ·exact UY _ _
    ·split
     ·exact MC
     ·split
      ·exact OV
      ·unfold gU
       split<;>rfl
def XQ (x:jG):Prop:=∀c,x.c=some c→∀q∈c.cells,U64 q.2
theorem qYH {x:jG} {k e:Int} (G:jI x.v) (W:XQ x):XQ (gY x k e):=by
 unfold gY
 split
 ·exact W
 ·split
  ·exact W
  ·split
   ·exact W
   ·split
    ·exact W
    ·intro c hc;cases hc;exact NK G.wd.l
theorem NB {x:jG} (B:kU x) (hj:JobOk True x.v x.job) (W:XQ x):XQ (yW x):=by have D:=Ud B.good B.fr hj;refine qYH D.good ?_;intro c hc;rw[D.same.2.2.2.2]at hc;exact W c hc
theorem OQ {x:jG} {a:AnM} (O:zm x) (W:XQ x) (ha:Yh a):XQ (jU x a):=by
 have hst:=O.st;have stamped:∀{y:jG},XQ y→XQ (xz y):=λ{y} h=>by
  unfold xz
  split
  ·split<;>exact h
  ·exact h
 have told:∀{y:jG},zm y→3≤y.state→y.state≤6→XQ y→XQ (xu y):=λ{y} O h3 h6 W=>by
  refine stamped ?_;show XQ (if(xI y).1=0 then y else if(xI y).1=5 then xd y 5 0 (xI y).2 else yA y)
  split
  ·exact W
  ·split
   ·exact W
   ·unfold yA
    split
    ·rename_i hs;have hw:=Kd (O.f hs).2;unfold yL
     split
     ·exact W
     ·split
      ·have hj:=(O.job.same λ_=>by omega:JobOk True y.v y.job).know (p:=y.v.need) hw;refine NB ⟨O.set,X7 O.good hw,by show((xW y.v y.v.need (yP y.f)).2.sz:Int)=y.set.words;rw[kX.2];exact O.sz,by show frS (xW y.v y.v.need (yP y.f)).2.lv<9000;rw[kX.1];exact O.fr,KQ O.r,hj.same λh=>h.elim,O.c⟩ hj W
      ·split<;>exact W
    ·split
     ·exact W
     ·split
      ·exact W
      ·split<;>exact W
 unfold jU
 split
 ·exact W
 ·split
  ·exact W
  ·split
   ·exact W
   ·split
    ·exact W
    ·split
     ·exact NB O.b (O.job.same λ_=>by omega) W
     ·split
      ·exact W
      ·split
       ·rename_i hs;have hf:=O.f hs;refine told ?_ (by show 3≤x.state;omega) (by show x.state≤6;omega) W;exact⟨O.set,O.good,O.sz,O.fr,O.r,O.job,O.st,λ_=>⟨GJ hf.1,Kn hf.2 ha⟩,O.need,O.e,O.c,O.c0,O.c6⟩
       ·split
        ·rename_i hs;refine told ?_ (by show 3≤x.state;omega) (by show x.state≤6;omega) ?_
         ·refine⟨O.set,O.good,O.sz,O.fr,O.r,O.job,O.st,O.f,O.need,O.e,λc h=>?_,λh=>absurd h (by show¬x.state≤5;omega),λh hn=>O.c6 h ?_⟩
          ·obtain⟨c',h1,rfl⟩:=Option.map_eq_some_iff.1 h;exact Kp (O.c c' h1) ha
          ·exact Option.map_eq_none_iff.1 hn
         ·intro c h;obtain⟨c',h1,rfl⟩:=Option.map_eq_some_iff.1 h;rw[qGd];exact W c' h1
        ·refine told ?_ (by show 3≤x.state;omega) (by show x.state≤6;omega) W;exact⟨O.set,O.good,O.sz,O.fr,O.r,O.job,O.st,O.f,O.need,λh1 h2=>Gx (O.e h1 h2),O.c,O.c0,O.c6⟩
theorem Ox {x:jG} {o:OpM} (O:zm x) (W:XQ x) (h:xA x=some o):U64 o.word:=by
 have z0:U64 (0:Int):=⟨Int.le_refl _,by decide⟩;unfold xA at h
 split at h
 ·cases h;exact⟨by show(0:Int)≤1;decide,by show(1:Int)<_;decide⟩
 ·split at h
  ·cases h;exact z0
  ·split at h
   ·cases h;exact qVU _
   ·split at h
    ·cases h;exact z0
    ·split at h
     ·cases h
     ·split at h
      ·unfold US at h
       split at h
       ·cases h
       ·split at h<;>(cases h;exact z0)
      ·split at h
       ·rename_i h6;cases hc:x.c with
        |none=>rw[hc]at h;cases h
        |some c=>
         rw[hc]at h;have hn:=(O.c c hc).now;have h:yK c=some o:=h;unfold yK at h
         split at h
         ·cases h
         ·split at h
          ·cases h;exact z0
          ·split at h
           ·cases h;exact z0
           ·split at h
            ·cases h;exact z0
            ·split at h
             ·cases h;exact⟨by show 0≤c.now+1;omega,by show c.now+1<_;omega⟩
             ·split at h
              ·cases h;exact z0
              ·split at h
               ·cases h;show U64 (kP c.cells c.at_).2;unfold kP;cases hi:c.cells[c.at_.toNat]? with
                |none=>exact z0
                |some q=>exact W c hc q (List.mem_of_getElem? hi)
               ·split at h<;>(cases h;exact z0)
       ·unfold Jn at h
        split at h
        ·cases h
        ·split at h<;>(cases h;exact z0)
theorem ZN {me:Int} {S:zv} {j:Jw}:XQ (GK me S j):=λc h=>by cases h
end
section
inductive Stp:Nat→jG→jC→jG→jC→Prop
  |nil {x:jG} {M:jC}:Stp 0 x M x M
  |cons {k:Nat} {x y:jG} {M N:jC} {o:OpM} (hn:xA x=some o) (r:Stp k (jU x (jw M o).1) (jw M o).2 y N):Stp (k+1) x M y N
theorem Stp.trans {a b:Nat} {x y z:jG} {M N O:jC} (s:Stp a x M y N) (t:Stp b y N z O):Stp (a+b) x M z O:=by
 induction s with
 |nil=>rw[Nat.zero_add];exact t
 |cons hn _ ih=>rw[Nat.add_right_comm];exact .cons hn (ih t)
theorem Stp.one {x y:jG} {M N:jC} {o:OpM} (hn:xA x=some o) (e:jw M o=(⟨0,lk0,false,0⟩,N)) (h:jU x ⟨0,lk0,false,0⟩=y):Stp 1 x M y N:=by refine .cons hn ?_;rw[e];rw[h];exact .nil
theorem Stp.step {x y:jG} {M N:jC} {o:OpM} {a:AnM} (hn:xA x=some o) (e:jw M o=(a,N)) (h:jU x a=y):Stp 1 x M y N:=by refine .cons hn ?_;rw[e];rw[h];exact .nil
def bump (M:jC) (k:Int):jC:={ M with cnt:=M.cnt+k }
theorem wP (M:jC) (a b:Int):bump (bump M a) b=bump M (a+b):=by unfold bump;rw[Int.add_assoc]
structure xv (S:zv) (M:jC) (me:Int):Prop where
  w:(M.w.length:Int)=S.words
  l:(M.l.length:Int)=S.stripes
  s:(M.s.length:Int)=S.threads
  me:0≤me∧me<S.threads
  lk:∀i:Nat,i<M.l.length→∃v:Int,zx M.l i=(v,false,0)∧0≤v∧v≤M.n
  n:0≤M.n∧M.n<4611686018427387902
  wd:∀z∈M.w,0≤z∧z<18446744073709551616
section
variable {S:zv} {M:jC} {me:Int}
theorem xv.bump (C:xv S M me) (k:Int):xv S (bump M k) me:=⟨C.w,C.l,C.s,C.me,C.lk,C.n,C.wd⟩
theorem UO (C:xv S M me) {s:Int} (h:0≤s∧s<S.stripes):jw M (op0 3 s 0)=(⟨0,zx M.l s,false,0⟩,bump M 1):=by
 have hl:=C.l;have e:Qb M (op0 3 s 0)=(⟨0,zx M.l s,false,0⟩,M):=by unfold Qb;rw[iQ (by show¬(s<0∨(M.l.length:Int)≤s);omega),iJ (by rfl)];rfl
 show(if(Qb M (op0 3 s 0)).1.err=0 then((Qb M (op0 3 s 0)).1,{ (Qb M (op0 3 s 0)).2 with cnt:=(Qb M (op0 3 s 0)).2.cnt+1 })else Qb M (op0 3 s 0))=_;rw[e];rfl
theorem qwF (C:xv S M me) {p:Int} (h:1≤p∧p<S.words):jw M (op0 1 p 0)=(⟨qM M.w p,lk0,false,0⟩,bump M 1):=by
 have hl:=C.w;have e:XI M (op0 1 p 0)=(⟨qM M.w p,lk0,false,0⟩,M):=by unfold XI;rw[iQ (by show¬(p<1∨(M.w.length:Int)≤p);omega),iJ (by rfl)];rfl
 show(if(XI M (op0 1 p 0)).1.err=0 then((XI M (op0 1 p 0)).1,{ (XI M (op0 1 p 0)).2 with cnt:=(XI M (op0 1 p 0)).2.cnt+1 })else XI M (op0 1 p 0))=_;rw[e];rfl
theorem qQH (M:jC):jw M (op0 6 0 0)=(⟨M.n,lk0,false,0⟩,bump M 1):=rfl
theorem VV (C:xv S M me) {w:Int}:jw M (op0 9 me w)=(an0,{ M with s:=M.s.set me.toNat w,cnt:=M.cnt+1 }):=by
 have hl:=C.s;have hm:=C.me;have e:Q6 M (op0 9 me w)=(an0,{ M with s:=M.s.set me.toNat w }):=by unfold Q6;rw[iQ (by show¬(me<0∨(M.s.length:Int)≤me);omega),iQ (by show¬(9:Int)=8;decide)];rfl
 show(if(Q6 M (op0 9 me w)).1.err=0 then((Q6 M (op0 9 me w)).1,{ (Q6 M (op0 9 me w)).2 with cnt:=(Q6 M (op0 9 me w)).2.cnt+1 })else Q6 M (op0 9 me w))=_;rw[e];rfl
theorem xv.at (C:xv S M me) {s:Int} (h:0≤s∧s<S.stripes):∃v:Int,zx M.l s=(v,false,0)∧0≤v∧v≤M.n:=by have hl:=C.l;obtain⟨k,rfl⟩:∃k:Nat,s=k:=⟨s.toNat,by omega⟩;exact C.lk k omQ
theorem qZc {S:zv} (O:yX S) {p:Int} (hp:0≤p):0≤ofM p S.stripes S.wide∧ofM p S.stripes S.wide<S.stripes:=by have h:=O.stripes;unfold ofM;rw[iQ omQ,show max 1 (min S.stripes 16)=S.stripes by omega];exact⟨Int.emod_nonneg _ omQ,Int.emod_lt_of_pos _ omQ⟩
structure kO (S:zv) (M:jC) (r:List xP):Prop where
  at_:∀y∈r,0≤y.1∧y.1<S.stripes∧y.2=(zx M.l y.1).1
  un:(r.map (·.1)).Nodup
theorem kO.len {r:List xP} (O:yX S) (R:kO S M r):r.length≤16:=by
 have:=GS 16 (r.map (·.1)) R.un (λx hx=>by
  obtain⟨y,hy,rfl⟩:=List.mem_map.1 hx;have h1:=R.at_ y hy;have h2:=O.stripes
  omega)
 simpa using this
theorem kO.add {r:List xP} (O:yX S) (C:xv S M me) (R:kO S M r) {s:Int} (hs:0≤s∧s<S.stripes):(kE r (s,(zx M.l s).1)).1=0∧kO S M (kE r (s,(zx M.l s).1)).2:=by
 obtain⟨v,e,h0,h1⟩:=C.at hs;have hst:=O.stripes;have hn:=C.n;unfold kE;rw[iQ (by rw[e];omega)];cases hf:r.find? λy=>decide (y.1=(s,(zx M.l s).1).1)with
 |some y=>
  dsimp only;have hy:=List.find?_some hf;have hm:=List.mem_of_find?_eq_some hf;have h2:=R.at_ y hm;have hys:y.1=s:=by simpa using hy
  rw[iQ (by rw[h2.2.2,hys];exact λh=>h rfl)];exact⟨rfl,R⟩
 |none=>
  have hno:∀y∈r,y.1≠s:=λy hy h=>by
   have:=List.find?_eq_none.1 hf y hy;simp[h]at this
  have hnd:(s::r.map (·.1)).Nodup:=List.nodup_cons.2 ⟨λh=>by obtain⟨y,hy,h2⟩:=List.mem_map.1 h;exact hno y hy h2,R.un⟩
  have hl:=GS 16 _ hnd (λx hx=>by
   rcases List.mem_cons.1 hx with rfl |hx
   ·omega
   ·obtain⟨y,hy,rfl⟩:=List.mem_map.1 hx;have h1:=R.at_ y hy
    omega)
  simp at hl;rw[iQ omQ];refine⟨rfl,λy hy=>?_,?_⟩
  ·rcases List.mem_append.1 hy with hy |hy
   ·exact R.at_ y hy
   ·rw[List.mem_singleton]at hy;subst hy;exact⟨hs.1,hs.2,rfl⟩
  ·show((r++[(s,(zx M.l s).1)]).map (·.1)).Nodup;rw[List.map_append,List.nodup_append];refine⟨R.un,List.nodup_cons.2 ⟨λh=>(by cases h),List.nodup_nil⟩,λa ha b hb=>?_⟩;obtain⟨y,hy,rfl⟩:=List.mem_map.1 ha;rw[List.map_singleton,List.mem_singleton]at hb;subst hb;exact hno y hy
theorem GX {x:jG} (h:(xI x).1=0) (hw:zh x=false):xu x=x:=by unfold xu;rw[iJ h];unfold xz;rw[hw];rfl
theorem kD {x:jG} (h:x.c=none):zh x=false:=by unfold zh;rw[h];exact Bool.and_false _
theorem qjn {x:jG} (h:x.c=none):zh (yW x)=false:=by
 have hc:(y8 x).2.c=none:=by
  unfold y8
  split<;>exact h
 unfold yW gY;generalize(y8 x).2=y at*
 split
 ·exact kD hc
 ·split
  ·exact kD hc
  ·split
   ·exact kD hc
   ·split
    ·exact kD hc
    ·unfold zh;dsimp only;have e:∀(me sp st:Int) (r:List xP) (cs:List Cl) (a w:Int),wo (XL me sp st r cs a w)=false∧(XL me sp st r cs a w).p.fin=0:=λ_ _ _ _ _ _ _=>⟨rfl,rfl⟩;rw[(e ..).1,(e ..).2];rfl
theorem Gj {x:jG} {a:AnM} (h3:x.state=3) (ha:a.err=0):jU x a=xu { x with f:=xo x.f a }:=by unfold jU;rw[iQ omQ,iQ (by rw[ha];exact λh=>h rfl),iQ omQ,iQ omQ,iQ omQ,iQ omQ,iJ h3]
theorem qy2 (O:yX S) (C:xv S M me) {x:jG} (h3:x.state=3) (hc:x.c=none) {p:Int} (hf:x.f=Qg x.me p (ofM p S.stripes S.wide) S.spins x.stamp) (hs:x.stamp=M.n) (hp:1≤p∧p<S.words) (hR:kO S M x.r) (hn:x.v.need=p) :
  ∃F:JV,Stp 3 x M (yW { x with f:=F,r:=(kE x.r (ofM p S.stripes S.wide,(zx M.l (ofM p S.stripes S.wide)).1)).2,v:=(xW x.v p (qM M.w p)).2 }) (bump M 3):=by
 have hof:=qZc O (p:=p) omQ;generalize hst:ofM p S.stripes S.wide=st at*;obtain⟨v,e,h0,h1⟩:=C.at hof;have ha:=(kO.add O C hR hof).1;rw[e]at ha ⊢;have n1:xA x=some (op0 3 st 0):=by unfold xA;rw[iQ omQ,iQ omQ,iQ omQ,iQ omQ,iQ omQ,iJ h3,hf];rfl
 have s1:Stp 1 x M { x with f:={ Qg x.me p st S.spins x.stamp with lk:=(v,false,0),state:=1 } } (bump M 1):=by
  refine .step n1 (UO C hof) ?_;rw[e,Gj h3 rfl,hf];have ef:xo (Qg x.me p st S.spins x.stamp) ⟨0,(v,false,0),false,0⟩={ Qg x.me p st S.spins x.stamp with lk:=(v,false,0),state:=1 }:=by show(if x.stamp<v then _ else _)=_;rw[iQ omQ]
  rw[ef];refine GX ?_ (kD hc);unfold xI;rw[iJ h3];rfl
 have s2:Stp 1 { x with f:={ Qg x.me p st S.spins x.stamp with lk:=(v,false,0),state:=1 } } (bump M 1) { x with f:={ Qg x.me p st S.spins x.stamp with lk:=(v,false,0),state:=2,word:=qM M.w p } } (bump (bump M 1) 1):=by
  refine .step ?_ (qwF (C.bump 1) hp) ?_
  ·unfold xA;rw[iQ (by show¬x.state=0;omega),iQ (by show¬x.state=1;omega),iQ (by show¬x.state=2;omega),iQ (by show¬x.state=7;omega),iQ (by show¬x.state=8;omega),iJ (by exact h3)];rfl
  ·rw[Gj (by exact h3) rfl];refine GX ?_ (kD hc);unfold xI;rw[iJ (by exact h3)];rfl
 have s3:Stp 1 { x with f:={ Qg x.me p st S.spins x.stamp with lk:=(v,false,0),state:=2,word:=qM M.w p } } (bump (bump M 1) 1)
   (yW { x with f:={ Qg x.me p st S.spins x.stamp with lk:=(v,false,0),state:=2,word:=qM M.w p,p:=zy (JQ x.me S.spins) 2 0 (-1) },r:=(kE x.r (st,v)).2,v:=(xW x.v p (qM M.w p)).2 }) (bump (bump (bump M 1) 1) 1):=by
  refine .step ?_ (UO ((C.bump 1).bump 1) hof) ?_
  ·unfold xA;rw[iQ (by show¬x.state=0;omega),iQ (by show¬x.state=1;omega),iQ (by show¬x.state=2;omega),iQ (by show¬x.state=7;omega),iQ (by show¬x.state=8;omega),iJ (by exact h3)];rfl
  ·rw[Gj (by exact h3) rfl];have ef:xo { Qg x.me p st S.spins x.stamp with lk:=(v,false,0),state:=2,word:=qM M.w p } ⟨0,zx (bump (bump M 1) 1).l st,false,0⟩={ Qg x.me p st S.spins x.stamp with lk:=(v,false,0),state:=2,word:=qM M.w p,p:=zy (JQ x.me S.spins) 2 0 (-1) }:=by
    show xo _ ⟨0,zx M.l st,false,0⟩=_;rw[e];unfold xo;rw[iQ (by exact nofun),iQ (by show¬(2:Int)=1;decide),iJ ⟨rfl,rfl⟩];rfl
   rw[ef];unfold xu;have hfin:(xI { x with f:={ Qg x.me p st S.spins x.stamp with lk:=(v,false,0),state:=2,word:=qM M.w p,p:=zy (JQ x.me S.spins) 2 0 (-1) } }).1=2:=by unfold xI;rw[iJ (by exact h3)];rfl
   rw[hfin,iQ od,iQ od];have hend:yA { x with f:={ Qg x.me p st S.spins x.stamp with lk:=(v,false,0),state:=2,word:=qM M.w p,p:=zy (JQ x.me S.spins) 2 0 (-1) } }=yW { x with f:={ Qg x.me p st S.spins x.stamp with lk:=(v,false,0),state:=2,word:=qM M.w p,p:=zy (JQ x.me S.spins) 2 0 (-1) },r:=(kE x.r (st,v)).2,v:=(xW x.v p (qM M.w p)).2 }:=by unfold yA;rw[iJ (by exact h3)];unfold yL;rw[iQ (by show¬(2:Int)=6;decide)];have es:vY { Qg x.me p st S.spins x.stamp with lk:=(v,false,0),state:=2,word:=qM M.w p,p:=zy (JQ x.me S.spins) 2 0 (-1) }=(st,v):=rfl;have ew:yP { Qg x.me p st S.spins x.stamp with lk:=(v,false,0),state:=2,word:=qM M.w p,p:=zy (JQ x.me S.spins) 2 0 (-1) }=qM M.w p:=rfl;rw[es,ew,iJ ha,hn]
   rw[hend];unfold xz;rw[qjn (by exact hc)];rfl
 have:=(s1.trans s2).trans s3;rw[wP,wP]at this;exact⟨_,this⟩
end
end
section
theorem X5 {l t:List qR} {j:Nat} (h:j<l.length):qS (l++t) (j:Int)=qS l (j:Int):=by unfold qS;rw[Int.toNat_natCast,List.getElem?_append_left h]
theorem JO {l t:List qR} {k:Nat} {x:qR} (h:t[k]? =some x):qS (l++t) ((l.length+k:Nat):Int)=x:=by unfold qS;rw[Int.toNat_natCast,List.getElem?_append_right omQ,show l.length+k-l.length=k by omega,h];rfl
theorem wR {l t:List qR}:∀i,i≤l.length→qI (l++t) i=qI l i:=by
 intro i
 induction i with
 |zero=>intro _;rfl
 |succ i ih=>intro h;rw[jH,jH,ih omQ,X5 omQ]
theorem qvA {l t:List qR} {st:List Int} (h:StOk l.length st):opM (l++t) st=opM l st:=by
 unfold opM;by_cases h0:st=[]
 ·rw[iJ h0,iJ h0]
 ·rw[iQ h0,iQ h0];have hb:=h.inmost h0;obtain⟨p,hp⟩:∃p:Nat,jJ st=p:=⟨(jJ st).toNat,by omega⟩;rw[hp,X5 omQ]
theorem Mf {l t:List qR} {st:List Int} {x:qR} (h:StOk l.length st):zo (l++t) st x=zo l st x:=by unfold zo;rw[qvA h]
theorem StOk.mono {i j:Nat} {st:List Int} (h:StOk i st) (hij:i≤j):StOk j st:=λy hy=>by have:=h y hy;omega
def qz4 (l:List qR) (calm:Bool) (j:Nat) (x:qR):Prop:=(x.1=12∨x.1=13)→∃c:Nat,x.2.2.2.1=c∧c≤l.length∧qI l c=qI l j∧(calm=true→j<c)
structure KJ (calm:Bool) (x:qR):Prop where
  may:gQ x=true
  no:x.1≠23
  n:0≤x.2.2.2.2∧x.2.2.2.2<18446744073709551616
  cal:calm=true→x.1≠20∧x.1≠22∧x.1≠12
structure Bld (calm:Bool) (l:List qR) (st:List Int):Prop where
  ok:∀x∈l,KJ calm x
  wr:∀j,j<l.length→zo l (qI l j) (qS l j)=0
  top:qI l l.length=st
  jp:∀j,j<l.length→qz4 l calm j (qS l j)
  five:st.length≤5
def jm (l:List qR) (st:List Int):List Int:=st.map λp=>(qS l p).1
theorem YI {l t:List qR} {st:List Int} (h:StOk l.length st):jm (l++t) st=jm l st:=by unfold jm;refine List.map_congr_left λp hp=>?_;have:=h p hp;obtain⟨q,rfl⟩:∃q:Nat,p=q:=⟨p.toNat,by omega⟩;rw[X5 omQ]
theorem Bld.stok {calm:Bool} {l:List qR} {st:List Int} (B:Bld calm l st):StOk l.length st:=by rw[← B.top];exact(Ux l.length).1
theorem Bld.nil (calm:Bool):Bld calm [] []:=⟨λx hx=>(by cases hx),λj hj=>(by simp at hj),rfl,λj hj=>(by simp at hj),osQ⟩
theorem Bld.ext {calm:Bool} {l t:List qR} {st:List Int} (B:Bld calm l st) (h1:∀x∈t,KJ calm x) (h2:∀k,k<t.length→zo (l++t) (qI (l++t) (l.length+k)) (qS (l++t) ((l.length+k:Nat):Int))=0)
  (h3:∀k,k<t.length→qz4 (l++t) calm (l.length+k) (qS (l++t) ((l.length+k:Nat):Int))) (h5:(qI (l++t) (l++t).length).length≤5):Bld calm (l++t) (qI (l++t) (l++t).length):=by
 refine⟨?_,?_,rfl,?_,h5⟩
 ·intro x hx;rcases List.mem_append.1 hx with hx |hx
  ·exact B.ok x hx
  ·exact h1 x hx
 ·intro j hj;by_cases hjl:j<l.length
  ·rw[wR j omQ,X5 hjl,Mf ((Ux j).1.mono omQ)];exact B.wr j hjl
  ·have:=h2 (j-l.length) (by simp at hj;omega)
   rwa [show l.length+(j-l.length)=j by omega]at this
 ·intro j hj;by_cases hjl:j<l.length
  ·intro ho;rw[X5 hjl]at ho ⊢;obtain⟨c,c1,c2,c3,c4⟩:=B.jp j hjl ho;exact⟨c,c1,by simp;omega,by rw[wR c c2,wR j omQ];exact c3,c4⟩
  ·have:=h3 (j-l.length) (by simp at hj;omega)
   rwa [show l.length+(j-l.length)=j by omega]at this
theorem qW1 {l:List qR} {x:qR}:qI (l++[x]) (l.length+1)=jz (qI l l.length) l.length x.1:=by have e:=JO (l:=l) (t:=[x]) (k:=0) (x:=x) rfl;rw[Nat.add_zero]at e;rw[jH,wR _ (Nat.le_refl _),e]
theorem Bld.app {calm:Bool} {l:List qR} {st:List Int} (B:Bld calm l st) {x:qR} (h1:KJ calm x) (h2:zo l st x=0) (h3:x.1≠12∧x.1≠13) (h5:(jz st l.length x.1).length≤5):Bld calm (l++[x]) (jz st l.length x.1):=by
 have e:=JO (l:=l) (t:=[x]) (k:=0) (x:=x) rfl;rw[Nat.add_zero]at e;have hs:qI (l++[x]) (l++[x]).length=jz st l.length x.1:=by rw[List.length_append,List.length_singleton,qW1,B.top]
 rw[← hs]at h5 ⊢;refine B.ext (by intro y hy;rw[List.mem_singleton]at hy;subst hy;exact h1) ?_ ?_ h5
 ·intro k hk;obtain rfl:k=0:=by simpa using hk
  rw[Nat.add_zero,e,wR _ (Nat.le_refl _),B.top,Mf B.stok];exact h2
 ·intro k hk;obtain rfl:k=0:=by simpa using hk
  rw[Nat.add_zero,e];intro ho;omega
def Flat (op:Int):Prop:=op≠14∧op≠15∧op≠16∧op≠17∧op≠18∧op≠19
theorem Flat.behind {op:Int} (h:Flat op) (st:List Int) (i:Int):jz st i op=st:=by obtain⟨h1,h2,h3,h4,h5,h6⟩:=h;unfold jz;rw[iQ (by unfold xj;simp;omega),iQ (by unfold zX;rw[iQ h2,iQ h5,iQ h6];omega)]
theorem Flat.wrong {x:qR} (h:Flat x.1) (hm:gQ x=true) (l:List qR) (st:List Int):zo l st x=0:=by
 obtain⟨h1,h2,h3,h4,h5,h6⟩:=h;unfold zo
 rw[iQ (by rw[hm];simp),iQ (λhh=>by have:=hh.1;unfold zX at this;rw[iQ h2,iQ h5,iQ h6]at this;omega),iQ (λhh=>h3 hh.1),
  iQ (λhh=>by have:=hh.1;unfold xj at this;simp at this;omega)]
theorem Bld.flat {calm:Bool} {l:List qR} {st:List Int} (B:Bld calm l st) {x:qR} (h1:KJ calm x) (hf:Flat x.1) (h3:x.1≠12∧x.1≠13):Bld calm (l++[x]) st:=by
 have:=B.app h1 (hf.wrong h1.may l st) h3 (by rw[hf.behind];exact B.five)
 rwa [hf.behind]at this
theorem Bld.two {calm:Bool} {l:List qR} {st:List Int} (B:Bld calm l st) {x y:qR} (hx:KJ calm x) (hy:KJ calm y) (fx:Flat x.1) (fy:Flat y.1)
  (jx:(x.1=12∨x.1=13)→x.2.2.2.1=((l.length+2:Nat):Int)) (jy:(y.1=12∨y.1=13)→y.2.2.2.1=(l.length:Int)∧calm=false):Bld calm (l++[x,y]) st:=by
 have e0:=JO (l:=l) (t:=[x,y]) (k:=0) (x:=x) rfl;have e1:=JO (l:=l) (t:=[x,y]) (k:=1) (x:=y) rfl;rw[Nat.add_zero]at e0;have s0:qI (l++[x,y]) l.length=st:=by rw[wR _ (Nat.le_refl _),B.top]
 have s1:qI (l++[x,y]) (l.length+1)=st:=by rw[jH,s0,e0,fx.behind]
 have s2:qI (l++[x,y]) (l.length+2)=st:=by rw[show l.length+2=l.length+1+1 from rfl,jH,s1,e1,fy.behind]
 have hs:qI (l++[x,y]) (l++[x,y]).length=st:=by rw[List.length_append];exact s2
 have:=B.ext (t:=[x,y]) (by intro z hz;simp at hz;rcases hz with rfl |rfl;exact hx;exact hy) (λk hk=>by
  have hk:k=0∨k=1:=by simp at hk;omega
  rcases hk with rfl |rfl
  ·rw[Nat.add_zero,e0];exact fx.wrong hx.may _ _
  ·rw[e1];exact fy.wrong hy.may _ _) (λk hk=>by
  have hk:k=0∨k=1:=by simp at hk;omega
  rcases hk with rfl |rfl
  ·rw[Nat.add_zero,e0];intro ho;exact⟨l.length+2,jx ho,by simp,by rw[s2,s0],λ_=>by omega⟩
  ·rw[e1];intro ho;obtain⟨a,b⟩:=jy ho
   exact⟨l.length,a,by simp,by rw[s0,s1],λh=>by rw[b]at h;cases h⟩) (by rw[hs];exact B.five)
 rwa [hs]at this
abbrev one (op:Int):qR:=(op,0,0,0,0)
theorem qXd (calm:Bool) {op:Int} (h:op=14∨op=15∨op=16∨op=17∨op=18∨op=19):KJ calm (one op):=by refine⟨?_,by dsimp only;omega,by dsimp only;omega,λ_=>by dsimp only;omega⟩;rcases h with rfl |rfl |rfl |rfl |rfl |rfl<;>decide
theorem Bld.begin {calm:Bool} {l:List qR} {st:List Int} (B:Bld calm l st) {op:Int} (h:op=14∨op=17) (h5:st.length<5):Bld calm (l++[one op]) (st++[(l.length:Int)])∧jm (l++[one op]) (st++[(l.length:Int)])=jm l st++[op]:=by
 have hb:jz st l.length op=st++[(l.length:Int)]:=by unfold jz;rw[iJ (.inl (by unfold xj;exact iG h)),iQ (by rcases h with rfl |rfl<;>decide)]
 have hw:zo l st (one op)=0:=by unfold zo;rw[iQ (by rcases h with rfl |rfl<;>decide),iQ (λhh=>by have:=hh.1;rcases h with rfl |rfl<;>exact absurd this od),iQ (λhh=>by have:=hh.1;dsimp only at this;omega),iQ omQ]
 have:=B.app (qXd calm omQ) hw (by dsimp only;omega) (by rw[hb];simp;omega);rw[hb]at this;refine⟨this,?_⟩;unfold jm;rw[List.map_append]
 congr 1
 ·exact YI B.stok
 ·have e:=JO (l:=l) (t:=[one op]) (k:=0) (x:=one op) rfl;rw[Nat.add_zero]at e;rw[List.map_singleton,e]
theorem Bld.undo {calm:Bool} {l:List qR} {st:List Int} (B:Bld calm l st) (h:opM l st=14):Bld calm (l++[one 16]) st:=by
 have hb:jz st l.length 16=st:=by unfold jz;rw[iQ od,iQ od]
 have hw:zo l st (one 16)=0:=by unfold zo;rw[iQ od,iQ (λhh=>absurd hh.1 od),iQ (λhh=>hh.2 h),iQ (λhh=>absurd hh.1 od)]
 have:=B.app (qXd calm omQ) hw od (by rw[hb];exact B.five)
 rwa [hb]at this
def vm (o:Int):Int:=if o=14 then 15 else if o=17 then 18 else 19
def JI (l:List qR) (st:List Int):List qR:=l++[one (vm (opM l st))]
def Yb (l:List qR) (st:List Int):List Int:=if opM l st=17 then st.dropLast++[(l.length:Int)]else st.dropLast
theorem Bld.shut {calm:Bool} {l:List qR} {st:List Int} (B:Bld calm l st) (hn:st≠[]) (ho:opM l st=14∨opM l st=17∨opM l st=18):Bld calm (JI l st) (Yb l st)∧
  jm (JI l st) (Yb l st)=(jm l st).dropLast++(if opM l st=17 then[18]else[]):=by
 have hs:zX (vm (opM l st))=opM l st:=by rcases ho with h |h |h<;>rw[h]<;>decide
 have hso:vm (opM l st)=15∨vm (opM l st)=18∨vm (opM l st)=19:=by
  unfold vm
  repeat' split
  all_goals omega
 have he:0<zX (vm (opM l st)):=by rw[hs];omega
 have hb:jz st l.length (vm (opM l st))=Yb l st:=by
  unfold jz Yb;rw[iJ he];by_cases h17:opM l st=17
  ·rw[iJ h17,iJ (.inr (by rw[h17];decide))]
  ·rw[iQ h17,iQ];rcases ho with h |h |h
   ·rw[h];decide
   ·exact absurd h h17
   ·rw[h];decide
 have hw:zo l st (one (vm (opM l st)))=0:=by
  unfold zo
  rw[iQ (by rcases hso with h |h |h<;>rw[h]<;>decide),iQ (λhh=>hh.2 hs.symm),iQ (λhh=>by have:=hh.1;dsimp only at this;omega),iQ (λhh=>by
   have:=hh.1
   rcases hso with h |h |h<;>rw[h]at this<;>exact absurd this od)]
 have h5:=B.five;have:=B.app (qXd calm omQ) hw (by dsimp only;omega) (by rw[hb];unfold Yb;split<;>simp<;>omega);rw[hb]at this;refine⟨this,?_⟩;unfold JI Yb jm;have hd:(st.dropLast.map λp=>(qS (l++[one (vm (opM l st))]) p).1)=(jm l st).dropLast:=by have:=YI (t:=[one (vm (opM l st))]) B.stok.dropLast;unfold jm at this ⊢;rw[this,List.map_dropLast]
 split
 ·rename_i h17;have e:=JO (l:=l) (t:=[one (vm (opM l st))]) (k:=0) (x:=one (vm (opM l st))) rfl;rw[Nat.add_zero]at e;rw[List.map_append,hd,List.map_singleton,e,h17];rfl
 ·rw[hd,List.append_nil];rfl
theorem qZL {l:List qR} {st:List Int} (hn:st≠[]):opM l st=(jm l st).getLast?.getD 0:=by unfold opM jm jJ;rw[iQ hn,List.getLast?_map,List.getLast?_eq_some_getLast hn];rfl
theorem Bld.fit {calm:Bool} {l:List qR} (B:Bld calm l []) (h0:0<l.length) (h40:l.length≤40):zb l=(0,0):=by
 have key:∀d i,i+d=l.length→goM l (l.drop i) i (qI l i)=.inr []:=by
  intro d
  induction d with
  |zero=>
   intro i hi;obtain rfl:i=l.length:=by omega
   rw[List.drop_length,B.top];rfl
  |succ d ih=>
   intro i hi;have hlt:i<l.length:=by omega
   rw[G6 hlt];have hw:=B.wr i hlt;rw[yQ hlt]at hw;rw[iJ hw];have:=ih (i+1) omQ;rw[jH,yQ hlt]at this;exact this
 have hg:=key l.length 0 omQ;have hreg:∀j,j<l.length→(vU l 0 [])[j]? =some (jJ (qI l j)):=λj hj=>by
  have:=M6 (l:=l) l.length 0 omQ j omQ;rw[Nat.zero_add]at this;exact this
 have hnum:∀j:Nat,j<l.length→qM (vU l 0 []) (j:Int)=jJ (qI l j):=λj hj=>by
  unfold qM;rw[Int.toNat_natCast,hreg j hj];rfl
 have hj:∀d i,i+d=l.length→XE l (vU l 0 []) (l.drop i) i=(0,0):=by
  intro d
  induction d with
  |zero=>
   intro i hi;obtain rfl:i=l.length:=by omega
   rw[List.drop_length];rfl
  |succ d ih=>
   intro i hi;have hlt:i<l.length:=by omega
   rw[Y2 hlt,iQ,ih (i+1) omQ];rintro⟨ho,hc⟩;have hB:=B.jp i hlt;rw[yQ hlt]at hB;obtain⟨c,c1,c2,c3,_⟩:=hB ho;rw[c1]at hc;rcases hc with hc |⟨hc,hc2⟩ |⟨hc,hc2⟩
   ·omega
   ·have:c=l.length:=by omega
    subst this;rw[B.top]at c3;rw[hnum i hlt,← c3]at hc2;exact hc2 rfl
   ·rw[hnum c omQ,hnum i hlt,c3]at hc2;exact hc2 rfl
 unfold zb;rw[iQ omQ];have hg2:goM l l 0 []=.inr []:=hg;rw[hg2];dsimp only;rw[iJ rfl];exact hj l.length 0 omQ
end
section
variable {g h:AH} {L R:List SP}
def OkN (zs:List Int):Prop:=∀z∈zs,0≤z∧z<18446744073709551616
theorem OkN.set {zs:List Int} {i:Nat} {x:Int} (h:OkN zs) (hx:0≤x∧x<18446744073709551616):OkN (zs.set i x):=by
 intro z hz;rcases List.mem_or_eq_of_mem_set hz with h1 |rfl
 ·exact h z h1
 ·exact hx
theorem JF {x lo hi:Int} (h:lo≤hi):lo≤zZ x lo hi∧zZ x lo hi≤hi:=by
 unfold zZ;have:=XK x (show 0<hi-lo+1 by omega)
 split<;>omega
def OkZ (zs:List Int):Prop:=OkN zs∧zs[0]? =some 0
theorem OkZ.set {zs:List Int} {i:Nat} {x:Int} (h:OkZ zs) (hx:0≤x∧x<18446744073709551616) (hi:0<i):OkZ (zs.set i x):=⟨h.1.set hx,by rw[List.getElem?_set_ne omQ];exact h.2⟩
end
section
variable {g h:AH} {L R:List SP}
def zf (lv:AV) (l:List qR):SP:=qy 58 5 l.length lv (l.flatMap jg)
def Gk (ov:AV) (o:List Int):SP:=qy 3 1 o.length ov (o.map (.int .i64))
theorem Yw {n:Nat} (hn:2≤n) {x:Int}:t_w n 57 [.int .i64 x] h λv h'=>v=.int .i64 (zZ x 0 6)∧h'=h:=by
 refine t_e1 rfl omQ λk hk=>?_;unfold S57;try simp only[iZ]
 refine qG (x8 omQ omQ omQ omQ) ?_;rintro _ _ ⟨rfl,rfl⟩;exact qj ⟨rfl,rfl⟩
theorem QQ {l:List qR} {lv:AV} {t:List qR} {tv:AV} {K2:AV→AH→Go.Ae.R} {Q:AV→AH→Prop} {D':Nat→Prop} (H:HS g h (zf lv l::R)) (S:Sl D' h 5 t.length tv (t.flatMap jg)) (hl:l.length+t.length≤100000)
  (w:∀v' h',HS g h' (zf v' (l++t)::R)→wp (K2 v' h') Q):wp (xx h 58 5 lv tv K2) Q:=by
 refine jf H S omQ omQ (K5 t) λv' h' H'=>w v' h' ?_;unfold zf;rw[List.length_append,List.flatMap_append];exact H'
theorem qjf {a n:Int} (h:0≤a∧a≤7):gQ (1,a,0,0,n)=true:=by simp[gQ,ja,vu];omega
theorem may_2 {a b:Int} (h:0≤a∧a≤7) (h2:0≤b∧b≤7):gQ (2,a,b,0,0)=true:=by simp[gQ,ja,vu];omega
theorem may_3 {o a b c:Int} (ho:3≤o∧o≤7) (h:0≤a∧a≤7) (h2:0≤b∧b≤7) (h3:0≤c∧c≤7):gQ (o,a,b,c,0)=true:=by
 rcases(show o=3∨o=4∨o=5∨o=6∨o=7 by omega)with rfl |rfl |rfl |rfl |rfl<;>(simp[gQ,ja,vu];omega)
theorem Gf {o a b c:Int} (ho:o=8∨o=9) (h:0≤a∧a≤7) (h2:0≤b∧b≤7) (h3:0≤c∧c≤15):gQ (o,a,b,c,0)=true:=by
 rcases ho with rfl |rfl<;>(simp[gQ,ja,vu];omega)
theorem qje {a b:Int} (h:0≤a∧a≤7) (h2:0≤b∧b≤7):gQ (10,a,b,0,0)=true:=by simp[gQ,ja,vu];omega
theorem qxL {o a:Int} (ho:o=11∨o=21) (h:0≤a∧a≤7):gQ (o,a,0,0,0)=true:=by
 rcases ho with rfl |rfl<;>(simp[gQ,ja,vu];omega)
theorem qqt {a c:Int} (h:0≤a∧a≤7) (h3:0≤c∧c≤40):gQ (13,a,0,c,0)=true:=by simp[gQ,ja,vu];omega
structure V4 (x:qR):Prop where
  flat:Flat x.1
  nj:x.1≠12∧x.1≠13
  ok:∀calm,KJ calm x
theorem V4.of {x:qR} (h1:gQ x=true) (h2:(1≤x.1∧x.1≤11)∨x.1=21) (h3:0≤x.2.2.2.2∧x.2.2.2.2<18446744073709551616):V4 x :=
 ⟨⟨by omega,by omega,by omega,by omega,by omega,by omega⟩,by omega,λ_=>⟨h1,by omega,h3,λ_=>by omega⟩⟩
set_option maxHeartbeats 4000000 in
theorem Yp {n:Nat} (hn:3≤n) {kx:qR} (hN:0≤kx.2.2.2.2∧kx.2.2.2.2<18446744073709551616) (H:HS g h R) :
  t_w n 58 [.agg (jg kx)] h λr h'=>∃x,r=.agg (jg x)∧V4 x∧HS g h' R:=by
 refine t_e1 rfl omQ λk hk=>?_;unfold S58;try simp only[iZ]
 refine qP H rfl λb0 h1 H1=>?_;refine qP H1 rfl λb2 h2 H2=>?_;have H2:HS g h2 (qw b2 [.int .i64 ((0:Nat):Int),.int .i64 ((0:Nat):Int),.int .i64 ((0:Nat):Int),.int .i64 ((0:Nat):Int),.int .u64 ((0:Nat):Int)]::qw b0 (jg kx)::R):=H2;clear H H1;refine qV ?_
 try dsimp only
 refine qQ (qX H2 e_1 rfl ?_);refine qG (Yw omQ) ?_;rintro _ _ ⟨rfl,rfl⟩;refine qQ (qX H2 e_1 rfl ?_);refine qG (Yw omQ) ?_;rintro _ _ ⟨rfl,rfl⟩;refine qQ (qX H2 e_1 rfl ?_);refine qG (Yw omQ) ?_;rintro _ _ ⟨rfl,rfl⟩;refine qd H2 e_1 rfl H2 e_1 rfl (HS.lt H2 e_1)<|qd H2 e_1 rfl H2 e_1 rfl (HS.lt H2 e_1)<|qd H2 e_1 rfl H2 e_1 rfl (HS.lt H2 e_1)<|qQ (qX H2 e_1 rfl ?_);refine qG (x8 omQ omQ omQ omQ) ?_;rintro _ _ ⟨rfl,rfl⟩;refine qQ (qX H2 e_1 rfl ?_);refine qG (x8 omQ omQ omQ omQ) ?_;rintro _ _ ⟨rfl,rfl⟩;have ha:=zS kx.2.1 (show(0:Int)≤6 by omega);have hb:=zS kx.2.2.1 (show(0:Int)≤6 by omega);have hc:=zS kx.2.2.2.1 (show(0:Int)≤6 by omega);have hat:=zS kx.2.2.2.1 (show(((6:Nat):Int))≤((15:Nat):Int) by omega);have hw:=zS kx.1 (show(((0:Nat):Int))≤((19:Nat):Int) by omega);generalize zZ kx.2.1 0 6=a at*;generalize zZ kx.2.2.1 0 6=b at*;generalize zZ kx.2.2.2.1 0 6=c at*;generalize zZ kx.2.2.2.1 ((6:Nat):Int) ((15:Nat):Int)=at_ at*;generalize zZ kx.1 ((0:Nat):Int) ((19:Nat):Int)=w at*;have fin:∀(x:qR) (h0:AH),V4 x→HS g h0 (qw b2 [.int .i64 ((0:Nat):Int),.int .i64 ((0:Nat):Int),.int .i64 ((0:Nat):Int),.int .i64 ((0:Nat):Int),.int .u64 ((0:Nat):Int)]::qw b0 (jg kx)::R)→
   wp (jd h0 (.ptr b2 0) (.agg (jg x)) 5 λh22=>z7 [] h22 λh23=>zO h23 (.ptr b2 0) 5 λv24=>some (v24,h23)) λr h'=>∃x,r=.agg (jg x)∧V4 x∧HS g h' R:=by
  intro x h0 hx H0;refine qf H0 .here rfl (by simp) rfl λh6 H6=>?_;have H6:HS g h6 (qw b2 (jg x)::qw b0 (jg kx)::R):=H6;refine qk (qF H6 .here rfl omQ rfl ?_);exact qj ⟨x,rfl,hx,H6.drop.drop⟩
 have z0:(0:Int)≤0∧(0:Int)<18446744073709551616:=by omega
 have hd:w=0∨w=1∨w=2∨w=3∨w=4∨w=5∨w=6∨w=7∨w=8∨w=9∨w=10∨w=11∨w=12∨w=13∨w=14∨w=15∨w=16∨17≤w:=by omega
 rcases hd with h0 |h0 |h0 |h0 |h0 |h0 |h0 |h0 |h0 |h0 |h0 |h0 |h0 |h0 |h0 |h0 |h0 |h0
 all_goals (first |with_reducible (refine qV<|qK omQ<|qJ<|qK omQ<|qJ<|qK omQ<|qJ<|qK omQ<|qJ<|qK omQ<|qJ<|qV<|qK omQ<|qJ<|qK omQ<|qJ<|qK omQ<|qJ<|qV<|qK omQ<|qJ<|qK omQ<|qJ<|qK omQ<|qJ<|qK omQ<|qJ<|qK omQ<|qJ<|qV<|qK omQ<|qJ<|qK omQ<|qJ<|qK omQ<|qJ<|qg omQ<|qZ<|qL rfl ?_) |with_reducible (refine qV<|qK omQ<|qJ<|qK omQ<|qJ<|qK omQ<|qJ<|qK omQ<|qJ<|qK omQ<|qJ<|qV<|qK omQ<|qJ<|qK omQ<|qJ<|qK omQ<|qJ<|qV<|qK omQ<|qJ<|qK omQ<|qJ<|qK omQ<|qJ<|qK omQ<|qJ<|qK omQ<|qJ<|qV<|qK omQ<|qJ<|qK omQ<|qJ<|qK omQ<|qJ<|qK omQ<|qJ<|qL rfl ?_) |with_reducible (refine qV<|qK omQ<|qJ<|qK omQ<|qJ<|qK omQ<|qJ<|qK omQ<|qJ<|qK omQ<|qJ<|qV<|qK omQ<|qJ<|qK omQ<|qJ<|qK omQ<|qJ<|qV<|qK omQ<|qJ<|qK omQ<|qJ<|qK omQ<|qJ<|qK omQ<|qJ<|qK omQ<|qJ<|qV<|qK omQ<|qJ<|qK omQ<|qJ<|qg omQ<|qZ<|qL rfl ?_) |with_reducible (refine qV<|qK omQ<|qJ<|qK omQ<|qJ<|qK omQ<|qJ<|qK omQ<|qJ<|qK omQ<|qJ<|qV<|qK omQ<|qJ<|qK omQ<|qJ<|qK omQ<|qJ<|qV<|qK omQ<|qJ<|qK omQ<|qJ<|qK omQ<|qJ<|qK omQ<|qJ<|qK omQ<|qJ<|qV<|qK omQ<|qJ<|qg omQ<|qZ<|qL rfl ?_) |with_reducible (refine qV<|qK omQ<|qJ<|qK omQ<|qJ<|qK omQ<|qJ<|qK omQ<|qJ<|qK omQ<|qJ<|qV<|qK omQ<|qJ<|qK omQ<|qJ<|qK omQ<|qJ<|qV<|qK omQ<|qJ<|qK omQ<|qJ<|qK omQ<|qJ<|qK omQ<|qJ<|qK omQ<|qJ<|qV<|qg omQ<|qZ<|qZ<|qL rfl ?_) |with_reducible (refine qV<|qK omQ<|qJ<|qK omQ<|qJ<|qK omQ<|qJ<|qK omQ<|qJ<|qK omQ<|qJ<|qV<|qK omQ<|qJ<|qK omQ<|qJ<|qK omQ<|qJ<|qV<|qK omQ<|qJ<|qK omQ<|qJ<|qK omQ<|qJ<|qK omQ<|qJ<|qg omQ<|qZ<|qQ<|qX ‹_› e_1 rfl ?_) |with_reducible (refine qV<|qK omQ<|qJ<|qK omQ<|qJ<|qK omQ<|qJ<|qK omQ<|qJ<|qK omQ<|qJ<|qV<|qK omQ<|qJ<|qK omQ<|qJ<|qK omQ<|qJ<|qV<|qK omQ<|qJ<|qK omQ<|qJ<|qK omQ<|qJ<|qg omQ<|qZ<|qQ<|qX ‹_› e_1 rfl ?_) |with_reducible (refine qV<|qK omQ<|qJ<|qK omQ<|qJ<|qK omQ<|qJ<|qK omQ<|qJ<|qK omQ<|qJ<|qV<|qK omQ<|qJ<|qK omQ<|qJ<|qK omQ<|qJ<|qV<|qK omQ<|qJ<|qK omQ<|qJ<|qg omQ<|qZ<|qL rfl ?_) |with_reducible (refine qV<|qK omQ<|qJ<|qK omQ<|qJ<|qK omQ<|qJ<|qK omQ<|qJ<|qK omQ<|qJ<|qV<|qK omQ<|qJ<|qK omQ<|qJ<|qK omQ<|qJ<|qV<|qK omQ<|qJ<|qg omQ<|qZ<|qZ<|qL rfl ?_) |with_reducible (refine qV<|qK omQ<|qJ<|qK omQ<|qJ<|qK omQ<|qJ<|qK omQ<|qJ<|qK omQ<|qJ<|qV<|qK omQ<|qJ<|qK omQ<|qJ<|qK omQ<|qJ<|qV<|qg omQ<|qZ<|qZ<|qL rfl ?_) |with_reducible (refine qV<|qK omQ<|qJ<|qK omQ<|qJ<|qK omQ<|qJ<|qK omQ<|qJ<|qK omQ<|qJ<|qV<|qK omQ<|qJ<|qK omQ<|qJ<|qg omQ<|qZ<|qL rfl ?_) |with_reducible (refine qV<|qK omQ<|qJ<|qK omQ<|qJ<|qK omQ<|qJ<|qK omQ<|qJ<|qK omQ<|qJ<|qV<|qK omQ<|qJ<|qg omQ<|qZ<|qZ<|qL rfl ?_) |with_reducible (refine qV<|qK omQ<|qJ<|qK omQ<|qJ<|qK omQ<|qJ<|qK omQ<|qJ<|qK omQ<|qJ<|qV<|qg omQ<|qZ<|qZ<|qL rfl ?_) |with_reducible (refine qV<|qK omQ<|qJ<|qK omQ<|qJ<|qK omQ<|qJ<|qK omQ<|qJ<|qg omQ<|qZ<|qQ<|qX ‹_› e_1 rfl ?_) |with_reducible (refine qV<|qK omQ<|qJ<|qg omQ<|qZ<|qQ<|qX ‹_› e_1 rfl<|qL rfl ?_) |with_reducible (refine qV<|qK omQ<|qJ<|qK omQ<|qJ<|qg omQ<|qZ<|qQ<|qX ‹_› e_1 rfl ?_) |with_reducible (refine qV<|qK omQ<|qJ<|qK omQ<|qJ<|qK omQ<|qJ<|qg omQ<|qZ<|qL rfl ?_) |with_reducible (refine qV<|qg omQ<|qZ<|qZ<|qQ<|qX ‹_› e_1 rfl<|qL rfl ?_))
 ·exact fin (1,a,0,0,kx.2.2.2.2) _ (.of (qjf omQ) (by dsimp only;omega) hN) H2
 ·exact fin (1,a,0,0,kx.2.2.2.2) _ (.of (qjf omQ) (by dsimp only;omega) hN) H2
 ·refine JT od ?_;obtain⟨m,hm⟩:∃m:Nat,kx.2.2.2.2=m:=⟨kx.2.2.2.2.toNat,by omega⟩;have ht:kx.2.2.2.2.tmod ((20:Nat):Int)=((m%20:Nat):Int):=by rw[hm];rfl
  rw[ht];refine qL rfl<|fin (1,a,0,0,((m%20:Nat):Int)) _ (.of (qjf omQ) (by dsimp only;omega) (by dsimp only;omega)) H2
 ·exact fin (2,a,b,0,0) _ (.of (may_2 omQ omQ) (by dsimp only;omega) z0) H2
 ·refine JT od ?_;obtain⟨m,hm⟩:∃m:Nat,kx.2.2.2.2=m:=⟨kx.2.2.2.2.toNat,by omega⟩;have ht:kx.2.2.2.2.tmod ((64:Nat):Int)=((m%64:Nat):Int):=by rw[hm];rfl
  rw[ht];refine xU omQ<|qG (x8 omQ omQ omQ omQ) ?_;rintro _ _ ⟨rfl,rfl⟩;have ho:=zS ((m%64:Nat):Int) (show(((0:Nat):Int))≤((4:Nat):Int) by omega);generalize zZ ((m%64:Nat):Int) ((0:Nat):Int) ((4:Nat):Int)=o at*;refine qc omQ<|qL rfl<|fin (((3:Nat):Int)+o,a,b,c,0) _ (.of (may_3 omQ omQ omQ omQ) (by dsimp only;omega) z0) H2
 ·exact fin (8,a,7,at_,0) _ (.of (Gf (.inl rfl) omQ omQ omQ) (by dsimp only;omega) z0) H2
 ·exact fin (8,a,7,at_,0) _ (.of (Gf (.inl rfl) omQ omQ omQ) (by dsimp only;omega) z0) H2
 ·exact fin (8,a,7,at_,0) _ (.of (Gf (.inl rfl) omQ omQ omQ) (by dsimp only;omega) z0) H2
 ·exact fin (9,7,b,at_,0) _ (.of (Gf (.inr rfl) omQ omQ omQ) (by omega) z0) H2
 ·exact fin (9,7,b,at_,0) _ (.of (Gf (.inr rfl) omQ omQ omQ) (by omega) z0) H2
 ·exact fin (9,7,b,at_,0) _ (.of (Gf (.inr rfl) omQ omQ omQ) (by omega) z0) H2
 ·refine qG (x8 omQ omQ omQ omQ) ?_;rintro _ _ ⟨rfl,rfl⟩;have ho:=zS kx.2.2.2.1 (show(((0:Nat):Int))≤((3:Nat):Int) by omega);generalize zZ kx.2.2.2.1 ((0:Nat):Int) ((3:Nat):Int)=o at*;refine qL rfl<|fin (8,a,b,o,0) _ (.of (Gf (.inl rfl) omQ omQ omQ) (by omega) z0) H2
 ·refine qG (x8 omQ omQ omQ omQ) ?_;rintro _ _ ⟨rfl,rfl⟩;have ho:=zS kx.2.2.2.1 (show(((0:Nat):Int))≤((3:Nat):Int) by omega);generalize zZ kx.2.2.2.1 ((0:Nat):Int) ((3:Nat):Int)=o at*;refine qL rfl<|fin (9,a,b,o,0) _ (.of (Gf (.inr rfl) omQ omQ omQ) (by omega) z0) H2
 ·exact fin (10,a,b,0,0) _ (.of (qje omQ omQ) (by omega) z0) H2
 ·exact fin (10,a,b,0,0) _ (.of (qje omQ omQ) (by omega) z0) H2
 ·exact fin (11,a,0,0,0) _ (.of (qxL (.inl rfl) omQ) (by omega) z0) H2
 ·exact fin (8,a,7,at_,0) _ (.of (Gf (.inl rfl) omQ omQ omQ) (by omega) z0) H2
 ·exact fin (21,a,0,0,0) _ (.of (qxL (.inr rfl) omQ) (by omega) z0) H2
end
section
variable {g h:AH} {L R:List SP}
theorem qXC (l:List Int):qp (l.map (AV.int .i64))=true:=by unfold qp;rw[List.all_eq_true];intro y hy;obtain⟨z,_,rfl⟩:=List.mem_map.1 hy;rfl
theorem wn (l:List qR) (st:List Int):(jm l st).length=st.length:=by simp[jm]
theorem qZP {l:List qR} {st:List Int} (hn:st≠[]):(jm l st)[st.length-1]? =some (opM l st):=by have hl:=List.length_pos_iff.2 hn;rw[qZL hn,List.getLast?_eq_getElem?,wn,iW (by rw[wn];omega)];rfl
theorem MI {l:List qR} {st:List Int}:(JI l st).length=l.length+1:=by simp[JI]
theorem Z1 {n:Nat} (hn:1≤n) {calm:Bool} {l:List qR} {st:List Int} {lv ov:AV} (B:Bld calm l st) (hne:st≠[]) (ho:opM l st=14∨opM l st=17∨opM l st=18) (hl:l.length≤1000)
  (H:HS g h (zf lv l::Gk ov (jm l st)::R)) :
  t_w n 56 [lv,ov] h λr h'=>∃lv' ov',r=.tup [lv',ov']∧HS g h' (zf lv' (JI l st)::Gk ov' (jm (JI l st) (Yb l st))::R):=by
 refine t_e2 rfl omQ λk hk=>?_;unfold S56;try simp only[iZ]
 have hp:=List.length_pos_iff.2 hne;have h5:=B.five;have hol:=wn l st;have hat:=qZP (l:=l) hne;obtain⟨B2,hops⟩:=B.shut hne ho;rw[hops];have H0:HS g h (qy 58 5 l.length lv (l.flatMap jg)::qy 3 1 (jm l st).length ov ((jm l st).map (.int .i64))::R):=H;refine qm H0 e_1 ?_;rw[hol];refine zJ omQ ?_;rw[show(st.length:Int)-((1:Nat):Int)=((st.length-1:Nat):Int) by omega];refine jO (H0.sl e_1) (by rw[List.getElem?_map,hat];rfl) ?_;have hdl:(jm l st).dropLast=(jm l st).take (st.length-1):=by rw[List.dropLast_eq_take,hol]
 have tail:∀(op:Int),(opM l st=14∧op=15∨opM l st=18∧op=19)→
   wp (yB (λs5 h6=>some ((.tup [s5.2.1,s5.1]),h6)) λj7=>yg [(.int .i64 ((0:Nat):Int)),(.int .i64 ((0:Nat):Int)),(.int .i64 ((0:Nat):Int)),(.int .i64 ((0:Nat):Int)),(.int .u64 ((0:Nat):Int))] [(0,1,(.int .i64 op))] λv8=>
    xX h 58 [(.int .i64 ((0:Nat):Int)),(.int .i64 ((0:Nat):Int)),(.int .i64 ((0:Nat):Int)),(.int .i64 ((0:Nat):Int)),(.int .u64 ((0:Nat):Int))] 1 [(0,5,v8)] λv9 h10=>
    xx h10 58 5 lv v9 λv11 h12=>xY h12 3 1 ov none (some (.int .i64 ((st.length-1:Nat):Int))) λv13=>
    Jz ov (some (3*65536+1)) v13 h10 h12 h.nx<| j7 (v13,v11,()) h12)
   λr h'=>∃lv' ov',r=.tup [lv',ov']∧HS g h' (zf lv' (JI l st)::Gk ov' ((jm l st).dropLast++(if opM l st=17 then[18]else[]))::R):=by
  intro op hop;refine qV ?_
  try dsimp only
  refine qL rfl<|qh (l:=jg (one op)) (sz:=5) H0 rfl rfl rfl rfl λv9 h10 H10=>?_;have S:Sl (λ_=>True) h10 5 [one op].length v9 ([one op].flatMap jg):=H10.sl .here;refine QQ (H10.sel (P:=zf lv l) e_1) S (by simp;omega) λv11 h12 H12=>?_;refine YJ (hi:=st.length-1) (H12.sel (P:=qy 3 1 (jm l st).length ov ((jm l st).map (.int .i64))) e_2) omQ omQ λv13 H13=>?_;refine qza H10 (s:=e_2) H12 e_2 H0 e_1 omQ omQ rfl ?_;rw[Nat.mul_one,← List.map_take,← hdl]at H13;have h17:¬opM l st=17:=by omega
  rw[iQ h17,List.append_nil];refine qj ⟨v11,v13,rfl,?_⟩;have e:JI l st=l++[one op]:=by
   unfold JI vm;rcases hop with⟨h1,h2⟩ |⟨h1,h2⟩
   ·rw[h1,h2];rfl
   ·rw[h1,h2];rfl
  rw[e];unfold Gk;rw[show(jm l st).dropLast.length=st.length-1 by rw[List.length_dropLast,hol]];exact H13.pk [1,0] 1
 by_cases c14:opM l st=14
 ·refine qg c14 (qZ ?_);exact tail 15 (.inl ⟨c14,rfl⟩)
 refine qK c14 (qJ ?_);by_cases c17:opM l st=17
 ·refine qg c17 (qZ ?_);refine YJ (hi:=st.length-1) (H0.sel e_1) omQ omQ λv15 H2=>?_;rw[Nat.mul_one,← List.map_take,← hdl]at H2;have hdn:(jm l st).dropLast.length=st.length-1:=by rw[List.length_dropLast,hol]
  have S:Sl (λ_=>True) h 1 (st.length-1) v15 ((jm l st).dropLast.map (.int .i64)):=H2.sl .here;refine jf (H2.nils) S omQ omQ (qXC _) λv16 h3 H3=>?_;rw[List.nil_append,Nat.zero_add]at H3;refine qh H3 rfl rfl rfl rfl λv18 h4 H4=>?_;refine jf (H4.sel e_1) (H4.sl .here) omQ omQ rfl λv20 h5 H5=>?_;refine qL rfl<|qh H5 rfl rfl rfl rfl λv23 h6 H6=>?_;have S6:Sl (λ_=>True) h6 5 [one 18].length v23 ([one 18].flatMap jg):=H6.sl .here;refine QQ (H6.sel e_4) S6 (by simp;omega) λv25 h7 H7=>?_;rw[iJ c17];refine qj ⟨v25,v20,rfl,?_⟩;have e:JI l st=l++[one 18]:=by unfold JI vm;rw[c17];rfl
  rw[e];unfold Gk;rw[List.length_append,hdn,List.map_append];exact H7.pk [0,1] 3
 ·refine qK c17 (qJ ?_);exact tail 19 (.inr ⟨by omega,rfl⟩)
def J1 (o:List Int):Nat:=(o.map λx=>if x=17 then 2 else 1).sum
theorem qQn (a b:List Int):J1 (a++b)=J1 a+J1 b:=by simp[J1]
theorem qg2 (o:List Int):J1 o≤2*o.length:=by
 induction o with
 |nil=>simp[J1]
 |cons x o ih=>simp only[J1,List.map_cons,List.sum_cons,List.length_cons]at*;split<;>omega
theorem qWp {l:List qR} {st:List Int} (hne:st≠[]):J1 ((jm l st).dropLast++(if opM l st=17 then[18]else[]))+1=J1 (jm l st):=by
 have h1:jm l st≠[]:=by intro h;have:=congrArg List.length h;rw[wn]at this;exact hne (iA this)
 have h2:=List.dropLast_concat_getLast h1;have h3:(jm l st).getLast h1=opM l st:=by rw[qZL hne,List.getLast?_eq_some_getLast h1];rfl
 rw[h3]at h2;have h4:J1 (jm l st)=J1 (jm l st).dropLast+(if opM l st=17 then 2 else 1):=by
  conv=>lhs;rw[← h2]
  rw[qQn];simp[J1]
 rw[qQn,h4]
 split
 ·simp[J1]
 ·simp[J1]
def OpsK (l:List qR) (st:List Int):Prop:=∀o∈jm l st,o=14∨o=17∨o=18
theorem OpsK.at {l:List qR} {st:List Int} (h:OpsK l st) (hne:st≠[]):opM l st=14∨opM l st=17∨opM l st=18:=h _ (List.mem_of_getElem? (qZP hne))
set_option maxHeartbeats 8000000 in
theorem qjt {n:Nat} (hn:5≤n) {calm:Bool} {ks:List qR} {kv:AV} {most:Int} (hN:∀x∈ks,0≤x.2.2.2.2∧x.2.2.2.2<18446744073709551616) (hm:1≤most∧most≤40) (H:HS g h R) (S:Rd g R 5 ks.length kv (ks.flatMap jg)) :
  t_w n 26 [kv,.int .i64 most,.bool calm] h λr h'=>∃lv l,r=.agg [lv]∧Bld calm l []∧0<l.length∧(l.length:Int)≤most∧HS g h' (zf lv l::R):=by
 refine t_e3 (S:=S26) rfl omQ λk hk=>?_;unfold S26;try simp only[iZ]
 refine qP H rfl λb0 h1 H1=>?_;clear H;have H1:=(H1.nils (e:=3) (sz:=1)).nils (e:=58) (sz:=5);refine ji [] (λs h'=>∃(l:List qR) (st:List Int) (lv ov:AV),s=(ov,lv,.ptr b0 0,())∧Bld calm l st∧OpsK l st∧(l.length:Int)+2*st.length≤most∧HS g h' (zf lv l::Gk ov (jm l st)::qw b0 [.nils]::R)) ?_ ?_
 rotate_left
 ·rintro s h2 ⟨l,st,lv,ov,rfl,B,OK,hle,H2⟩;dsimp only;have hW:(l.length:Int)+J1 (jm l st)≤most:=by
   have:=qg2 (jm l st);rw[wn]at this;omega
  refine jM (λm s h'=>∃(l:List qR) (st:List Int) (lv ov:AV),s=(ov,lv,.ptr b0 0,())∧m=J1 (jm l st)∧Bld calm l st∧OpsK l st∧(l.length:Int)+J1 (jm l st)≤most∧HS g h' (zf lv l::Gk ov (jm l st)::qw b0 [.nils]::R))
   ?_ (m:=J1 (jm l st)) omQ ⟨l,st,lv,ov,rfl,rfl,B,OK,hW,H2⟩
  clear H2 hW hle OK B st lv ov l;rintro m ih s h3 hih ⟨l,st,lv,ov,rfl,rfl,B,OK,hW,H⟩;dsimp only;have hol:=wn l st;refine qm (n:=(jm l st).length) (H:HS g h3 (zf lv l::qy 3 1 (jm l st).length ov ((jm l st).map (.int .i64))::qw b0 [.nils]::R)) e_1 ?_;rw[hol];by_cases h0:st=[]
  ·subst h0;refine yT osQ (qJ ?_);refine ji [] (λs h'=>∃(l:List qR) (lv:AV),s=(lv,.ptr b0 0,())∧Bld calm l []∧0<l.length∧(l.length:Int)≤most∧HS g h' (zf lv l::qw b0 [.nils]::R)) ?_ ?_
   ·intro j hj;refine qm (n:=l.length) (H:HS g h3 (qy 58 5 l.length lv (l.flatMap jg)::Gk ov (jm l [])::qw b0 [.nils]::R)) .here ?_;by_cases hl0:l.length=0
    ·refine qg omQ (qZ ?_);obtain rfl:=iA hl0;refine qL (l:=jg (1,0,0,0,1)) rfl<|qh (n:=1) (l:=jg (1,0,0,0,1)) (sz:=5) H rfl rfl rfl rfl λv27 h4 H4=>?_;have S1:Sl (λ_=>True) h4 5 [((1,0,0,0,1):qR)].length v27 ([((1,0,0,0,1):qR)].flatMap jg):=H4.sl .here;refine QQ (H4.sel (P:=zf lv []) e_1) S1 osQ λv29 h5 H5=>?_;refine hj _ _ ⟨_,v29,rfl,B.flat (x:=(1,0,0,0,1)) ⟨by decide,by decide,by decide,λ_=>by decide⟩ (by unfold Flat;decide) od,by simp,by simp;omega,H5.sub (.cons .here (.drop (.drop (.cons .here .refl))))⟩
    ·refine qK omQ (qJ ?_);exact hj _ _ ⟨l,lv,rfl,B,by omega,by omega,H.sub (.cons .here (.drop (.cons .here .refl)))⟩
   ·rintro s h5 ⟨l,lv,rfl,B,hl0,hlm,H5⟩;dsimp only;have ol:=H5.one (e:=58) (sz:=5) (n:=l.length) .here;refine qL (l:=[lv]) (by simp only[yM,ol.1];rfl)<|qf H5 (b:=b0) e_1 rfl osQ (by show qp [lv]=true;simp[qp,ol.2]) λh6 H6=>?_;have H6:HS g h6 (qw b0 [lv]::zf lv l::R):=H6;refine qk (qF H6 (b:=b0) (off:=0) .here rfl omQ (l:=[lv]) rfl ?_);exact qj ⟨lv,l,rfl,B,hl0,hlm,H6.drop⟩
  ·have hp:=List.length_pos_iff.2 h0;refine yp omQ (qZ ?_);refine qG (Z1 omQ B h0 (OK.at h0) omQ H) ?_;rintro _ h4 ⟨lv',ov',rfl,H4⟩;obtain⟨B2,hops⟩:=B.shut h0 (OK.at h0);have hw:=qWp (l:=l) h0;rw[← hops]at hw;refine qC rfl (qC rfl ?_);refine hih (J1 (jm (JI l st) (Yb l st))) _ _ omQ ⟨_,_,lv',ov',rfl,rfl,B2,?_,by rw[MI];omega,H4⟩;intro o ho;rw[hops]at ho;rcases List.mem_append.1 ho with ho |ho
   ·exact OK o ((List.dropLast_sublist _).subset ho)
   ·split at ho
    ·rw[List.mem_singleton]at ho;omega
    ·cases ho
 intro j5 hj5;refine jM (λm s h'=>∃(i:Nat) (l:List qR) (st:List Int) (lv ov:AV),s=(.int .i64 (i:Int),ov,lv,.ptr b0 0,.bool calm,.int .i64 most,kv,())∧m=41-l.length∧i≤l.length∧Bld calm l st∧OpsK l st∧(l.length:Int)+2*st.length≤most∧HS g h' (zf lv l::Gk ov (jm l st)::qw b0 [.nils]::R))
  ?_ (m:=41) (by show _<1000000000;omega) ⟨0,[],[],.nils,.nils,rfl,rfl,by simp,Bld.nil calm,(λo ho=>by cases ho),by simp;omega,H1⟩
 clear H1;rintro m ih s h2 hih ⟨i,l,st,lv,ov,rfl,rfl,hil,B,OK,hle,H⟩;dsimp only;refine zu (S.sl H.drop.drop.drop)<|zL (λhlt=>qZ ?_) λhge=>qJ (hj5 _ _ ⟨l,st,lv,ov,rfl,B,OK,hle,H⟩);have hlt:i<ks.length:=by omega
 refine zd (l:=jg ks[i]) (S.sl H.drop.drop.drop) hlt omQ (vI (sz:=5) (λ_=>rfl) (iW hlt)) ?_;have hNi:=hN ks[i] (List.getElem_mem hlt);generalize ks[i]=kx at*;refine qP H rfl λb3 h3 H3=>qf H3 .here rfl (by show 0+5≤5;omega) rfl λh5 H5=>?_;have H5:HS g h5 (qw b3 (jg kx)::zf lv l::Gk ov (jm l st)::qw b0 [.nils]::R):=H5;have H6:HS g h5 (qw b3 (jg kx)::qy 58 5 l.length lv (l.flatMap jg)::qy 3 1 (jm l st).length ov ((jm l st).map (.int .i64))::qw b0 [.nils]::R):=H5;clear H H3;have hol:=wn l st;refine qm H6 e_2 ?_;rw[hol];refine qm H6 e_1<|UN omQ (qc omQ (qc omQ ?_));refine kG (λhg=>qZ (hj5 _ _ ⟨l,st,lv,ov,rfl,B,OK,hle,H5.drop⟩)) λhg=>qJ<|qQ (qX H5 (b:=b3) .here rfl ?_);refine qG (x8 omQ omQ omQ omQ) ?_;rintro _ h5 ⟨rfl,rfl⟩;have hwb:=zS kx.1 (show(((0:Nat):Int))≤((40:Nat):Int) by omega);generalize zZ kx.1 ((0:Nat):Int) ((40:Nat):Int)=w at*;refine ji [] (λs h'=>∃(l':List qR) (st':List Int) (lv' ov':AV),s=(.int .i64 (i:Int),ov',lv',.ptr b0 0,.bool calm,.int .i64 most,kv,())∧Bld calm l' st'∧OpsK l' st'∧(l'.length:Int)+2*st'.length≤most∧l.length<l'.length∧HS g h' (zf lv' l'::Gk ov' (jm l' st')::qw b0 [.nils]::R)) ?_ ?_
 rotate_left
 ·rintro s h7 ⟨l',st',lv',ov',rfl,B',OK',hle',hlt',H7⟩;dsimp only;refine qc omQ<|hih (41-l'.length) _ _ omQ ⟨i+1,l',st',lv',ov',rfl,rfl,by omega,B',OK',hle',H7⟩
 intro j hj;have hfive:=B.five;have hll:l.length≤100:=by omega
 have same:∀{t:List qR},OpsK (l++t) st:=λ{t} o ho=>OK o (by rw[YI B.stok]at ho;exact ho);have hsame:∀{t:List qR},jm (l++t) st=jm l st:=YI B.stok
 have dflt:wp (zO h5 (.ptr b3 0) 5 λv218=>zz (callT tab qx k) (.fn 58 [] []) [v218] h5 λv219 h220=>xX h220 58 [(.int .i64 ((0:Nat):Int)),(.int .i64 ((0:Nat):Int)),(.int .i64 ((0:Nat):Int)),(.int .i64 ((0:Nat):Int)),(.int .u64 ((0:Nat):Int))] 1 [(0,5,v219)] λv221 h222=>
   xx h222 58 5 lv v221 λv223 h224=>j (.int .i64 (i:Int),ov,v223,.ptr b0 0,.bool calm,.int .i64 most,kv,()) h224 []) (λr h'=>∃lv l,r=.agg [lv]∧Bld calm l []∧0<l.length∧(l.length:Int)≤most∧HS g h' (zf lv l::R)):=by
  refine qF H5 (b:=b3) (off:=0) .here rfl omQ (l:=jg kx) rfl<|qG (Yp omQ hNi H5) ?_;rintro _ h7 ⟨x,rfl,hx,H7⟩;refine qh (n:=1) (l:=jg x) (sz:=5) H7 rfl rfl rfl rfl λv8 h8 H8=>?_;have S1:Sl (λ_=>True) h8 5 [x].length v8 ([x].flatMap jg):=by simpa using H8.sl .here
  refine QQ (H8.sel (P:=zf lv l) e_2) S1 (by simp;omega) λv9 h9 H9=>?_;refine hj _ _ ⟨l++[x],st,v9,ov,rfl,B.flat (hx.ok calm) hx.flat hx.nj,same,by simp;omega,by simp,?_⟩;rw[hsame];exact H9.sub (.cons .here (.drop (.drop (.cons .here (.cons .here .refl)))))
 have beg:∀op:Int,op=14∨op=17→st.length<5→wp (xX h5 58 [(.int .i64 ((0:Nat):Int)),(.int .i64 ((0:Nat):Int)),(.int .i64 ((0:Nat):Int)),(.int .i64 ((0:Nat):Int)),(.int .u64 ((0:Nat):Int))] 1 [(0,5,.agg (jg (one op)))] λv63 h64=>xx h64 58 5 lv v63 λv65 h66=>
   xX h66 3 [(.int .i64 ((0:Nat):Int))] 1 [(0,1,(.int .i64 op))] λv67 h68=>xx h68 3 1 ov v67 λv69 h70=>j (.int .i64 (i:Int),v69,v65,.ptr b0 0,.bool calm,.int .i64 most,kv,()) h70 []) (λr h'=>∃lv l,r=.agg [lv]∧Bld calm l []∧0<l.length∧(l.length:Int)≤most∧HS g h' (zf lv l::R)):=by
  intro op hop hs5;refine qh (n:=1) (l:=jg (one op)) (sz:=5) H5 rfl rfl rfl rfl λv8 h8 H8=>?_;have S1:Sl (λ_=>True) h8 5 [one op].length v8 ([one op].flatMap jg):=by simpa using H8.sl .here
  refine QQ (H8.sel (P:=zf lv l) e_2) S1 (by simp;omega) λv9 h9 H9=>?_;refine qh (n:=1) (l:=[.int .i64 op]) (sz:=1) H9 rfl rfl rfl rfl λv10 h10 H10=>?_;refine jf (H10.sel (P:=qy 3 1 (jm l st).length ov ((jm l st).map (.int .i64))) e_4) (H10.sl .here) omQ omQ rfl λv11 h11 H11=>?_;obtain⟨B2,ho2⟩:=B.begin hop hs5;refine hj _ _ ⟨l++[one op],st++[(l.length:Int)],v9,v11,rfl,B2,?_,by simp;omega,by simp,?_⟩
  ·intro o ho;rw[ho2]at ho;rcases List.mem_append.1 ho with ho |ho
   ·exact OK o ho
   ·rw[List.mem_singleton]at ho;omega
  ·rw[ho2];unfold Gk;rw[List.length_append,List.map_append];exact H11.sub (.cons e_2 (.cons .here (.drop (.drop (.drop (.cons .here .refl))))))
 have shu:0<st.length→wp (zz (callT tab qx k) (.fn 56 [] []) [lv,ov] h5 λv98 h99=>z8 v98 0 λv100=>z8 v98 1 λv101=>j (.int .i64 (i:Int),v101,v100,.ptr b0 0,.bool calm,.int .i64 most,kv,()) h99 []) (λr h'=>∃lv l,r=.agg [lv]∧Bld calm l []∧0<l.length∧(l.length:Int)≤most∧HS g h' (zf lv l::R)):=by
  intro hp;have hne:=List.length_pos_iff.1 hp;refine qG (Z1 omQ B hne (OK.at hne) omQ (H5.sub (L':=zf lv l::Gk ov (jm l st)::qw b3 (jg kx)::qw b0 [.nils]::R) (.cons e_1 (.cons e_1 (.cons .here (.cons .here .refl)))))) ?_;rintro _ h7 ⟨lv',ov',rfl,H7⟩;obtain⟨B2,hops⟩:=B.shut hne (OK.at hne);have hsl:(Yb l st).length≤st.length:=by unfold Yb;split<;>simp<;>omega
  refine qC rfl (qC rfl ?_);refine hj _ _ ⟨_,_,lv',ov',rfl,B2,?_,by rw[MI];omega,by rw[MI];omega,H7.sub (.cons .here (.cons .here (.drop (.cons .here .refl))))⟩;intro o ho;rw[hops]at ho;rcases List.mem_append.1 ho with ho |ho
  ·exact OK o ((List.dropLast_sublist _).subset ho)
  ·split at ho
   ·rw[List.mem_singleton]at ho;omega
   ·cases ho
 have und:opM l st=14→wp (xX h5 58 [(.int .i64 ((0:Nat):Int)),(.int .i64 ((0:Nat):Int)),(.int .i64 ((0:Nat):Int)),(.int .i64 ((0:Nat):Int)),(.int .u64 ((0:Nat):Int))] 1 [(0,5,.agg (jg (one 16)))] λv8 h8=>xx h8 58 5 lv v8 λv9 h9=>j (.int .i64 (i:Int),ov,v9,.ptr b0 0,.bool calm,.int .i64 most,kv,()) h9 []) (λr h'=>∃lv l,r=.agg [lv]∧Bld calm l []∧0<l.length∧(l.length:Int)≤most∧HS g h' (zf lv l::R)):=by
  intro h14;refine qh (n:=1) (l:=jg (one 16)) (sz:=5) H5 rfl rfl rfl rfl λv8 h8 H8=>?_;have S1:Sl (λ_=>True) h8 5 [one 16].length v8 ([one 16].flatMap jg):=by simpa using H8.sl .here
  refine QQ (H8.sel (P:=zf lv l) e_2) S1 (by simp;omega) λv9 h9 H9=>?_;refine hj _ _ ⟨l++[one 16],st,v9,ov,rfl,B.undo h14,same,by simp;omega,by simp,?_⟩;rw[hsame];exact H9.sub (.cons .here (.drop (.drop (.cons .here (.cons .here .refl)))))
 have pair:∀(x y:qR) (h7:AH),HS g h7 (qw b3 (jg kx)::zf lv l::Gk ov (jm l st)::qw b0 [.nils]::R)→Bld calm (l++[x,y]) st→(l.length:Int)+2*st.length+5≤most→wp (xX h7 58 [(.int .i64 ((0:Nat):Int)),(.int .i64 ((0:Nat):Int)),(.int .i64 ((0:Nat):Int)),(.int .i64 ((0:Nat):Int)),(.int .u64 ((0:Nat):Int))] 2 [(0,5,.agg (jg x)),(5,5,.agg (jg y))] λv8 h8=>
   xx h8 58 5 lv v8 λv9 h9=>j (.int .i64 (i:Int),ov,v9,.ptr b0 0,.bool calm,.int .i64 most,kv,()) h9 []) (λr h'=>∃lv l,r=.agg [lv]∧Bld calm l []∧0<l.length∧(l.length:Int)≤most∧HS g h' (zf lv l::R)):=by
  intro x y h7 H7 B7 hm7;refine qh (n:=2) (l:=jg x++jg y) (sz:=5) H7 rfl rfl rfl rfl λv8 h8 H8=>?_;have S1:Sl (λ_=>True) h8 5 [x,y].length v8 ([x,y].flatMap jg):=by simpa using H8.sl .here
  refine QQ (H8.sel (P:=zf lv l) e_2) S1 (by simp;omega) λv9 h9 H9=>?_;refine hj _ _ ⟨l++[x,y],st,v9,ov,rfl,B7,same,by simp;omega,by simp,?_⟩;rw[hsame];exact H9.sub (.cons .here (.drop (.drop (.cons .here (.cons .here .refl)))))
 have zer:∀r:Int,0≤r∧r≤6→KJ calm (13,r,0,((l.length:Int)+((2:Nat):Int)),0):=λr hr=>⟨qqt omQ omQ,by show(13:Int)≠23;decide,by show(0:Int)≤0∧(0:Int)<18446744073709551616;decide,λ_=>by show(13:Int)≠20∧(13:Int)≠22∧(13:Int)≠12;decide⟩
 have two:∀op:Int,op=20∨op=22→calm=false→wp (zz (callT tab qx k) (.fn 57 [] []) [.int .i64 kx.2.1] h5 λv131 h132=>kF lv λv133=>zG .add v133 (.int .i64 ((2:Nat):Int)) λv134=>
   yg [(.int .i64 ((0:Nat):Int)),(.int .i64 ((0:Nat):Int)),(.int .i64 ((0:Nat):Int)),(.int .i64 ((0:Nat):Int)),(.int .u64 ((0:Nat):Int))] [(0,1,(.int .i64 ((13:Nat):Int))),(1,1,v131),(3,1,v134)] λv135=>yg [(.int .i64 ((0:Nat):Int)),(.int .i64 ((0:Nat):Int)),(.int .i64 ((0:Nat):Int)),(.int .i64 ((0:Nat):Int)),(.int .u64 ((0:Nat):Int))] [(0,1,(.int .i64 op))] λv136=>
   xX h132 58 [(.int .i64 ((0:Nat):Int)),(.int .i64 ((0:Nat):Int)),(.int .i64 ((0:Nat):Int)),(.int .i64 ((0:Nat):Int)),(.int .u64 ((0:Nat):Int))] 2 [(0,5,v135),(5,5,v136)] λv8 h8=>xx h8 58 5 lv v8 λv9 h9=>j (.int .i64 (i:Int),ov,v9,.ptr b0 0,.bool calm,.int .i64 most,kv,()) h9 []) (λr h'=>∃lv l,r=.agg [lv]∧Bld calm l []∧0<l.length∧(l.length:Int)≤most∧HS g h' (zf lv l::R)):=by
  intro op hop hcal;refine qG (Yw omQ) ?_;rintro _ h5 ⟨rfl,rfl⟩;have hr:=zS kx.2.1 (show(0:Int)≤6 by omega);refine qm (n:=l.length) H6 e_1 (qc omQ ?_);refine qL (l:=jg (13,zZ kx.2.1 0 6,0,((l.length:Int)+((2:Nat):Int)),0)) rfl<|qL (l:=jg (one op)) rfl<|pair _ _ _ H5 (B.two (zer _ hr) ⟨by rcases hop with rfl |rfl<;>decide,by dsimp only;omega,by show(0:Int)≤0∧(0:Int)<18446744073709551616;decide,λhh=>by rw[hcal]at hh;cases hh⟩ (by show Flat 13;unfold Flat;decide) (by unfold Flat;dsimp only;omega) (λ_=>rfl) (λhh=>by dsimp only at hh;omega)) omQ
 have ovr:wp (yB (α:=AV×AV×AV×AV×AV×AV×AV×Unit→AH→Go.Ae.R) (λs180 h181=>j (s180.1,s180.2.1,s180.2.2.1,s180.2.2.2.1,s180.2.2.2.2.1,s180.2.2.2.2.2.1,s180.2.2.2.2.2.2.1,()) h181 []) λj182=>
   zz (callT tab qx k) (.fn 57 [] []) [.int .i64 kx.2.2.1] h5 λv185 h186=>kF lv λv187=>zG .add v187 (.int .i64 ((2:Nat):Int)) λv188=>
   yg [(.int .i64 ((0:Nat):Int)),(.int .i64 ((0:Nat):Int)),(.int .i64 ((0:Nat):Int)),(.int .i64 ((0:Nat):Int)),(.int .u64 ((0:Nat):Int))] [(0,1,(.int .i64 ((13:Nat):Int))),(1,1,v185),(3,1,v188)] λv189=>zO h186 (.ptr b3 0) 5 λv190=>zz (callT tab qx k) (.fn 58 [] []) [v190] h186 λv191 h192=>
   xX h192 58 [(.int .i64 ((0:Nat):Int)),(.int .i64 ((0:Nat):Int)),(.int .i64 ((0:Nat):Int)),(.int .i64 ((0:Nat):Int)),(.int .u64 ((0:Nat):Int))] 2 [(0,5,v189),(5,5,v191)] λv193 h194=>xx h194 58 5 lv v193 λv195 h196=>
   Jz (.ptr b3 0) (some 5) v190 h5 h186 h5.nx<| j182 (.int .i64 (i:Int),ov,v195,.ptr b0 0,.bool calm,.int .i64 most,kv,()) h196) (λr h'=>∃lv l,r=.agg [lv]∧Bld calm l []∧0<l.length∧(l.length:Int)≤most∧HS g h' (zf lv l::R)):=by
  refine qV ?_
  try dsimp only
  refine qG (Yw omQ) ?_;rintro _ h5 ⟨rfl,rfl⟩;have hr:=zS kx.2.2.1 (show(0:Int)≤6 by omega);refine qm (n:=l.length) H6 e_1 (qc omQ ?_);refine qL (l:=jg (13,zZ kx.2.2.1 0 6,0,((l.length:Int)+((2:Nat):Int)),0)) rfl<|qF H5 (b:=b3) (off:=0) .here rfl omQ (l:=jg kx) rfl<|qG (Yp omQ hNi H5) ?_;rintro _ h7 ⟨x,rfl,hx,H7⟩;refine qh (n:=2) (l:=jg (13,zZ kx.2.2.1 0 6,0,((l.length:Int)+((2:Nat):Int)),0)++jg x) (sz:=5) H7 rfl rfl rfl rfl λv8 h8 H8=>?_;have S1:Sl (λ_=>True) h8 5 [((13,zZ kx.2.2.1 0 6,0,((l.length:Int)+((2:Nat):Int)),0):qR),x].length v8 ([((13,zZ kx.2.2.1 0 6,0,((l.length:Int)+((2:Nat):Int)),0):qR),x].flatMap jg):=by simpa using H8.sl .here
  refine QQ (H8.sel (P:=zf lv l) e_2) S1 (by simp;omega) λv9 h9 H9=>?_;refine zn H5 (b:=b3) .here rfl H5 .here rfl rfl omQ (HS.lt H5 .here)<|hj _ _ ⟨_,st,v9,ov,rfl,B.two (zer _ hr) (hx.ok calm) (by show Flat 13;unfold Flat;decide) hx.flat (λ_=>rfl) (λhh=>by have:=hx.nj;omega),same,by simp;omega,by simp,?_⟩;rw[hsame];exact H9.sub (.cons .here (.drop (.drop (.cons .here (.cons .here .refl)))))
 have bak:calm=false→wp (yB (α:=AV×AV×AV×AV×AV×AV×AV×Unit→AH→Go.Ae.R) (λs180 h181=>j (s180.1,s180.2.1,s180.2.2.1,s180.2.2.2.1,s180.2.2.2.2.1,s180.2.2.2.2.2.1,s180.2.2.2.2.2.2.1,()) h181 []) λj182=>
   zO h5 (.ptr b3 0) 5 λv205=>zz (callT tab qx k) (.fn 58 [] []) [v205] h5 λv206 h207=>qt (.ptr b3 0) 2 λv208=>jN h207 v208 λv209=>
   zz (callT tab qx k) (.fn 57 [] []) [v209] h207 λv210 h211=>kF lv λv212=>
   yg [(.int .i64 ((0:Nat):Int)),(.int .i64 ((0:Nat):Int)),(.int .i64 ((0:Nat):Int)),(.int .i64 ((0:Nat):Int)),(.int .u64 ((0:Nat):Int))] [(0,1,(.int .i64 ((13:Nat):Int))),(1,1,v210),(3,1,v212)] λv213=>
   xX h211 58 [(.int .i64 ((0:Nat):Int)),(.int .i64 ((0:Nat):Int)),(.int .i64 ((0:Nat):Int)),(.int .i64 ((0:Nat):Int)),(.int .u64 ((0:Nat):Int))] 2 [(0,5,v206),(5,5,v213)] λv214 h215=>xx h215 58 5 lv v214 λv216 h217=>
   Jz v208 none v209 h5 h207 h5.nx<| j182 (.int .i64 (i:Int),ov,v216,.ptr b0 0,.bool calm,.int .i64 most,kv,()) h217) (λr h'=>∃lv l,r=.agg [lv]∧Bld calm l []∧0<l.length∧(l.length:Int)≤most∧HS g h' (zf lv l::R)):=by
  intro hcal;refine qV ?_
  try dsimp only
  refine qF H5 (b:=b3) (off:=0) .here rfl omQ (l:=jg kx) rfl<|qG (Yp omQ hNi H5) ?_;rintro _ h7 ⟨x,rfl,hx,H7⟩;refine qQ (qX H7 (b:=b3) .here rfl ?_);refine qG (Yw omQ) ?_;rintro _ h7 ⟨rfl,rfl⟩;have hr:=zS kx.2.2.1 (show(0:Int)≤6 by omega);have H7':HS g h7 (qw b3 (jg kx)::qy 58 5 l.length lv (l.flatMap jg)::Gk ov (jm l st)::qw b0 [.nils]::R):=H7;refine qm (n:=l.length) H7' e_1<|qL (l:=jg (13,zZ kx.2.2.1 0 6,0,(l.length:Int),0)) rfl<|qh (n:=2) (l:=jg x++jg (13,zZ kx.2.2.1 0 6,0,(l.length:Int),0)) (sz:=5) H7 rfl rfl rfl rfl λv8 h8 H8=>?_;have S1:Sl (λ_=>True) h8 5 [x,((13,zZ kx.2.2.1 0 6,0,(l.length:Int),0):qR)].length v8 ([x,((13,zZ kx.2.2.1 0 6,0,(l.length:Int),0):qR)].flatMap jg):=by simpa using H8.sl .here
  refine QQ (H8.sel (P:=zf lv l) e_2) S1 (by simp;omega) λv9 h9 H9=>?_;refine qd H5 (b:=b3) .here rfl H7 .here rfl (HS.lt H5 .here)<|hj _ _ ⟨l++[x,(13,zZ kx.2.2.1 0 6,0,(l.length:Int),0)],st,v9,ov,rfl,B.two (hx.ok calm) ⟨qqt omQ omQ,by show(13:Int)≠23;decide,by show(0:Int)≤0∧(0:Int)<18446744073709551616;decide,λ_=>by show(13:Int)≠20∧(13:Int)≠22∧(13:Int)≠12;decide⟩ hx.flat (by show Flat 13;unfold Flat;decide) (λhh=>by have:=hx.nj;omega) (λ_=>⟨rfl,hcal⟩),same,by simp;omega,by simp,?_⟩;rw[hsame];exact H9.sub (.cons .here (.drop (.drop (.cons .here (.cons .here .refl)))))
 have hd:(w=20∧st.length<5)∨(w=20∧¬st.length<5)∨(w=21∧st.length<5)∨(w=21∧¬st.length<5)∨(w=22∧st.length<5)∨(w=22∧¬st.length<5)∨(w=23∧0<st.length)∨(w=23∧¬0<st.length)∨(w=24∧0<st.length)∨(w=24∧¬0<st.length)∨(w=25∧0<st.length)∨(w=25∧¬0<st.length)∨(w=26∧calm=true)∨(w=26∧calm=false∧0<st.length)∨(w=26∧calm=false∧¬0<st.length)∨(w=27∧calm=true)∨(w=27∧calm=false∧0<st.length)∨(w=27∧calm=false∧¬0<st.length)∨(w=28∧calm=true)∨(w=28∧calm=false)∨(w=29∧calm=true)∨(w=29∧calm=false)∨(w=30)∨(w=31)∨(w=32∧calm=true)∨(w=32∧calm=false)∨(w<20∨32<w):=by
  cases calm<;>simp only[reduceCtorEq,and_true,true_and,and_false,false_and,or_false,false_or]<;>omega
 rcases hd with⟨hw1,hs1⟩ |⟨hw1,hs1⟩ |⟨hw1,hs1⟩ |⟨hw1,hs1⟩ |⟨hw1,hs1⟩ |⟨hw1,hs1⟩ |⟨hw1,hs1⟩ |⟨hw1,hs1⟩ |⟨hw1,hs1⟩ |⟨hw1,hs1⟩ |⟨hw1,hs1⟩ |⟨hw1,hs1⟩ |⟨hw1,rfl⟩ |⟨hw1,rfl,hs1⟩ |⟨hw1,rfl,hs1⟩ |⟨hw1,rfl⟩ |⟨hw1,rfl,hs1⟩ |⟨hw1,rfl,hs1⟩ |⟨hw1,rfl⟩ |⟨hw1,rfl⟩ |⟨hw1,rfl⟩ |⟨hw1,rfl⟩ |hw1 |hw1 |⟨hw1,rfl⟩ |⟨hw1,rfl⟩ |hw1
 all_goals repeat (first |with_reducible refine qK omQ ?_ |with_reducible refine qg omQ ?_ |(with_reducible refine qV ?_;try dsimp only) |(with_reducible refine qa ?_;try dsimp only) |(with_reducible refine qs ?_;try dsimp only) |(with_reducible refine qT ?_;try dsimp only) |(with_reducible refine qe ?_;try dsimp only) |with_reducible refine qD ?_ |with_reducible refine qE ?_ |with_reducible refine qZ ?_ |with_reducible refine qJ ?_ |with_reducible refine jT omQ ?_ |with_reducible refine jD omQ ?_ |with_reducible refine yp omQ ?_ |with_reducible refine yT omQ ?_ |with_reducible refine jk ?_ |with_reducible refine jA ?_ |with_reducible refine zJ omQ ?_ |with_reducible refine qQ ?_ |(with_reducible refine zK ?_;try dsimp only) |with_reducible refine qX H6 .here rfl ?_ |with_reducible refine qL rfl ?_)
 ·exact beg 14 (.inl rfl) omQ
 ·exact dflt
 ·exact beg 17 (.inr rfl) omQ
 ·exact dflt
 ·exact beg 17 (.inr rfl) omQ
 ·exact dflt
 ·exact shu omQ
 ·exact dflt
 ·exact shu omQ
 ·exact dflt
 ·rw[show(st.length:Int)-((1:Nat):Int)=((st.length-1:Nat):Int) by omega];refine jO (H6.sl e_2) (x:=.int .i64 (opM l st)) (by rw[List.getElem?_map,qZP (List.length_pos_iff.1 hs1)];rfl) ?_;by_cases h14:opM l st=14
  ·refine qg h14<|qD (qZ (qL rfl ?_));exact und h14
  ·refine qK h14<|qD (qJ (qK omQ ?_));refine qV<|qe<|qK omQ<|qE (qV ?_);(try dsimp only);refine qT<|qE (qV ?_);(try dsimp only);refine qT<|qE (qJ (qK omQ ?_));refine qV<|qT<|qE (qJ (qK omQ ?_));refine qV<|qT<|qE (qJ (qK omQ ?_));refine qV<|qe<|qK omQ<|qE (qJ (qK omQ ?_));refine qV<|qT<|qE (qJ ?_)
   exact dflt
 ·exact dflt
 ·exact dflt
 ·exact two 20 (.inl rfl) rfl
 ·exact dflt
 ·exact dflt
 ·exact two 20 (.inl rfl) rfl
 ·exact dflt
 ·exact dflt
 ·exact two 20 (.inl rfl) rfl
 ·exact dflt
 ·exact two 22 (.inr rfl) rfl
 ·exact ovr
 ·exact ovr
 ·exact dflt
 ·exact bak rfl
 ·exact dflt
end
section
variable {g h:AH} {L R:List SP}
theorem GE {p:Int} {c:Cl} {l:List Cl}:zg p (c::l)=if c.1=p then some c.2 else zg p l:=rfl
theorem qK4 (zs:List Int) {i:Nat} (h0:0<i) (h:i<szZ zs.length):zg (i:Int) (kW zs)=some (xh zs i):=by
 have e:kW zs=(kW zs).take (i-1)++[((i:Int),xh zs i)]++(kW zs).drop i:=by have hk:=O3 zs (show i-1+1<szZ zs.length by omega);rw[show i-1+1=i by omega]at hk;have:=List.take_add_one (l:=kW zs) (i:=i-1);rw[show i-1+1=i by omega,hk,Option.toList_some]at this;rw[← this,List.take_append_drop]
 have hg:∀(l1 l2:List Cl),zg (i:Int) l1=none→zg (i:Int) (l1++l2)=zg (i:Int) l2:=by
  intro l1 l2
  induction l1 with
  |nil=>intro _;rfl
  |cons c l ih=>
   intro hn;rw[GE]at hn
   split at hn
   ·cases hn
   ·rename_i hc;show zg (i:Int) (c::(l++l2))=_;rw[GE,iQ hc];exact ih hn
 rw[e,List.append_assoc,hg _ _ (qKe zs omQ)];show zg (i:Int) (((i:Int),xh zs i)::_)=_;rw[GE,iJ rfl]
theorem gL {zs:List Int} {m:Int} (hz:∀z∈zs,0≤z∧z<18446744073709551616):jI (jV zs m):=by
 refine⟨OJ zs m,?_,?_⟩
 ·intro c hc;obtain⟨i,_,rfl⟩:=List.mem_map.1 hc;unfold xh;cases hzi:zs[i+1]? with
  |none=>simp
  |some z=>exact hz z (List.mem_of_getElem? hzi)
 ·intro x hx;simp[jV]at hx;subst hx;intro c hc;cases hc
theorem UC {b o:Nat} {K:AV→Go.Ae.R} {Q:AV→AH→Prop} (w:wp (K (.bool false)) Q):wp (pEq .ptr false (.ptr b o) .nilp K) Q:=w
theorem UM {b o:Nat} {K:AV→Go.Ae.R} {Q:AV→AH→Prop} (w:wp (K (.bool true)) Q):wp (pEq .ptr true (.ptr b o) .nilp K) Q:=w
theorem qYT (op a n:Int) (s:IM) (V:VM):(zM op a n s V).blk=false:=by unfold zM;split<;>rfl
theorem qJ0 {mt:List Int} {s:IM} {V:VM} {x:qR} (h:1≤x.1∧x.1≤23) (h1:x.1≠20) (h3:x.1≠23):(doM mt s V x).blk=false:=by
 unfold doM;by_cases c1:x.1=1
 ·rw[iJ c1]
 rw[iQ c1];by_cases c2:x.1=2
 ·rw[iJ c2]
 rw[iQ c2];by_cases c3:x.1=3
 ·rw[iJ c3]
 rw[iQ c3];by_cases c4:x.1=4
 ·rw[iJ c4]
 rw[iQ c4];by_cases c5:x.1=5
 ·rw[iJ c5]
 rw[iQ c5];by_cases c6:x.1=6
 ·rw[iJ c6]
 rw[iQ c6];by_cases c7:x.1=7
 ·rw[iJ c7]
 rw[iQ c7];by_cases c12:x.1=12
 ·rw[iJ c12]
 rw[iQ c12];by_cases c13:x.1=13
 ·rw[iJ c13]
 rw[iQ c13];by_cases c21:x.1=21
 ·rw[iJ c21];split<;>rfl
 rw[iQ c21];by_cases c22:x.1=22
 ·rw[iJ c22]
 rw[iQ c22];by_cases c8:x.1=8∨x.1=9∨x.1=10∨x.1=11
 ·rw[iJ c8]
 rw[iQ c8];unfold wB;by_cases t1:x.1=14∨x.1=17
 ·rw[iJ t1];exact qYT ..
 rw[iQ t1];by_cases t2:x.1=15∨x.1=19
 ·rw[iJ t2]
 rw[iQ t2];by_cases t3:x.1=18
 ·rw[iJ t3]
 rw[iQ t3];by_cases t4:x.1=16
 ·rw[iJ t4]
 omega
def qX3 (l:List qR):Prop:=∀x∈l,x.1≠20
theorem qZM {l:List qR} (F:Fit l) (Q:Quiet l) (C:qX3 l):∀(n:Nat) {s:IM} {V:VM},GI l s V→frS V.lv+n<9000→(jL l (qO l) n s V).kind≠3:=by
 intro n
 induction n with
 |zero=>
  intro s V G hf;rw[gc]
  split
  ·show(2:Int)≠3;decide
  ·show(4:Int)≠3;decide
 |succ n ih=>
  intro s V G hf;rw[ww]
  split
  ·show(2:Int)≠3;decide
  ·rename_i h0;obtain⟨i,hi,hil⟩:=G.pc;have hlt:i<l.length:=by omega
   rw[hi];have S:=Jt F G hi hlt omQ (Q.at hlt).2 (Q.at hlt).1;have hb:(doM (qO l) s V (qS l i)).blk=false:=by have hw:=yF (F.ok i hlt);have hb:=qVB hw.1 (Q.at hlt).1;refine qJ0 omQ ?_ (Q.at hlt).1;rw[yQ hlt];exact C _ (List.getElem_mem hlt)
   generalize doM (qO l) s V (qS l i)=D at*;rw[hb]
   split
   ·rename_i h1;rw[iQ osQ];have hfr:=S.fr;exact ih (S.next h1 hb) omQ
   ·split
    ·show(1:Int)≠3;decide
    ·show(4:Int)≠3;decide
theorem qG5 {l:List qR} (F:Fit l) (Q:Quiet l) {zs:List Int} {m:Int} {n:Nat} {s:IM} {V:VM} (G:GI l s V) (hK:V.K=kW zs) (hs:V.sz=szZ zs.length) (hf:frS V.lv+n<9000):(jL l (qO l) n s V).kind≠1:=by intro h;obtain⟨_,_,_,d,_⟩:=Yu F Q n G hf;obtain⟨_,d1,d2,d3⟩:=d h;generalize(jL l (qO l) n s V).v.need=p at*;obtain⟨i,rfl⟩:∃i:Nat,p=i:=⟨p.toNat,by omega⟩;rw[hK,qK4 zs omQ omQ]at d3;cases d3
theorem Yj {l:List qR} {zs:List Int} {m:Int} (hz:OkN zs):GI l J7 (jV zs m):=wY rfl (gL hz)
theorem w6 (zs:List Int) (m:Int):frS (jV zs m).lv=0:=by simp[jV,frS]
section
variable {x y v u:Nat} {l l':List qR} {b b':Int} {mt mt':List Int} {s s':IM} {e e' f f' n1 n2 nx nx':Int} {V W:VM}
end
end
section
def jE:Jw→VM→(Int×Int)×Jw×VM
 | .prog q,V=>(((jL q.l (qO q.l) q.left q.s V).kind,(jL q.l (qO q.l) q.left q.s V).err),
   .prog ⟨q.l,(jL q.l (qO q.l) q.left q.s V).s,if(jL q.l (qO q.l) q.left q.s V).kind=1 then 0 else(jL q.l (qO q.l) q.left q.s V).kind,(jL q.l (qO q.l) q.left q.s V).err,(jL q.l (qO q.l) q.left q.s V).left⟩,
   (jL q.l (qO q.l) q.left q.s V).v)
 | .sweep bs k,V=>(if(jR V (bs.drop k) k).1.2=11 then(1,0)else if(jR V (bs.drop k) k).1.2=0 then(2,0)else(4,(jR V (bs.drop k) k).1.2),.sweep bs (jR V (bs.drop k) k).1.1,(jR V (bs.drop k) k).2)
theorem VJ (x:jG):y8 x=((jE x.job x.v).1,{ x with job:=(jE x.job x.v).2.1,v:=(jE x.job x.v).2.2 }):=by unfold y8 jE;cases x.job<;>rfl
theorem qXo:∀(bs:List Int) (k:Nat) {V W:VM},xQ V W→jI V→jI W→
  ((jR V bs k).1.2=11∧∃(j:Nat) (W':VM),(jR V bs k).1.1=k+j∧xQ (jR V bs k).2 W'∧jI W'∧W'.K=W.K∧W'.sz=W.sz∧jR W bs k=jR W' (bs.drop j) (k+j))∨
  ((jR V bs k).1.2≠11∧(jR W bs k).1=(jR V bs k).1∧xQ (jR V bs k).2 (jR W bs k).2):=by
 intro bs
 induction bs with
 |nil=>intro k V W h _ _;exact .inr ⟨by show(0:Int)≠11;decide,rfl,h⟩
 |cons b r ih=>
  intro k V W h GV GW;have hk:=KB (b:=b) GV.ok;rcases h.give b with h11 |⟨e,hp⟩
  ·left;have e0:jR V (b::r) k=((k,(zj V b).1),(zj V b).2):=iQ (by rw[h11];decide);have hn:=Ka h11;rw[e0];refine⟨h11,0,W,rfl,⟨hk.sz.trans h.sz,hk.most.trans h.most,hn.1.trans h.lv,λp x hx=>h.K p x (by rw[← hk.K];exact hx)⟩,GW,rfl,rfl,rfl⟩
  ·have kW:=KB (b:=b) GW.ok;by_cases h0:(zj V b).1=0
   ·have e1:jR V (b::r) k=jR (zj V b).2 r (k+1):=iJ h0;have e2:jR W (b::r) k=jR (zj W b).2 r (k+1):=iJ (by rw[← e];exact h0);rw[e1,e2];rcases ih (k+1) hp GV.give.1 GW.give.1 with⟨a,j,W',b1,b2,b3,b4,b5,b6⟩ |a
    ·refine .inl ⟨a,j+1,W',by omega,b2,b3,b4.trans kW.K,b5.trans kW.sz,?_⟩;rw[b6,List.drop_succ_cons,show k+1+j=k+(j+1) by omega]
    ·exact .inr a
   ·have e1:jR V (b::r) k=((k,(zj V b).1),(zj V b).2):=iQ h0;have e2:jR W (b::r) k=((k,(zj W b).1),(zj W b).2):=iQ (by rw[← e];exact h0);rw[e1,e2];by_cases h11:(zj V b).1=11
    ·left;have hn:=Ka h11;refine⟨h11,0,W,rfl,⟨hk.sz.trans h.sz,hk.most.trans h.most,hn.1.trans h.lv,λp x hx=>h.K p x (by rw[← hk.K];exact hx)⟩,GW,rfl,rfl,?_⟩;rw[List.drop_zero,Nat.add_zero,e2]
    ·exact .inr ⟨h11,by rw[← e],hp⟩
theorem qgL {j:Jw} {V W:VM} (h:xQ V W) (GV:jI V) (GW:jI W) (hV:JobOk True V j) (hW:JobOk True W j) :
  ((jE j V).1.1=1∧∃W',xQ (jE j V).2.2 W'∧jI W'∧W'.K=W.K∧W'.sz=W.sz∧JobOk True W' (jE j V).2.1∧jE j W=jE (jE j V).2.1 W')∨
  ((jE j V).1.1≠1∧(jE j W).1=(jE j V).1∧(jE j W).2.1=(jE j V).2.1∧xQ (jE j V).2.2 (jE j W).2.2):=by
 cases j with
 |prog q=>
  obtain⟨F,Q,gb,hr,hl⟩:=hV;obtain⟨G,h0,h1,h2⟩:=hr trivial;obtain⟨GWi,_,_,h3⟩:=hW.2.2.2.1 trivial;rcases qz5 F Q q.left G GWi h2 h with⟨k1,W',p,eK,eS,g,e⟩ |⟨k1,e1,e2,e3,e4,p⟩
  ·left;refine⟨k1,W',p,g.good,eK,eS,⟨F,Q,g.gb,λ_=>⟨g,iJ k1,qzS _ k1,?_⟩,?_⟩,?_⟩
   ·have:=qj4 F Q q.left G h2 k1;show frS W'.lv+(jL q.l (qO q.l) q.left q.s V).left<9000;rw[← p.lv];omega
   ·have:=qxD (l:=q.l) (mt:=qO q.l) q.left (s:=q.s) (V:=V);show(jL q.l (qO q.l) q.left q.s V).left≤400;omega
   ·unfold jE;dsimp only;rw[← e]
  ·right;refine⟨k1,?_,?_,p⟩
   ·show((jL q.l (qO q.l) q.left q.s W).kind,(jL q.l (qO q.l) q.left q.s W).err)=_;rw[e1,e2];rfl
   ·show Jw.prog ⟨q.l,(jL q.l (qO q.l) q.left q.s W).s,if(jL q.l (qO q.l) q.left q.s W).kind=1 then 0 else(jL q.l (qO q.l) q.left q.s W).kind,(jL q.l (qO q.l) q.left q.s W).err,(jL q.l (qO q.l) q.left q.s W).left⟩=_;rw[e1,e2,e3,e4];rfl
 |sweep bs k=>
  have hbk:=hV.1;rcases qXo (bs.drop k) k h GV GW with⟨a,j,W',b1,b2,b3,b4,b5,b6⟩ |⟨a,e,p⟩
  ·left;have a4:=(Kv (bs.drop k) k GV).2.2.2.1;rw[List.length_drop]at a4;refine⟨by unfold jE;dsimp only;rw[iJ a],W',b2,b3,b4,b5,⟨by show(jR V (bs.drop k) k).1.1≤bs.length;omega,hV.2⟩,?_⟩;unfold jE;dsimp only;rw[b6,b1,List.drop_drop]
  ·right;refine⟨?_,?_,?_,p⟩
   ·unfold jE;dsimp only;rw[iQ a]
    split
    ·decide
    ·exact(by decide:(4:Int)≠1)
   ·unfold jE;dsimp only;rw[e]
   ·unfold jE;dsimp only;rw[e]
section
variable {S:zv} {M:jC} {me:Int}
structure KnM (M:jC) (V:VM):Prop where
  sz:(V.sz:Int)=M.w.length
  K:∀p x,zg p V.K=some x→x=qM M.w p
theorem qyr {zs:List Int} {p:Int} (hp:1≤p) (h:p<szZ zs.length):zg p (kW zs)=some (qM zs p):=by obtain⟨i,rfl⟩:∃i:Nat,p=i:=⟨p.toNat,by omega⟩;rw[qK4 zs omQ omQ];unfold xh qM;rw[Int.toNat_natCast]
theorem qXO (O:yX S):∀(n:Nat) {M:jC} {x:jG} {W:VM},xv S M me→x.v.sz≤x.v.K.length+1+n→x.me=me→x.set=S→x.c=none→x.stamp=M.n→kO S M x.r→kU x→JobOk True x.v x.job→xQ x.v W→jI W→W.K=kW M.w→W.sz=szZ M.w.length→JobOk True W x.job→
  ∃(m:Nat) (y:jG),m≤3*n∧Stp m (yW x) M (gY y (jE x.job W).1.1 (jE x.job W).1.2) (bump M m)∧(jE x.job W).1.1≠1∧y.job=(jE x.job W).2.1∧xQ y.v (jE x.job W).2.2∧
   y.me=me∧y.set=S∧y.c=none∧y.stamp=M.n∧kO S M y.r∧kU y∧y.begun=x.begun∧y.begin_=x.begin_∧y.blocking=x.blocking:=by
 intro n
 induction n using Nat.strongRecOn with
 |ind n ih=>
 intro M x W C hn hme hset hc hs hR B hj P GW hK hsz hjW;have D:=Ud B.good B.fr hj;rw[VJ]at D;have hsame:=D.same;have hkept:=D.kept;rcases qgL P B.good GW hj hjW with⟨k1,W',p,gW,eK,eS,jW,e⟩ |⟨k1,e1,e2,p⟩
 ·obtain⟨n1,n2,n3⟩:=D.need k1;dsimp only at n1 n2 n3 hkept;generalize hp0:(jE x.job x.v).2.2.need=p0 at*;have hsz':(x.v.sz:Int)=M.w.length:=by
   have h1:=B.sz;have h2:=C.w;rw[h1,hset,h2]
  have hszN:szZ M.w.length=x.v.sz:=by rw[← hsz];exact P.sz.symm
  have hwS:p0<S.words:=by rw[← C.w,← hsz'];exact n2
  have ew:yW x=Jc { x with job:=(jE x.job x.v).2.1,v:=(jE x.job x.v).2.2 } p0:=by unfold yW;rw[VJ];unfold gY;rw[iJ k1];rw[hp0]
  have hgV':jI (jE x.job x.v).2.2:=D.good;obtain⟨F,hF⟩:=qy2 O C (x:=Jc { x with job:=(jE x.job x.v).2.1,v:=(jE x.job x.v).2.2 } p0) rfl hc (by show Qg x.me p0 (ofM p0 x.set.stripes x.set.wide) x.set.spins x.stamp=_;rw[hset];rfl) hs ⟨n1,hwS⟩ hR hp0;have hof:=qZc O (p:=p0) omQ;have hadd:=kO.add O C hR hof;have hw:0≤qM M.w p0∧qM M.w p0<18446744073709551616:=by
   have:=C.w;obtain⟨i,rfl⟩:∃i:Nat,p0=i:=⟨p0.toNat,by omega⟩;have hi:i<M.w.length:=by omega
   have e:=gd (a:=M.w) hi;exact C.wd _ (List.mem_of_getElem? e)
  have hkn:xW (jE x.job x.v).2.2 p0 (qM M.w p0)=(0,{ (jE x.job x.v).2.2 with K:=(jE x.job x.v).2.2.K++[(p0,qM M.w p0)] }):=qq4 n1 (by rw[hkept.1];exact n2) (by rw[hkept.2.1];exact n3);have hK2:(xW (jE x.job x.v).2.2 p0 (qM M.w p0)).2.K.length=x.v.K.length+1:=by rw[hkn];rw[hkept.2.1];simp
  have hroom:=jQL (MB (p:=p0) (x:=qM M.w p0) hgV'.ok);have hks:=(kX (V:=(jE x.job x.v).2.2) (p:=p0) (x:=qM M.w p0)).2;rw[hK2,hks,hkept.1]at hroom;have hlo:=B.good.ok.lo;obtain⟨n',rfl⟩:∃n',n=n'+1:=⟨n-1,by omega⟩;have B2:kU { Jc { x with job:=(jE x.job x.v).2.1,v:=(jE x.job x.v).2.2 } p0 with f:=F,r:=(kE x.r (ofM p0 S.stripes S.wide,(zx M.l (ofM p0 S.stripes S.wide)).1)).2,v:=(xW (jE x.job x.v).2.2 p0 (qM M.w p0)).2 } :=
   ⟨B.set,X7 hgV' hw,by show((xW (jE x.job x.v).2.2 p0 (qM M.w p0)).2.sz:Int)=_;rw[hks,hkept.1];exact B.sz,by show frS (xW (jE x.job x.v).2.2 p0 (qM M.w p0)).2.lv<9000;rw[kX.1];exact D.fr,KQ B.r,((D.job.same λ_=>k1).know hw).same λh=>h.elim,λc h=>B.c c h⟩
  have P2:xQ (xW (jE x.job x.v).2.2 p0 (qM M.w p0)).2 W':=by
   refine⟨hks.trans p.sz,?_,kX.1.trans p.lv,λq z hz=>?_⟩
   ·rw[hkn];exact p.most
   ·rw[hkn]at hz;dsimp only at hz;have hpn:zg p0 (jE x.job x.v).2.2.K=none:=by rw[hkept.2.1];exact n3
    rw[← Jk hpn,VG]at hz;by_cases hq:q=p0
    ·rw[iJ hq]at hz;cases hz;rw[eK,hK,hq];exact qyr n1 (by rw[hszN];exact n2)
    ·rw[iQ hq]at hz;exact p.K q z hz
  obtain⟨m,y,m1,m2,m3,m4,m5,m6,m7,m8,m9,m10,m11,m12⟩:=ih n' omQ (x:={ Jc { x with job:=(jE x.job x.v).2.1,v:=(jE x.job x.v).2.2 } p0 with f:=F,r:=(kE x.r (ofM p0 S.stripes S.wide,(zx M.l (ofM p0 S.stripes S.wide)).1)).2,v:=(xW (jE x.job x.v).2.2 p0 (qM M.w p0)).2 })
   (W:=W') (C.bump 3) (by show(xW (jE x.job x.v).2.2 p0 (qM M.w p0)).2.sz≤(xW (jE x.job x.v).2.2 p0 (qM M.w p0)).2.K.length+1+n';rw[hK2,hks,hkept.1];omega) hme hset hc hs ⟨hadd.2.at_,hadd.2.un⟩ B2 ((D.job.same λ_=>k1).know hw) P2 gW (eK.trans hK) (eS.trans hsz) jW
  refine⟨3+m,y,by omega,?_,?_⟩
  ·rw[ew,e];have:=hF.trans m2;rw[wP]at this;rw[Int.natCast_add];exact this
  ·rw[e];exact⟨m3,m4,m5,m6,m7,m8,m9,⟨m10.at_,m10.un⟩,m11,m12⟩
 ·refine⟨0,{ x with job:=(jE x.job x.v).2.1,v:=(jE x.job x.v).2.2 },Nat.zero_le _,?_,by rw[e1];exact k1,e2.symm,p,hme,hset,hc,hs,hR,?_,rfl,rfl,rfl⟩
  ·unfold yW;rw[VJ,e1,show bump M ((0:Nat):Int)=M by unfold bump;simp];exact .nil
  ·exact⟨B.set,D.good,by show((jE x.job x.v).2.2.sz:Int)=_;rw[hkept.1];exact B.sz,D.fr,B.r,D.job.same λh=>h.elim,B.c⟩
end
end
section
section
variable {S:zv} {M:jC} {me:Int}
theorem Kg {x:jG} {a:AnM} (h5:x.state=5) (ha:a.err=0):jU x a=xu { x with e:=yq x.e a }:=by unfold jU;rw[iQ omQ,iQ (by rw[ha];exact λh=>h rfl),iQ omQ,iQ omQ,iQ omQ,iQ omQ,iQ omQ,iQ omQ]
theorem VA {x:jG} (h5:x.state=5):xA x=Jn x.e:=by unfold xA;rw[iQ omQ,iQ omQ,iQ omQ,iQ omQ,iQ omQ,iQ omQ,iQ omQ]
theorem NC {x:jG} (h5:x.state=5) (hc:x.c=none) (hf:x.e.p.fin=2):xu x=xd { x with stamp:=x.e.stamp } 3 0 (-1):=by
 unfold xu;have h1:(xI x).1=2:=by unfold xI;rw[iQ omQ,iQ omQ];exact hf
 rw[h1,iQ od,iQ od];unfold yA;rw[iQ omQ,iQ omQ,iJ h5];unfold wZ;rw[iQ (λh=>h hf)];unfold xz;rw[kD (by exact hc)];rfl
theorem Nt {x:jG} (h5:x.state=5) (hc:x.c=none) (hf:x.e.p.fin=0):xu x=x :=
 GX (by unfold xI;rw[iQ omQ,iQ omQ];exact hf) (kD hc)
theorem qz3 {r:List xP} {n:Int}:∀(k:Nat) {M:jC} {x:jG} {i:Nat} {p:Jf},xv S M me→kO S M r→x.state=5→x.c=none→x.e=⟨p,r,true,i,n⟩→p.fin=0→r.length=i+k+1→
  ∃E:Q5,Stp (k+1) x M (xd { x with e:=E,stamp:=n } 3 0 (-1)) (bump M (k+1:Nat)):=by
 intro k
 induction k with
 |zero=>
  intro M x i p C R h5 hc he hp hl;have hi:i<r.length:=by omega
  have hm:=R.at_ _ (List.getElem_mem hi);have hat:z6 r (i:Int)=r[i]:=by unfold z6;rw[Int.toNat_natCast,iW hi];rfl
  obtain⟨v,e,_,_⟩:=C.at ⟨hm.1,hm.2.1⟩;refine⟨{ x.e with at_:=(i:Int)+1,p:=zy p 2 0 (-1) },.step ?_ (UO C ⟨hm.1,hm.2.1⟩) ?_⟩
  ·rw[VA h5,he];unfold Jn;dsimp only;rw[iQ (λh=>h hp),iQ od,hat]
  ·rw[Kg h5 rfl,he];have ex:yq ⟨p,r,true,i,n⟩ ⟨0,zx M.l r[i].1,false,0⟩=⟨zy p 2 0 (-1),r,true,(i:Int)+1,n⟩:=by
    unfold yq;have:(jK p ⟨0,zx M.l r[i].1,false,0⟩)=(decide (p.fin≠0),p):=by unfold jK;rw[iQ (λh=>h.2 rfl)]
    dsimp only;rw[this,e];dsimp only;rw[iQ (by rw[hp];decide),iQ od,iQ od,iQ (by rw[hat,hm.2.2,e];exact λh=>h rfl)];unfold J4;dsimp only;rw[iJ omQ]
   rw[ex];exact NC h5 hc rfl
 |succ k ih=>
  intro M x i p C R h5 hc he hp hl;have hi:i<r.length:=by omega
  have hm:=R.at_ _ (List.getElem_mem hi);have hat:z6 r (i:Int)=r[i]:=by unfold z6;rw[Int.toNat_natCast,iW hi];rfl
  obtain⟨v,e,_,_⟩:=C.at ⟨hm.1,hm.2.1⟩;have s1:Stp 1 x M { x with e:=⟨p,r,true,((i+1:Nat):Int),n⟩ } (bump M 1):=by
   refine .step ?_ (UO C ⟨hm.1,hm.2.1⟩) ?_
   ·rw[VA h5,he];unfold Jn;dsimp only;rw[iQ (λh=>h hp),iQ od,hat]
   ·rw[Kg h5 rfl,he];have ex:yq ⟨p,r,true,i,n⟩ ⟨0,zx M.l r[i].1,false,0⟩=⟨p,r,true,((i+1:Nat):Int),n⟩:=by
     unfold yq;have:(jK p ⟨0,zx M.l r[i].1,false,0⟩)=(decide (p.fin≠0),p):=by unfold jK;rw[iQ (λh=>h.2 rfl)]
     dsimp only;rw[this,e];dsimp only;rw[iQ (by rw[hp];decide),iQ od,iQ od,iQ (by rw[hat,hm.2.2,e];exact λh=>h rfl)];unfold J4;dsimp only;rw[iQ omQ];rfl
    rw[ex];exact Nt h5 hc hp
  obtain⟨E,t⟩:=ih (x:={ x with e:=⟨p,r,true,((i+1:Nat):Int),n⟩ }) (i:=i+1) (p:=p) (C.bump 1) ⟨R.at_,R.un⟩ h5 hc rfl hp omQ;have:=s1.trans t;rw[wP,show(1:Int)+((k+1:Nat):Int)=((k+1+1:Nat):Int) by omega,show 1+(k+1)=k+1+1 by omega]at this;exact⟨E,this⟩
theorem qWC (C:xv S M me) {y:jG} (hc:y.c=none) (R:kO S M y.r) (hs:y.set.spins=y.set.spins):∃(m:Nat) (E:Q5),m≤y.r.length+1∧Stp m (y7 y 5) M (xd { y with e:=E,stamp:=M.n } 3 0 (-1)) (bump M m):=by
 have hn1:xA (y7 y 5)=some (op0 6 0 0):=by rw[VA rfl];rfl
 by_cases h0:y.r.length=0
 ·refine⟨1,{ Vu y.me y.set.spins y.r with loaded:=true,stamp:=M.n,p:=zy (JQ y.me y.set.spins) 2 0 (-1) },by omega,.step hn1 (qQH M) ?_⟩;rw[Kg rfl rfl];have ex:yq (y7 y 5).e ⟨M.n,lk0,false,0⟩={ Vu y.me y.set.spins y.r with loaded:=true,stamp:=M.n,p:=zy (JQ y.me y.set.spins) 2 0 (-1) }:=by
   show J4 _=_;unfold J4;rw[iJ (by show(0:Int)=(y.r.length:Int);omega)];rfl
  rw[ex];exact NC rfl hc rfl
 ·have s1:Stp 1 (y7 y 5) M { y7 y 5 with e:=⟨JQ y.me y.set.spins,y.r,true,((0:Nat):Int),M.n⟩ } (bump M 1):=by
   refine .step hn1 (qQH M) ?_;rw[Kg rfl rfl];have ex:yq (y7 y 5).e ⟨M.n,lk0,false,0⟩=⟨JQ y.me y.set.spins,y.r,true,((0:Nat):Int),M.n⟩:=by show J4 _=_;unfold J4;rw[iQ (by show¬(0:Int)=(y.r.length:Int);omega)];rfl
   rw[ex];exact Nt rfl hc rfl
  obtain⟨E,t⟩:=qz3 (y.r.length-1) (x:={ y7 y 5 with e:=⟨JQ y.me y.set.spins,y.r,true,((0:Nat):Int),M.n⟩ }) (i:=0) (C.bump 1) ⟨R.at_,R.un⟩ rfl hc rfl rfl omQ;have:=s1.trans t;rw[wP,show(1:Int)+((y.r.length-1+1:Nat):Int)=((1+(y.r.length-1+1):Nat):Int) by omega]at this;exact⟨_,E,by omega,this⟩
inductive XH:Nat→zE→jC→zE→jC→Prop
  |nil {c:zE} {M:jC}:XH 0 c M c M
  |cons {k:Nat} {c d:zE} {M N:jC} {o:OpM} {a:AnM} {M1:jC} {c1:zE} (hn:yK c=some o) (e:jw M o=(a,M1)) (h0:a.err=0) (h1:zH c a=c1) (h2:c1.p.fin=0) (r:XH k c1 M1 d N):XH (k+1) c M d N
theorem XH.trans {a b:Nat} {x y z:zE} {M N O:jC} (s:XH a x M y N) (t:XH b y N z O):XH (a+b) x M z O:=by
 induction s with
 |nil=>rw[Nat.zero_add];exact t
 |cons hn e h0 h1 h2 _ ih=>rw[Nat.add_right_comm];exact .cons hn e h0 h1 h2 (ih t)
theorem qJb {x:jG} {c:zE} (h6:x.state=6) (hc:x.c=some c):xA x=yK c:=by unfold xA;rw[iQ omQ,iQ omQ,iQ omQ,iQ omQ,iQ omQ,iQ omQ,iJ h6,hc];rfl
theorem qQP {x:jG} {a:AnM} {c:zE} (h6:x.state=6) (ha:a.err=0) (hc:x.c=some c):jU x a=xu { x with c:=some (zH c a) }:=by unfold jU;rw[iQ omQ,iQ (by rw[ha];exact λh=>h rfl),iQ omQ,iQ omQ,iQ omQ,iQ omQ,iQ omQ,iJ h6,hc];rfl
theorem qqS {k:Nat} {c d:zE} {N:jC} (s:XH k c M d N):∀{x:jG},x.state=6→x.c=some c→∃z,Stp k x M { x with c:=some d,stamp:=z } N:=by
 induction s with
 |nil=>intro x h6 hc;refine⟨x.stamp,?_⟩;have:x={ x with c:=x.c,stamp:=x.stamp }:=rfl;rw[← hc];exact .nil
 | @cons k c d M N o a M1 c1 hn e h0 h1 h2 _ ih=>
  intro x h6 hc;have ht:∃z,jU x a={ x with c:=some c1,stamp:=z }:=by
   rw[qQP h6 h0 hc,h1];unfold xu;have hf:(xI { x with c:=some c1 }).1=0:=by unfold xI;rw[iQ (by show¬x.state=3;omega),iJ (by exact h6)];exact h2
   rw[iJ hf];unfold xz
   split
   ·exact⟨wy c1,rfl⟩
   ·exact⟨x.stamp,rfl⟩
  obtain⟨z,hz⟩:=ht;obtain⟨z',hz'⟩:=ih (x:={ x with c:=some c1,stamp:=z }) h6 rfl;refine⟨z',.cons (by rw[qJb h6 hc];exact hn) ?_⟩;rw[e];rw[hz];exact hz'
theorem qxb {x:jG} {c c1:zE} {o:OpM} {a:AnM} {N:jC} (h6:x.state=6) (hc:x.c=some c) (hn:yK c=some o) (e:jw M o=(a,N)) (h0:a.err=0) (h1:zH c a=c1) (h2:c1.p.fin=2) (he:c1.p.err=0):Stp 1 x M { xd { x with c:=some c1 } 2 0 (-1)with stamp:=wy c1 } N:=by
 refine .step (by rw[qJb h6 hc];exact hn) e ?_;rw[qQP h6 h0 hc,h1];unfold xu;have hf:(xI { x with c:=some c1 }).1=2:=by unfold xI;rw[iQ (by show¬x.state=3;omega),iJ (by exact h6)];exact h2
 rw[hf,iQ od,iQ od];unfold yA;rw[iQ (by show¬x.state=3;omega),iQ (by show¬x.state=4;omega),iQ (by show¬x.state=5;omega)];dsimp only;rw[h2,he];unfold xz;rw[iJ (by show(decide ((7:Int)≠8)&&(wo c1||decide (c1.p.fin=2)))=true;rw[h2];simp)];rfl
end
end
section
theorem qY0 {l:List LkM} {a b:Int} {x:LkM} (ha:0≤a) (hb:0≤b) (hl:a<l.length):zx (l.set a.toNat x) b=if a=b then x else zx l b:=by
 unfold zx;rw[List.getElem?_set];by_cases h:a=b
 ·rw[iJ (by rw[h]),iJ omQ,iJ h];rfl
 ·rw[iQ omQ,iQ h]
def yD (me:Int) (l:List LkM) (ss:List Int):List LkM:=ss.foldl (λl s=>l.set s.toNat ((zx l s).1,true,me)) l
def wD (n:Int) (l:List LkM) (ss:List Int):List LkM:=ss.foldl (λl s=>l.set s.toNat (n,false,0)) l
def Ju (w:List Int) (cs:List Cl):List Int:=cs.foldl (λw c=>w.set c.1.toNat c.2) w
theorem QZ {me:Int}:∀{ss:List Int} {l:List LkM},(yD me l ss).length=l.length:=by
 intro ss
 induction ss with
 |nil=>intro l;rfl
 |cons s r ih=>intro l;exact ih.trans (List.length_set ..)
theorem Kl {n:Int}:∀{ss:List Int} {l:List LkM},(wD n l ss).length=l.length:=by
 intro ss
 induction ss with
 |nil=>intro l;rfl
 |cons s r ih=>intro l;exact ih.trans (List.length_set ..)
theorem qQO:∀{cs:List Cl} {w:List Int},(Ju w cs).length=w.length:=by
 intro cs
 induction cs with
 |nil=>intro l;rfl
 |cons s r ih=>intro l;exact ih.trans (List.length_set ..)
theorem Z9 {me:Int} {b:Int} (hb:0≤b):∀{ss:List Int} {l:List LkM},(∀s∈ss,0≤s∧s<l.length)→b∉ss→zx (yD me l ss) b=zx l b:=by
 intro ss
 induction ss with
 |nil=>intro l _ _;rfl
 |cons s r ih=>intro l h hn;have hs:=h s (iK ..);show zx (yD me (l.set s.toNat ((zx l s).1,true,me)) r) b=_;rw[ih (λt ht=>by rw[List.length_set];exact h t (iX _ ht)) (λht=>hn (iX _ ht)),qY0 hs.1 hb hs.2,iQ (λe=>hn (by rw[e];exact iK ..))]
theorem qv4 {n:Int} {b:Int} (hb:0≤b):∀{ss:List Int} {l:List LkM},(∀s∈ss,0≤s∧s<l.length)→zx (wD n l ss) b=if b∈ss then(n,false,0)else zx l b:=by
 intro ss
 induction ss with
 |nil=>intro l _;rfl
 |cons s r ih=>
  intro l h;have hs:=h s (iK ..);show zx (wD n (l.set s.toNat (n,false,0)) r) b=_;rw[ih (λt ht=>by rw[List.length_set];exact h t (iX _ ht)),qY0 hs.1 hb hs.2];by_cases h1:b∈r
  ·rw[iJ h1,iJ (iX _ h1)]
  ·rw[iQ h1];by_cases h2:s=b
   ·rw[iJ h2,iJ (by rw[h2];exact iK ..)]
   ·rw[iQ h2,iQ (λh=>by rcases List.mem_cons.1 h with h |h;exact h2 h.symm;exact h1 h)]
theorem qV9 {me:Int} {l:List LkM} {a:List Int} {s:Int}:yD me l (a++[s])=(yD me l a).set s.toNat ((zx (yD me l a) s).1,true,me):=by unfold yD;rw[List.foldl_append];rfl
theorem qYn {n:Int} {l:List LkM} {a:List Int} {s:Int}:wD n l (a++[s])=(wD n l a).set s.toNat (n,false,0):=by unfold wD;rw[List.foldl_append];rfl
theorem qjC {w:List Int} {a:List Cl} {c:Cl}:Ju w (a++[c])=(Ju w a).set c.1.toNat c.2:=by unfold Ju;rw[List.foldl_append];rfl
section
variable {S:zv} {M:jC} {me:Int}
theorem qji {p:Jf} {a:AnM} (hp:p.fin=0) (ha:a.err=0):jK p a=(false,p):=by
 unfold jK;rw[iQ (λh=>h.2 ha)]
 congr 1
 exact iV (λh=>h hp)
theorem kJ {c:zE} {a:AnM} (hp:c.p.fin=0) (ha:a.err=0):zH c a=if c.state=0∨c.state=1 then ku c a
 else if c.state=2∨c.state=3 then wQ c a
 else if c.state=4 then wU c a.lk
 else if c.state=5 then vv { c with at_:=c.at_+1 }
 else if c.state=6 then vL { c with at_:=c.at_+1 }
 else gU { c with at_:=c.at_+1 }:=by
 unfold zH;rw[qji hp ha];rfl
theorem qyB {M N:jC} {o:OpM} {a:AnM} (hk:o.kind=1∨o.kind=2) (e:XI M o=(a,N)) (h0:a.err=0):jw M o=(a,{ N with cnt:=N.cnt+1 }):=by
 have e':vK M o=(a,N):=by unfold vK;rw[iJ hk,e]
 rw[kY,e'];exact iJ h0
theorem ZP {M N:jC} {o:OpM} {a:AnM} (hk:o.kind=3∨o.kind=4∨o.kind=5) (e:Qb M o=(a,N)) (h0:a.err=0):jw M o=(a,{ N with cnt:=N.cnt+1 }):=by
 have e':vK M o=(a,N):=by unfold vK;rw[iQ omQ,iJ hk,e]
 rw[kY,e'];exact iJ h0
theorem qwT {M N:jC} {o:OpM} {a:AnM} (hk:o.kind=6∨o.kind=7) (e:XV M o=(a,N)) (h0:a.err=0):jw M o=(a,{ N with cnt:=N.cnt+1 }):=by
 have e':vK M o=(a,N):=by unfold vK;rw[iQ omQ,iQ omQ,iJ hk,e]
 rw[kY,e'];exact iJ h0
theorem YG {α:Type} {l:List α} {i:Nat} (h:i<l.length):l.take (i+1)=l.take i++[l[i]]:=by rw[List.take_add_one,iW h];rfl
theorem qGB (C:xv S M me) (h4:S.threads≤4) {c:zE} (hme:c.me=me) (hp:c.p.fin=0) (hss:∀s∈c.s,0≤s∧s<S.stripes) (hr:c.s.Pairwise (· < ·)):∀(k:Nat) {i:Nat} {L:LkM} {z:Int},c.s.length=i+k→0<k→
  ∃L',XH (2*k) { c with was:=(c.s.take i).map (zx M.l),lk:=L,state:=0 } { M with l:=yD me M.l (c.s.take i),cnt:=z } { c with was:=c.s.map (zx M.l),lk:=L',state:=2 } { M with l:=yD me M.l c.s,cnt:=z+(2*k:Nat) }:=by
 intro k
 induction k with
 |zero=>intro _ _ _ _ h;omega
 |succ k ih=>
  intro i L z hl _;have hi:i<c.s.length:=by omega
  have hmem:=List.getElem_mem hi;have hsi:=hss _ hmem;have hlen:=C.l;have hwl:((c.s.take i).map (zx M.l)).length=i:=by simp;omega
  have hnum:qM c.s (i:Int)=c.s[i]:=by unfold qM;rw[Int.toNat_natCast,iW hi];rfl
  have hnot:c.s[i]∉c.s.take i:=λh=>by
   obtain⟨j,hj⟩:=List.getElem?_of_mem h;have hjl:=(List.getElem?_eq_some_iff.1 hj).1;simp at hjl;rw[List.getElem?_take_of_lt omQ,iW omQ]at hj;have:=List.pairwise_iff_getElem.1 hr j i omQ hi omQ;have:=Option.some.inj hj;omega
  obtain⟨v,ev,v0,v1⟩:=C.at hsi;have hho:=Z9 (me:=me) (b:=c.s[i]) hsi.1 (ss:=c.s.take i) (l:=M.l) (λs hs=>by have:=hss s (List.mem_of_mem_take hs);omega) hnot;have hn:=C.n;have hm:=C.me;have d1:jw { M with l:=yD me M.l (c.s.take i),cnt:=z } (op0 3 c.s[i] 0)=(⟨0,(v,false,0),false,0⟩,{ M with l:=yD me M.l (c.s.take i),cnt:=z+1 }):=by
   have e:Qb { M with l:=yD me M.l (c.s.take i),cnt:=z } (op0 3 c.s[i] 0)=(⟨0,(v,false,0),false,0⟩,{ M with l:=yD me M.l (c.s.take i),cnt:=z }):=by unfold Qb;rw[iQ (by show¬(c.s[i]<0∨((yD me M.l (c.s.take i)).length:Int)≤c.s[i]);rw[QZ];omega),iJ (by rfl)];show((⟨0,zx (yD me M.l (c.s.take i)) c.s[i],false,0⟩:AnM),_)=_;rw[hho,ev]
   exact ZP (.inl rfl) e rfl
  have t1:zH { c with was:=(c.s.take i).map (zx M.l),lk:=L,state:=0 } ⟨0,(v,false,0),false,0⟩={ c with was:=(c.s.take i).map (zx M.l),lk:=(v,false,0),state:=1 }:=by rw[kJ (by exact hp) rfl,iJ (.inl rfl)];unfold ku;rw[iQ (λh=>by cases h.2),iJ (by rfl)]
  have d2:jw { M with l:=yD me M.l (c.s.take i),cnt:=z+1 } ⟨4,c.s[i],0,0,(v,false,0),(v,true,me)⟩=(⟨0,lk0,true,0⟩,{ M with l:=yD me M.l (c.s.take (i+1)),cnt:=z+2 }):=by
   have e:Qb { M with l:=yD me M.l (c.s.take i),cnt:=z+1 } ⟨4,c.s[i],0,0,(v,false,0),(v,true,me)⟩=(⟨0,lk0,true,0⟩,{ M with l:=yD me M.l (c.s.take (i+1)),cnt:=z+1 }):=by
    unfold Qb
    rw[iQ (by show¬(c.s[i]<0∨((yD me M.l (c.s.take i)).length:Int)≤c.s[i]);rw[QZ];omega),iQ (by show¬(4:Int)=3;decide),iQ (by
     show¬¬KK (v,true,me)
     exact λh=>h (ON.2 ⟨by omega,by omega,by omega⟩)),iQ (by show¬(4:Int)=5;decide),iQ (by show¬zx (yD me M.l (c.s.take i)) c.s[i]≠(v,false,0);rw[hho,ev];exact λh=>h rfl)]
    rw[YG hi,qV9,hho,ev]
   have:=ZP (.inr (.inl rfl)) e rfl;rw[this];show(_,({ M with l:=yD me M.l (c.s.take (i+1)),cnt:=z+1+1 }:jC))=_;rw[Int.add_assoc];rfl
  have was1:(c.s.take i).map (zx M.l)++[(v,false,0)]=(c.s.take (i+1)).map (zx M.l):=by rw[YG hi,List.map_append,List.map_singleton,ev]
  have wl1:((c.s.take (i+1)).map (zx M.l)).length=i+1:=by simp;omega
  have t2:zH { c with was:=(c.s.take i).map (zx M.l),lk:=(v,false,0),state:=1 } ⟨0,lk0,true,0⟩={ c with was:=(c.s.take (i+1)).map (zx M.l),lk:=(v,false,0),state:=if i+1=c.s.length then 2 else 0 }:=by rw[kJ (by exact hp) rfl,iJ (.inr rfl)];unfold ku;rw[iQ (λh=>by cases h.1),iQ (by show¬(1:Int)=0;decide),iJ (by rfl)];unfold Qi;rw[was1,wl1]
  have n1:yK { c with was:=(c.s.take i).map (zx M.l),lk:=L,state:=0 }=some (op0 3 c.s[i] 0):=by unfold yK;rw[iQ (λh=>h hp),iJ (by rfl)];rw[hwl,hnum]
  have n2:yK { c with was:=(c.s.take i).map (zx M.l),lk:=(v,false,0),state:=1 }=some ⟨4,c.s[i],0,0,(v,false,0),(v,true,me)⟩:=by unfold yK;rw[iQ (λh=>h hp),iQ (by show¬(1:Int)=0;decide),iJ (by rfl)];rw[hwl,hnum,hme]
  have two:∀{k':Nat} {d:zE} {N:jC},XH k' { c with was:=(c.s.take (i+1)).map (zx M.l),lk:=(v,false,0),state:=if i+1=c.s.length then 2 else 0 } { M with l:=yD me M.l (c.s.take (i+1)),cnt:=z+2 } d N→
    XH (k'+1+1) { c with was:=(c.s.take i).map (zx M.l),lk:=L,state:=0 } { M with l:=yD me M.l (c.s.take i),cnt:=z } d N:=λr=>.cons n1 d1 rfl t1 hp (.cons n2 d2 rfl t2 hp r)
  by_cases hk:k=0
  ·subst hk;refine⟨(v,false,0),two ?_⟩;rw[iJ omQ,List.take_of_length_le omQ];exact .nil
  ·rw[iQ omQ]at two;obtain⟨L',r⟩:=ih (i:=i+1) omQ omQ;refine⟨L',?_⟩;have:=two r;rw[show 2*(k+1)=2*k+1+1 by omega,show z+((2*k+1+1:Nat):Int)=z+2+((2*k:Nat):Int) by omega];exact this
theorem qYr {c:zE} (hp:c.p.fin=0) (h0:c.s≠[]) (hcs:∀q∈c.cells,1≤q.1∧q.1<M.w.length):∀(k:Nat) {i:Nat} {z:Int},c.cells.length=i+k→0<k→
  XH k { c with state:=5,at_:=(i:Int) } { M with w:=Ju M.w (c.cells.take i),cnt:=z } { c with state:=6,at_:=0 } { M with w:=Ju M.w c.cells,cnt:=z+(k:Nat) }:=by
 intro k
 induction k with
 |zero=>intro _ _ _ h;omega
 |succ k ih=>
  intro i z hl _;have hi:i<c.cells.length:=by omega
  have hci:=hcs _ (List.getElem_mem hi);have hcell:kP c.cells (i:Int)=c.cells[i]:=by unfold kP;rw[Int.toNat_natCast,iW hi];rfl
  have n1:yK { c with state:=5,at_:=(i:Int) }=some (op0 2 c.cells[i].1 c.cells[i].2):=by unfold yK;rw[iQ (λh=>h hp),iQ (by show¬(5:Int)=0;decide),iQ (by show¬(5:Int)=1;decide),iQ (by show¬(5:Int)=2;decide),iQ (by show¬(5:Int)=3;decide),iQ (by show¬(5:Int)=4;decide),iJ (by rfl)];rw[hcell]
  have d1:jw { M with w:=Ju M.w (c.cells.take i),cnt:=z } (op0 2 c.cells[i].1 c.cells[i].2)=(an0,{ M with w:=Ju M.w (c.cells.take (i+1)),cnt:=z+1 }):=by
   have e:XI { M with w:=Ju M.w (c.cells.take i),cnt:=z } (op0 2 c.cells[i].1 c.cells[i].2)=(an0,{ M with w:=Ju M.w (c.cells.take (i+1)),cnt:=z }):=by unfold XI;rw[iQ (by show¬(c.cells[i].1<1∨((Ju M.w (c.cells.take i)).length:Int)≤c.cells[i].1);rw[qQO];omega),iQ (by show¬(2:Int)=1;decide),YG hi,qjC];rfl
   exact qyB (.inr rfl) e rfl
  have t1:zH { c with state:=5,at_:=(i:Int) } an0=if i+1=c.cells.length then{ c with state:=6,at_:=0 }else{ c with state:=5,at_:=((i+1:Nat):Int) }:=by
   rw[kJ (by exact hp) rfl,iQ (by show¬((5:Int)=0∨(5:Int)=1);decide),iQ (by show¬((5:Int)=2∨(5:Int)=3);decide),iQ (by show¬(5:Int)=4;decide),iJ (by rfl)];unfold vv;dsimp only;by_cases h:i+1=c.cells.length
   ·rw[iJ omQ,iJ h];unfold vL;dsimp only;have:0<c.s.length:=List.length_pos_iff.2 h0;rw[iQ omQ]
   ·rw[iQ omQ,iQ h];rfl
  by_cases hk:k=0
  ·subst hk;rw[iJ omQ]at t1;rw[show c.cells.take (i+1)=c.cells from List.take_of_length_le omQ]at d1;exact .cons n1 d1 rfl t1 hp .nil
  ·rw[iQ omQ]at t1;have r:=ih (i:=i+1) (z:=z+1) omQ omQ;rw[show z+((k+1:Nat):Int)=z+1+((k:Nat):Int) by omega];exact .cons n1 d1 rfl t1 hp r
theorem qWU {c:zE} (hp:c.p.fin=0) (hnow:0≤c.now∧c.now<4611686018427387903) (hss:∀s∈c.s,0≤s∧s<M.l.length):∀(k:Nat) {i:Nat} {z:Int},c.s.length=i+k+1→
  XH k { c with state:=6,at_:=(i:Int) } { M with l:=wD (c.now+1) M.l (c.s.take i),cnt:=z } { c with state:=6,at_:=(c.s.length-1:Nat) } { M with l:=wD (c.now+1) M.l (c.s.take (c.s.length-1)),cnt:=z+(k:Nat) }∧
  (yK { c with state:=6,at_:=(c.s.length-1:Nat) }=some ⟨5,qM c.s (c.s.length-1:Nat),0,0,lk0,(c.now+1,false,0)⟩∧
   jw { M with l:=wD (c.now+1) M.l (c.s.take (c.s.length-1)),cnt:=z+(k:Nat) } ⟨5,qM c.s (c.s.length-1:Nat),0,0,lk0,(c.now+1,false,0)⟩=(an0,{ M with l:=wD (c.now+1) M.l c.s,cnt:=z+(k+1:Nat) })∧
   zH { c with state:=6,at_:=(c.s.length-1:Nat) } an0={ c with state:=6,at_:=(c.s.length:Nat),p:=zy c.p 2 0 (-1) }):=by
 have step:∀{i:Nat} {z:Int},i<c.s.length→yK { c with state:=6,at_:=(i:Int) }=some ⟨5,qM c.s i,0,0,lk0,(c.now+1,false,0)⟩∧
   jw { M with l:=wD (c.now+1) M.l (c.s.take i),cnt:=z } ⟨5,qM c.s i,0,0,lk0,(c.now+1,false,0)⟩=(an0,{ M with l:=wD (c.now+1) M.l (c.s.take (i+1)),cnt:=z+1 })∧
   zH { c with state:=6,at_:=(i:Int) } an0=vL { c with state:=6,at_:=(i:Int)+1 }:=by
  intro i z hi;have hsi:=hss _ (List.getElem_mem hi);have hnum:qM c.s (i:Int)=c.s[i]:=by unfold qM;rw[Int.toNat_natCast,iW hi];rfl
  refine⟨?_,?_,?_⟩
  ·unfold yK;rw[iQ (λh=>h hp),iQ (by show¬(6:Int)=0;decide),iQ (by show¬(6:Int)=1;decide),iQ (by show¬(6:Int)=2;decide),iQ (by show¬(6:Int)=3;decide),iQ (by show¬(6:Int)=4;decide),iQ (by show¬(6:Int)=5;decide),iJ (by rfl)]
  ·rw[hnum];have e:Qb { M with l:=wD (c.now+1) M.l (c.s.take i),cnt:=z } ⟨5,c.s[i],0,0,lk0,(c.now+1,false,0)⟩=(an0,{ M with l:=wD (c.now+1) M.l (c.s.take (i+1)),cnt:=z }):=by
    unfold Qb
    rw[iQ (by show¬(c.s[i]<0∨((wD (c.now+1) M.l (c.s.take i)).length:Int)≤c.s[i]);rw[Kl];omega),iQ (by show¬(5:Int)=3;decide),iQ (by
     show¬¬KK (c.now+1,false,0)
     exact λh=>h (Zw.2 ⟨by omega,rfl⟩)),iJ (by rfl)]
    rw[YG hi,qYn]
   exact ZP (.inr (.inr rfl)) e rfl
  ·rw[kJ (by exact hp) rfl,iQ (by show¬((6:Int)=0∨(6:Int)=1);decide),iQ (by show¬((6:Int)=2∨(6:Int)=3);decide),iQ (by show¬(6:Int)=4;decide),iQ (by show¬(6:Int)=5;decide),iJ (by rfl)]
 intro k
 induction k with
 |zero=>
  intro i z hl;obtain rfl:i=c.s.length-1:=by omega
  obtain⟨a,b,d⟩:=step (i:=c.s.length-1) (z:=z) omQ;rw[show z+((0:Nat):Int)=z by simp,show z+((0+1:Nat):Int)=z+1 by simp];refine⟨.nil,a,?_,?_⟩
  ·rw[b,show c.s.length-1+1=c.s.length by omega,List.take_length]
  ·rw[d];unfold vL;dsimp only;rw[iJ omQ,show((c.s.length-1:Nat):Int)+1=((c.s.length:Nat):Int) by omega]
 |succ k ih=>
  intro i z hl;obtain⟨a,b,d⟩:=step (i:=i) (z:=z) omQ;obtain⟨r,q⟩:=ih (i:=i+1) (z:=z+1) omQ;have hd:zH { c with state:=6,at_:=(i:Int) } an0={ c with state:=6,at_:=((i+1:Nat):Int) }:=by rw[d];unfold vL;dsimp only;rw[iQ omQ];rfl
  rw[show z+((k+1:Nat):Int)=z+1+((k:Nat):Int) by omega,show z+((k+1+1:Nat):Int)=z+1+((k+1:Nat):Int) by omega];exact⟨.cons a b rfl hd hp r,q⟩
end
end
section
theorem qgi {cs:List Cl}:∀{w:List Int},(∀z∈w,0≤z∧z<18446744073709551616)→(∀c∈cs,0≤c.2∧c.2<18446744073709551616)→∀z∈Ju w cs,0≤z∧z<18446744073709551616:=by
 induction cs with
 |nil=>intro w h _;exact h
 |cons c r ih=>
  intro w h hc;refine ih (λz hz=>?_) λq hq=>hc q (iX _ hq);rcases List.mem_or_eq_of_mem_set hz with hz |rfl
  ·exact h z hz
  ·exact hc c (iK ..)
section
variable {S:zv} {M:jC} {me:Int}
theorem qWm (O:yX S) (C:xv S M me) (hn1:M.n+1<4611686018427387902) {r:List xP} {cs:List Cl} (hcs:cs≠[]) (hc:∀c∈cs,1≤c.1∧c.1<S.words) (hw:∀c∈cs,0≤c.2∧c.2<18446744073709551616) :
  ∃(k:Nat) (d c1:zE) (o:OpM) (N0 N:jC),k≤3*16+2+cs.length∧XH k (XL me S.spins M.n r cs S.stripes S.wide) M d N0∧yK d=some o∧jw N0 o=(an0,N)∧zH d an0=c1∧c1.p.fin=2∧c1.p.err=0∧wy c1=M.n+1∧
   N.w=Ju M.w cs∧N.n=M.n+1∧N.s=M.s∧N.cnt=M.cnt+(k+1:Nat)∧xv S N me:=by
 have hst:=O.stripes;have hmem:=λx=>Xn (n:=S.stripes) (w:=S.wide) (λc hx=>by have:=hc c hx;omega:∀c∈cs,0≤c.1) (x:=x);generalize hs:xS cs S.stripes S.wide=ss at*;have hrise:ss.Pairwise (· < ·):=by rw[← hs];exact Ja
 have hss:∀s∈ss,0≤s∧s<S.stripes:=λs h=>by
  obtain⟨c,hcm,rfl⟩:=List.mem_map.1 ((hmem s).1 h);exact qZc O (by have:=hc c hcm;omega)
 have hs0:ss≠[]:=by obtain⟨c,r',rfl⟩:=List.exists_cons_of_ne_nil hcs;exact List.ne_nil_of_mem ((hmem _).2 (List.mem_map.2 ⟨c,iK ..,rfl⟩))
 have hsl:0<ss.length:=List.length_pos_iff.2 hs0;have hs16:ss.length≤16:=by rw[← hs];unfold xS;exact Nat.le_trans (List.length_filter_le ..) osQ
 have hcl:0<cs.length:=List.length_pos_iff.2 hcs;have hlen:=C.l;have hnn:=C.n
 let B:zE:=⟨JQ me S.spins,me,M.n,r,cs,ss,[],0,0,lk0,0,false,0,0,0⟩
 have e0:XL me S.spins M.n r cs S.stripes S.wide={ B with was:=(B.s.take 0).map (zx M.l),lk:=lk0,state:=0 }:=by unfold XL Qi;rw[hs];rw[iQ (by show¬(0:Nat)=ss.length;omega)];rfl
 obtain⟨L',a1⟩:=qGB C (by have:=O.threads;omega) (c:=B) rfl rfl hss hrise ss.length (i:=0) (L:=lk0) (z:=M.cnt) (by show ss.length=0+ss.length;omega) hsl
 let M1:jC:={ M with l:=yD me M.l ss,cnt:=M.cnt+(2*ss.length:Nat) }
 let c1:zE:={ B with was:=ss.map (zx M.l),lk:=L',state:=2 }
 have a1':XH (2*ss.length) (XL me S.spins M.n r cs S.stripes S.wide) M c1 M1:=by rw[e0];exact a1
 let c2:zE:={ c1 with now:=M.n,state:=3 }
 have t2:zH c1 ⟨M.n,lk0,false,0⟩=c2:=by rw[kJ (by rfl) rfl,iQ (by show¬((2:Int)=0∨(2:Int)=1);decide),iJ (.inl rfl)];unfold wQ;rw[iQ (by show¬((2:Int)=2∧4611686018427387903≤M.n);omega),iJ (by rfl)]
 let M2:jC:={ M1 with cnt:=M.cnt+(2*ss.length:Nat)+1 }
 let M3:jC:={ M1 with n:=M.n+1,cnt:=M.cnt+(2*ss.length:Nat)+2 }
 have d3:jw M2 ⟨7,0,M.n,M.n+1,lk0,lk0⟩=(⟨0,lk0,true,0⟩,M3):=by
  have e:XV M2 ⟨7,0,M.n,M.n+1,lk0,lk0⟩=(⟨0,lk0,true,0⟩,{ M2 with n:=M.n+1 }):=by unfold XV;rw[iQ (by show¬(7:Int)=6;decide),iQ (by show¬M.n+1≤M.n;omega),iQ (by show¬4611686018427387904≤M.n+1;omega),iQ (by show¬M.n≠M.n;exact λh=>h rfl)]
  rw[qwT (.inr rfl) e rfl];show(_,({ M1 with n:=M.n+1,cnt:=M.cnt+((2*ss.length:Nat):Int)+1+1 }:jC))=_;rw[Int.add_assoc (M.cnt+((2*ss.length:Nat):Int))];rfl
 let c3:zE:={ c2 with writing:=true,state:=5,at_:=((0:Nat):Int) }
 have t3:zH c2 ⟨0,lk0,true,0⟩=c3:=by rw[kJ (by rfl) rfl,iQ (by show¬((3:Int)=0∨(3:Int)=1);decide),iJ (.inr rfl)];unfold wQ;rw[iQ (λh=>by cases h.1),iQ (by show¬(3:Int)=2;decide),iQ od,iJ (by rfl)];unfold kB vv;rw[iQ (by show¬(0:Int)=(cs.length:Int);omega)];rfl
 have a3:XH (2*ss.length+2) (XL me S.spins M.n r cs S.stripes S.wide) M c3 M3:=a1'.trans (.cons (o:=op0 6 0 0) rfl (by show _=(_,M2);rfl) rfl t2 rfl (.cons (o:=⟨7,0,M.n,M.n+1,lk0,lk0⟩) rfl d3 rfl t3 rfl .nil));have a4:=qYr (M:=M3) (c:=c3) rfl hs0 (λq hq=>by have:=hc q hq;have:=C.w;show 1≤q.1∧q.1<(M.w.length:Int);omega) cs.length (i:=0) (z:=M3.cnt) (by show cs.length=0+cs.length;omega) hcl;have a5:XH (2*ss.length+2+cs.length) (XL me S.spins M.n r cs S.stripes S.wide) M { c3 with state:=6,at_:=0 } { M3 with w:=Ju M.w cs,cnt:=M3.cnt+(cs.length:Nat) }:=a3.trans a4;obtain⟨g1,g2,g3,g4⟩:=qWU (M:={ M3 with w:=Ju M.w cs }) (c:={ c3 with state:=6,at_:=0 }) rfl (by show 0≤M.n∧M.n<_;omega) (λs h=>by have:=hss s h;show 0≤s∧s<((yD me M.l ss).length:Int);rw[QZ];omega) (ss.length-1) (i:=0) (z:=M3.cnt+(cs.length:Nat)) (by show ss.length=0+(ss.length-1)+1;omega);refine⟨2*ss.length+2+cs.length+(ss.length-1),_,_,_,_,_,by omega,a5.trans g1,g2,g3,g4,rfl,rfl,rfl,rfl,rfl,rfl,?_,?_⟩
 ·show M.cnt+((2*ss.length:Nat):Int)+2+((cs.length:Nat):Int)+((ss.length-1+1:Nat):Int)=_;omega
 ·refine⟨?_,?_,C.s,C.me,λi hi=>?_,by show 0≤M.n+1∧M.n+1<_;omega,qgi C.wd hw⟩
  ·show((Ju M.w cs).length:Int)=_;rw[qQO];exact C.w
  ·show((wD (M.n+1) (yD me M.l ss) ss).length:Int)=_;rw[Kl,QZ];exact C.l
  ·have hi:i<(wD (M.n+1) (yD me M.l ss) ss).length:=hi;rw[Kl,QZ]at hi;show∃v:Int,zx (wD (M.n+1) (yD me M.l ss) ss) i=(v,false,0)∧0≤v∧v≤M.n+1;rw[qv4 omQ (λs h=>by have:=hss s h;rw[QZ];omega)]
   split
   ·exact⟨M.n+1,rfl,by omega,by omega⟩
   ·rename_i h;rw[Z9 omQ (λs h=>by have:=hss s h;omega) h];obtain⟨v,e,h0,h1⟩:=C.lk i hi;exact⟨v,e,h0,by omega⟩
theorem UP (C:xv S M me) {y:jG} (h7:y.state=7) (hme:y.me=me):Stp 1 y M { y with state:=8 } { M with s:=M.s.set me.toNat 0,cnt:=M.cnt+1 }:=by
 refine .step ?_ (VV C) ?_
 ·unfold xA;rw[iQ omQ,iQ omQ,iQ omQ,iJ h7,hme]
 ·unfold jU;rw[iQ omQ,iQ (λh=>h rfl),iQ omQ,iQ omQ,iQ omQ,iJ h7]
theorem qKb {j:Jw} {V:VM} (hg:jI V) (hj:JobOk True V j):(jE j V).1.1=1∨(jE j V).1.1=2∨(jE j V).1.1=3∨(jE j V).1.1=4:=by
 cases j with
 |prog q=>obtain⟨F,Q,gb,h,hl⟩:=hj;obtain⟨G,h0,h1,h2⟩:=h trivial;exact(Yu F Q q.left G h2).2.2.2.2
 |sweep bs k=>
  unfold jE;dsimp only
  split
  ·exact .inl rfl
  ·split
   ·exact .inr (.inl rfl)
   ·exact .inr (.inr (.inr rfl))
theorem U3 {j:Jw} {V:VM} (h:InV V):InV (jE j V).2.2:=by
 cases j with
 |prog q=>exact InV.run _ h
 |sweep bs k=>exact InV.gives _ _ h
structure Na (S:zv) (M:jC) (me:Int) (R:(Int×Int)×Jw×VM) (y:jG) (N:jC):Prop where
  st:y.state=8
  me_:y.me=me
  set:y.set=S
  fin:y.fin=R.1.1
  err:y.err=if R.1.1=4 then R.1.2 else 0
  lv:y.v.lv=R.2.2.lv
  job:y.job=R.2.1
  by_:y.by_= -1
  calm:xv S N me
  s:N.s=M.s.set me.toNat 0
  w:N.w=if R.1.1=2 then Ju M.w (jZ R.2.2.lv)else M.w
  n:N.n=M.n+(if R.1.1=2∧jZ R.2.2.lv≠[]then 1 else 0)
  stamp:y.stamp=N.n
  begun:y.begun=true
  kind:R.1.1=2∨R.1.1=3∨R.1.1=4
theorem Qd (O:yX S) (C:xv S M me) (hn1:M.n+1<4611686018427387902) {j:Jw} (hj:JobOk True (w7 S.words S.writes) j) (hjW:JobOk True (jV M.w S.writes) j) :
  ∃(m:Nat) (y:jG) (N:jC),m≤3*(w7 S.words S.writes).sz+432∧Stp m (GK me S j) M y N∧Na S M me (jE j (jV M.w S.writes)) y N∧N.cnt=M.cnt+(m:Nat):=by
 have hm:=C.me;have hnn:=C.n;have hw:=O.words;have hlw:=C.w;have c1:xv S { M with s:=M.s.set me.toNat 1,cnt:=M.cnt+1 } me:=⟨C.w,C.l,by show((M.s.set me.toNat 1).length:Int)=_;rw[List.length_set];exact C.s,C.me,C.lk,C.n,C.wd⟩;have s1:Stp 1 (GK me S j) M { GK me S j with state:=1 } { M with s:=M.s.set me.toNat 1,cnt:=M.cnt+1 }:=.step rfl (VV C) rfl;have s2:Stp 1 { GK me S j with state:=1 } { M with s:=M.s.set me.toNat 1,cnt:=M.cnt+1 } { GK me S j with begun:=true,begin_:=M.n,stamp:=M.n,state:=2 } { M with s:=M.s.set me.toNat 1,cnt:=M.cnt+2 }:=by
  refine .step rfl (by
   show(_,({ M with s:=M.s.set me.toNat 1,cnt:=M.cnt+1+1 }:jC))=(_,_)
   rw[Int.add_assoc];rfl) rfl
 have c2:xv S { M with s:=M.s.set me.toNat 1,cnt:=M.cnt+2 } me:=⟨c1.w,c1.l,c1.s,c1.me,c1.lk,c1.n,c1.wd⟩
 let M3:jC:={ M with s:=M.s.set me.toNat (zN .u64 (M.n+1)),cnt:=M.cnt+3 }
 have c3:xv S M3 me:=⟨C.w,C.l,by show((M.s.set me.toNat (zN .u64 (M.n+1))).length:Int)=_;rw[List.length_set];exact C.s,C.me,C.lk,C.n,C.wd⟩
 let x2:jG:={ GK me S j with begun:=true,begin_:=M.n,stamp:=M.n,state:=2 }
 have s3:Stp 1 x2 { M with s:=M.s.set me.toNat 1,cnt:=M.cnt+2 } (yW x2) M3:=by refine .step (o:=op0 9 me (zN .u64 (M.n+1))) (a:=an0) rfl ?_ rfl;rw[VV c2];show(_,({ M with s:=(M.s.set me.toNat 1).set me.toNat (zN .u64 (M.n+1)),cnt:=M.cnt+2+1 }:jC))=(_,_);rw[List.set_set,Int.add_assoc];rfl
 have B2:kU x2:=by have h:=ZC (me:=me) O hj;exact⟨h.set,h.good,h.sz,h.fr,h.r,h.job.dead not_false,h.c⟩
 have hW:=gL (m:=S.writes) C.wd;have hsz:szZ (M.w.length:Int)=szZ S.words:=by rw[hlw]
 have P0:xQ (w7 S.words S.writes) (jV M.w S.writes):=⟨hsz.symm,rfl,rfl,λp x h=>by cases h⟩;obtain⟨m,y,m1,m2,m3,m4,m5,m6,m7,m8,m9,m10,m11,m12,m13,m14⟩:=qXO O (me:=me) ((w7 S.words S.writes).sz) (M:=M3) (x:=x2) (W:=jV M.w S.writes) c3 (by show(w7 S.words S.writes).sz≤0+1+_;omega) rfl rfl rfl rfl ⟨λy h=>(by cases h),List.nodup_nil⟩ B2 hj P0 hW rfl rfl hjW;have hszb:(w7 S.words S.writes).sz≤256:=(MV S.words).2;have k3:=qKb hW hjW
 have hinV:InV (jE j (jV M.w S.writes)).2.2:=U3 (λx hx c hc=>by
  rcases List.mem_cons.1 hx with rfl |hx
  ·cases hc
  ·cases hx)
 have hR:jE x2.job (jV M.w S.writes)=jE j (jV M.w S.writes):=rfl;rw[hR]at m2 m3 m4 m5;generalize jE j (jV M.w S.writes)=R at*;have head:=(s1.trans s2).trans s3;have base:=head.trans m2;clear s1 s2 s3 head m2;have cB:=c3.bump (m:Int);have hlvy:y.v.lv=R.2.2.lv:=m5.lv;have hs0:(M3.s.set me.toNat 0)=M.s.set me.toNat 0:=by show(M.s.set me.toNat (zN .u64 (M.n+1))).set me.toNat 0=_;rw[List.set_set]
 unfold gY at base;rw[iQ m3]at base;by_cases h3:R.1.1=3
 ·rw[iJ h3]at base;obtain⟨k,E,k1,t⟩:=qWC (C:=cB) (y:={ y with blocking:=true }) m8 ⟨m10.at_,m10.un⟩ rfl;rw[wP]at t;have cE:=c3.bump ((m:Int)+k);have l:=UP cE (y:=xd { y with blocking:=true,e:=E,stamp:=M.n } 3 0 (-1)) rfl m6;have hrl:=m10.len O;refine⟨_,_,_,?_,(base.trans t).trans l,⟨rfl,m6,m7,h3.symm,by rw[h3];rfl,hlvy,m4,rfl,⟨cE.w,cE.l,by show(((bump M3 _).s.set me.toNat 0).length:Int)=_;rw[List.length_set];exact cE.s,cE.me,cE.lk,cE.n,cE.wd⟩,hs0,?_,?_,?_,m12,.inr (.inl h3)⟩,?_⟩
  ·have:k≤y.r.length+1:=k1;omega
  ·rw[iQ omQ];rfl
  ·rw[iQ (λh=>by omega)];show M.n=M.n+0;omega
  ·rfl
  ·show M.cnt+3+((m:Int)+k)+1=_;omega
 ·rw[iQ h3]at base;by_cases h4:R.1.1=4
  ·rw[iJ h4]at base;have l:=UP cB (y:=xd y 4 R.1.2 (-1)) rfl m6;refine⟨_,_,_,by omega,base.trans l,⟨rfl,m6,m7,h4.symm,by rw[iJ h4];rfl,hlvy,m4,rfl,⟨cB.w,cB.l,by show(((bump M3 _).s.set me.toNat 0).length:Int)=_;rw[List.length_set];exact cB.s,cB.me,cB.lk,cB.n,cB.wd⟩,hs0,?_,?_,?_,m12,.inr (.inr h4)⟩,?_⟩
   ·rw[iQ omQ];rfl
   ·rw[iQ (λh=>by omega)];show M.n=M.n+0;omega
   ·exact m9
   ·show M.cnt+3+(m:Int)+1=_;omega
  ·rw[iQ h4]at base;have h2:R.1.1=2:=by omega
   rw[hlvy]at base;by_cases hcs:jZ R.2.2.lv=[]
   ·rw[iJ hcs]at base;have l:=UP cB (y:=xd y 2 0 (-1)) rfl m6;refine⟨_,_,_,by omega,base.trans l,⟨rfl,m6,m7,h2.symm,by rw[iQ h4];rfl,hlvy,m4,rfl,⟨cB.w,cB.l,by show(((bump M3 _).s.set me.toNat 0).length:Int)=_;rw[List.length_set];exact cB.s,cB.me,cB.lk,cB.n,cB.wd⟩,hs0,?_,?_,?_,m12,.inl h2⟩,?_⟩
    ·rw[iJ h2,hcs];rfl
    ·rw[iQ (λh=>h.2 hcs)];show M.n=M.n+0;omega
    ·exact m9
    ·show M.cnt+3+(m:Int)+1=_;omega
   ·rw[iQ hcs]at base;have hmo:=U9 m11.good.ok;rw[hlvy]at hmo;have hwdc:∀c∈jZ R.2.2.lv,0≤c.2∧c.2<18446744073709551616:=by rw[← hlvy];exact NK m11.good.wd.l
    have hin:∀c∈jZ R.2.2.lv,1≤c.1∧c.1<S.words:=λc hc=>by
     obtain⟨x,hx,h1⟩:=J2 hc;have:=hinV x hx c h1;have e1:=m5.sz;have e2:=m11.sz;rw[m7]at e2;omega
    obtain⟨k,d,e1,o,N0,N,k1,k2,k3',k4,k5,k6,k7,k8,k9,k10,k11,k12,k13⟩:=qWm O cB hn1 (r:=y.r) hcs hin hwdc;have e0:XL y.me y.set.spins y.stamp y.r (jZ R.2.2.lv) y.set.stripes y.set.wide=XL me S.spins M.n y.r (jZ R.2.2.lv) S.stripes S.wide:=by rw[m6,m7,m9]
    rw[e0]at base;obtain⟨z,tz⟩:=qqS k2 (x:={ y with state:=6,c:=some (XL me S.spins M.n y.r (jZ R.2.2.lv) S.stripes S.wide) }) rfl rfl;have tl:=qxb (x:={ y with state:=6,c:=some d,stamp:=z }) (c:=d) rfl rfl k3' k4 rfl k5 k6 k7;have l:=UP k13 (y:={ xd { y with state:=6,c:=some e1,stamp:=z } 2 0 (-1)with stamp:=wy e1 }) rfl m6;refine⟨_,_,_,?_,((base.trans tz).trans tl).trans l,⟨rfl,m6,m7,h2.symm,by rw[iQ h4];rfl,hlvy,m4,rfl,⟨k13.w,k13.l,by show((N.s.set me.toNat 0).length:Int)=_;rw[List.length_set];exact k13.s,k13.me,k13.lk,k13.n,k13.wd⟩,?_,?_,?_,?_,m12,.inl h2⟩,?_⟩
    ·omega
    ·show N.s.set me.toNat 0=_;rw[k11];exact hs0
    ·rw[iJ h2];exact k9
    ·rw[iJ ⟨h2,hcs⟩];exact k10
    ·show wy e1=N.n;rw[k8,k10]
    ·show N.cnt+1=_;rw[k12];show M.cnt+3+(m:Int)+((k+1:Nat):Int)+1=_;omega
end
end
namespace arenaPlays
variable {g h:AH} {L R:List SP}
def zA (a:Int×Int×Bool):List AV:=[.int .i64 a.1,.int .i64 a.2.1,.bool a.2.2]
theorem qKE {zs:List Int} {m:Int} (hz:∀z∈zs,0≤z∧z<18446744073709551616):jI (jV zs m):=by
 refine⟨OJ zs m,?_,?_⟩
 ·intro c hc;obtain⟨i,_,rfl⟩:=List.mem_map.1 hc;unfold xh;cases hzi:zs[i+1]? with
  |none=>simp
  |some z=>exact hz z (List.mem_of_getElem? hzi)
 ·intro x hx;simp[jV]at hx;subst hx;intro c hc;cases hc
end arenaPlays
section
variable {g h:AH} {L R:List SP}
def Vb (zs:List Int):List Int:=(List.range (szZ zs.length)).map λi=>if i=0 then 0 else xh zs i
def qWB (l:List Int) (c:Cl):List Int:=if 1≤c.1∧c.1<l.length then l.set c.1.toNat c.2 else l
def jF (zs:List Int) (cs:List Cl):List Int:=cs.foldl qWB (Vb zs)
theorem qj6 (l:List Int) (c:Cl):(qWB l c).length=l.length:=by unfold qWB;split<;>simp
theorem qvo {l:List Int} {c:Cl} (h:1≤c.1∧c.1<l.length):qWB l c=l.set c.1.toNat c.2:=iJ h
theorem qYL:∀(cs:List Cl) (l:List Int),(cs.foldl qWB l).length=l.length:=by
 intro cs
 induction cs with
 |nil=>intro l;rfl
 |cons c cs ih=>intro l;rw[List.foldl_cons,ih,qj6]
theorem qVt (zs:List Int):(Vb zs).length=szZ zs.length:=by simp[Vb]
theorem qZb (zs:List Int) (cs:List Cl):(jF zs cs).length=szZ zs.length:=by unfold jF;rw[qYL,qVt]
def qW3 (zs:List Int) (m:Int) (C:List Cl) (F:List Int):VM:={ jV zs m with lv:=[(C,F)] }
structure FullS (zs:List Int) (T c i:Nat):Prop where
  len:zs.length=T
  lo:32≤T
  hi:T≤256
  cls:1≤c∧c≤4
  nn:∀z∈zs,0≤z∧z<18446744073709551616
  head:xh zs c=0
  bump:xh zs 5=14+(i:Int)*(gZ c+1)
  hdr:∀j,j<i→∀p:Nat,(p:Int)=14+(j:Int)*(gZ c+1)→xh zs p=(c:Int)+8
end
namespace arenaFull
open Go Go.Ae arenaPlays
set_option maxRecDepth 100000
variable {g h:AH} {L R:List SP}
end arenaFull
section
theorem qJF {l:List qR} {mt:List Int}:∀(n:Nat) {s:IM} {V:VM},(jL l mt n s V).kind≠4→(jL l mt n s V).err=0:=by
 intro n
 induction n with
 |zero=>
  intro s V;rw[gc]
  split
  ·intro _;rfl
  ·intro h;exact absurd rfl h
 |succ n ih=>
  intro s V;rw[ww];generalize doM mt s V (qS l s.pc)=D
  split
  ·intro _;rfl
  ·split
   ·split
    ·intro _;rfl
    ·exact ih
   ·split
    ·intro _;rfl
    ·intro h;exact absurd rfl h
structure RawM (S:zv) (M:jC) (k:Int):Prop where
  w:(M.w.length:Int)=S.words
  wd:∀z∈M.w,U64 z
  w0:M.w[0]? =some 0
  l:M.l=List.replicate S.stripes.toNat lk0
  n:M.n=S.start
  s:M.s=List.replicate S.threads.toNat 0
  cnt:0≤M.cnt∧M.cnt≤k
theorem qVI {S:zv} (O:yX S):RawM S (wk S) 0:=by
 have h1:=O.words;refine⟨by show((List.replicate S.words.toNat (0:Int)).length:Int)=_;rw[List.length_replicate];omega,λz hz=>?_,?_,rfl,rfl,rfl,⟨Int.le_refl _,Int.le_refl _⟩⟩
 ·have:=List.eq_of_mem_replicate hz;subst this;exact⟨Int.le_refl _,by decide⟩
 ·show(List.replicate S.words.toNat (0:Int))[0]? =some 0;rw[List.getElem?_replicate,iJ omQ]
theorem Md {S:zv} {M:jC} {k at_ w:Int} (Q:RawM S M k) (ha:1≤at_) (hw:U64 w):RawM S (jw M (op0 2 at_ w)).2 (k+1):=by
 have hc:=Nc (M:=M) (o:=op0 2 at_ w);have hq:=Q.cnt;have e:(jw M (op0 2 at_ w)).2.w=(if at_<1∨(M.w.length:Int)≤at_ then M.w else M.w.set at_.toNat w)∧(jw M (op0 2 at_ w)).2.l=M.l∧(jw M (op0 2 at_ w)).2.n=M.n∧(jw M (op0 2 at_ w)).2.s=M.s:=by
  have eW:vK M (op0 2 at_ w)=if at_<1∨(M.w.length:Int)≤at_ then(anE 2,M)else(an0,{ M with w:=M.w.set at_.toNat w }):=by rfl
  rw[kY,eW];by_cases h:at_<1∨(M.w.length:Int)≤at_
  ·rw[iJ h,iJ h]
   split<;>exact⟨rfl,rfl,rfl,rfl⟩
  ·rw[iQ h,iQ h]
   split<;>exact⟨rfl,rfl,rfl,rfl⟩
 refine⟨?_,?_,?_,by rw[e.2.1];exact Q.l,by rw[e.2.2.1];exact Q.n,by rw[e.2.2.2];exact Q.s,by omega⟩
 ·rw[e.1]
  split
  ·exact Q.w
  ·rw[List.length_set];exact Q.w
 ·rw[e.1]
  split
  ·exact Q.wd
  ·exact ZE Q.wd hw
 ·rw[e.1]
  split
  ·exact Q.w0
  ·rw[List.getElem?_set_ne omQ];exact Q.w0
theorem qjo {S:zv} {M:jC} {k me:Int} (O:yX S) (Q:RawM S M k) (hs:S.start<4611686018427387902) (hm:0≤me∧me<S.threads):xv S M me:=by have h1:=O.stripes;have h3:=O.start;refine⟨Q.w,by rw[Q.l,List.length_replicate];omega,by rw[Q.s,List.length_replicate];omega,hm,λi hi=>?_,by rw[Q.n];omega,Q.wd⟩;rw[Q.l,List.length_replicate]at hi;refine⟨0,?_,Int.le_refl _,by rw[Q.n];omega⟩;unfold zx;rw[Q.l,Int.toNat_natCast,List.getElem?_replicate,iJ hi];rfl
theorem QS {w:List Int} {cs:List Cl} (h0:w[0]? =some 0) (h1:32≤w.length) (h2:w.length≤256) (hc:∀c∈cs,1≤c.1∧c.1<w.length):jF w cs=Ju w cs:=by
 have hb:Vb w=w:=by
  have hsz:szZ w.length=w.length:=by unfold szZ;omega
  apply List.ext_getElem?;intro i;unfold Vb;rw[hsz,List.getElem?_map];by_cases hi:i<w.length
  ·rw[List.getElem?_range hi];show some (if i=0 then 0 else xh w i)=_
   split
   ·rename_i h;subst h;exact h0.symm
   ·unfold xh;rw[iW hi];rfl
  ·rw[List.getElem?_eq_none (by simp;omega),List.getElem?_eq_none omQ];rfl
 unfold jF Ju;rw[hb];have:∀(cs:List Cl) (v:List Int),v.length=w.length→(∀c∈cs,1≤c.1∧c.1<w.length)→cs.foldl qWB v=cs.foldl (λw c=>w.set c.1.toNat c.2) v:=by
  intro cs
  induction cs with
  |nil=>intro v _ _;rfl
  |cons c r ih=>intro v hv h;have hc:=h c (iK ..);rw[List.foldl_cons,List.foldl_cons,qvo omQ];exact ih _ (by rw[List.length_set];exact hv) λd hd=>h d (iX _ hd)
 exact this cs w rfl hc
end
section
def yd (n:Nat):Nat:=max 32 (min n 256)
def wg (zs:List Int):List Int:=(List.range (yd zs.length)).map λi=>if i=0 then 0 else zs[i]?.getD 0
def XB (l:List Int) (c:Int×Int):List Int:=if 1≤c.1∧c.1<l.length then l.set c.1.toNat c.2 else l
def KO (zs:List Int) (cs:List (Int×Int)):List Int:=cs.foldl XB (wg zs)
theorem qxP (l:List Int) (c:Int×Int):(XB l c).length=l.length:=by unfold XB;split<;>simp
theorem Nw (cs:List (Int×Int)):∀l:List Int,(cs.foldl XB l).length=l.length:=by
 induction cs with
 |nil=>intro l;rfl
 |cons c cs ih=>intro l;rw[List.foldl_cons,ih,qxP]
theorem OC (zs:List Int):(wg zs).length=yd zs.length:=by simp[wg]
theorem G1 (n:Nat):32≤yd n∧yd n≤256:=by unfold yd;omega
theorem qvu (zs:List Int):kA (List.replicate (yd zs.length) (AV.int .u64 0)) 1 (((zs.map (AV.int .u64)).drop (min 1 zs.length)).take (min (zs.length-min 1 zs.length) (yd zs.length-1)*1))=(wg zs).map (AV.int .u64):=by
 have hb:=G1 zs.length;have hl:(((zs.map (AV.int .u64)).drop (min 1 zs.length)).take (min (zs.length-min 1 zs.length) (yd zs.length-1)*1)).length=min (zs.length-min 1 zs.length) (yd zs.length-1):=by simp
 apply List.ext_getElem?;intro i;rw[Zb (by rw[hl,List.length_replicate];omega),hl];by_cases hi:i<yd zs.length
 ·have hr:((wg zs).map (AV.int .u64))[i]? =some (AV.int .u64 (if i=0 then 0 else zs[i]?.getD 0)):=by
   simp[wg,List.getElem?_range hi]
  rw[hr]
  split
  ·rename_i h1;rw[iQ omQ,List.getElem?_take_of_lt omQ,List.getElem?_drop,show min 1 zs.length+(i-1)=i by omega,List.getElem?_map,iW omQ];rfl
  ·rename_i h1;rw[List.getElem?_replicate,iJ hi]
   congr 2
   by_cases h0:i=0
   ·rw[iJ h0]
   ·rw[iQ h0,List.getElem?_eq_none omQ];rfl
 ·rw[iQ omQ,List.getElem?_eq_none (by simp;omega),List.getElem?_eq_none (by simp[wg];omega)]
theorem qXM {D1 D2:Nat→Prop} {n p q:Nat} (hn:1≤n) {a0 a1:AV} {zs:List Int} {cs:List (Int×Int)} {h:AH} (S0:Sl D1 h 1 p a0 (zs.map (.int .u64))) 
  (hcut:∀(h':AH) (K:AV→Go.Ae.R) (Q:AV→AH→Prop),Old h.nx h h'→(∀v',Sl (λ_=>True) h' 1 (p-min 1 p) v' ((zs.map (AV.int .u64)).drop (min 1 p*1))→wp (K v') Q)→wp (xY h' 22 1 a0 (some (.int .i64 ((min 1 p:Nat):Int))) none K) Q)
  (S1:Sl D2 h 2 q a1 (cs.flatMap jP)) (hp:p<1000000000) (hq:q<1000000000) :
  t_w n 48 [a0,a1] h λv h'=>∃b e,v=.slice b 0 (yd p) (yd p) false∧h.nx≤b∧Row h' b ((KO zs cs).map (.int .u64)) e false∧Old h.nx h h':=by
 have hzl:zs.length=p:=by simpa using S0.len
 have hcl:cs.length=q:=by have:=S1.len;rw[XG (sz:=2) jP (λ_=>rfl)]at this;omega
 have hN:=G1 p;refine t_e2 (S:=S48) rfl omQ λk hk=>?_;unfold S48;try simp only[iZ]
 refine zu S0 (ju (zD ?_));rw[show max ((32:Nat):Int) (min (p:Int) ((256:Nat):Int))=((yd p:Nat):Int) by unfold yd;omega];refine ZA (Nat.le_refl _) omQ λb h4 hb A F4=>?_;rw[VW]at A;refine Un (hi:=yd p) (lo:=1) rfl (xD omQ) ?_;rw[show Nat.beq (yd p) 1=false from xR omQ,cond_false];have S0':=S0.fr F4 (λ_ _ hf=>hf);have S1':=S1.fr F4 (λ_ _ hf=>hf);refine zu S0' (ju ?_);rw[show min ((1:Nat):Int) (p:Int)=((min 1 p:Nat):Int) by omega];refine hcut _ _ _ ((Old.refl h.nx h).step F4 (λ_ hf=>hf.elim)) λv8 S8=>?_;refine qwD S8 A (by simp;omega) omQ ?_ λh10 A10 F10 hx10=>?_
 ·unfold qp;rw[List.all_eq_true];intro v hv;have:=List.mem_of_mem_take hv;have:=List.mem_of_mem_drop this;obtain⟨z,_,rfl⟩:=List.mem_map.1 this;rfl
 have e10:=qvu zs;rw[hzl]at e10;rw[show((0:Nat)+1*1)=1 from rfl,Nat.mul_one]at A10;rw[Nat.mul_one]at e10;obtain⟨e,A10⟩:∃e,Row h10 b ((wg zs).map (.int .u64)) e false:=⟨_,by rw[← e10];simpa using A10⟩;have O10:Old h.nx h h10:=((Old.refl h.nx h).step F4 (λ_ hf=>hf.elim)).step F10 (by rintro x rfl;exact hb);have O4:Old h.nx h h4:=(Old.refl h.nx h).step F4 (λ_ hf=>hf.elim);refine zu (S1.old O10)<|jM (λm s g=>∃i:Nat,s=(.int .i64 (i:Int),.int .i64 (q:Int),a1,.slice b 0 (yd p) (yd p) false,())∧i≤q∧m=q-i∧Row g b (((cs.take i).foldl XB (wg zs)).map (.int .u64)) e false∧Old h.nx h g) ?_ (m:=q)
  omQ ⟨0,rfl,by omega,by omega,A10,O10⟩
 rintro m ih s g hih ⟨i,rfl,h1,rfl,A,O⟩;have S1g:=S1.old O;refine zL (λhlt=>qZ ?_) λhge=>qJ (qk (qj ?_))
 ·have hi:i<q:=by omega
  refine qV (zd (l:=jP cs[i]) S1g hi omQ ?_ ?_)
  ·rw[JZ (sz:=2) jP (λ_=>rfl),List.drop_eq_getElem_cons omQ,List.flatMap_cons];rfl
  refine qqo rfl λb2 h25 hb2 A2 F2=>?_;refine Kq A2 rfl (by show 0+2≤2;omega) rfl λh26 A3 F3 hx3=>?_;obtain⟨e3,A3⟩:∃e3,Row h26 b2 [.int .i64 cs[i].1,.int .u64 cs[i].2] e3 false:=⟨_,A3⟩;have O26:Old h.nx h h26:=(O.step F2 (λ_ hf=>hf.elim)).step F3 (by rintro x rfl;exact Nat.le_trans O.nx hb2);have hbg:=A.lt;have A26:=(A.fr F2 (λhf=>hf)).fr F3 (λhf:b=b2=>by omega);have hlen:((cs.take i).foldl XB (wg zs)).length=yd p:=by rw[Nw,OC,hzl]
  have next:∀g',Row g' b ((XB ((cs.take i).foldl XB (wg zs)) cs[i]).map (.int .u64)) e false→Old h.nx h g'→wp (ih (.int .i64 ((i:Int)+((1:Nat):Int)),.int .i64 (q:Int),a1,.slice b 0 (yd p) (yd p) false,()) g' []) λv h'=>∃b e,v=.slice b 0 (yd p) (yd p) false∧h.nx≤b∧Row h' b ((KO zs cs).map (.int .u64)) e false∧Old h.nx h h':=λg' A' O'=>hih (q-(i+1)) _ _ omQ ⟨i+1,rfl,by omega,rfl,by rw[List.take_succ_eq_append_getElem omQ,List.foldl_append];exact A',O'⟩
  refine Zv A3 rfl (yC (λhc1=>?_) λhc1=>?_)
  ·repeat (first |with_reducible refine qZ ?_ |with_reducible refine qJ ?_ |(with_reducible refine qa ?_;try dsimp only) |(with_reducible refine qs ?_;try dsimp only) |(with_reducible refine qT ?_;try dsimp only) |(with_reducible refine qe ?_;try dsimp only) |(with_reducible refine zK ?_;try dsimp only) |with_reducible refine qD ?_ |with_reducible refine qE ?_ |(with_reducible refine qV ?_;try dsimp only) |with_reducible refine qk ?_ |with_reducible refine jk ?_ |with_reducible refine jA ?_ |with_reducible refine qc omQ ?_ |with_reducible refine zJ omQ ?_ |with_reducible refine xr omQ ?_ |with_reducible refine yy omQ ?_ |with_reducible refine ju ?_ |with_reducible refine zD ?_)
   refine Zv A3 rfl (qvt (zL (λhc2=>?_) λhc2=>?_))
   ·repeat (first |with_reducible refine qZ ?_ |with_reducible refine qJ ?_ |(with_reducible refine qa ?_;try dsimp only) |(with_reducible refine qs ?_;try dsimp only) |(with_reducible refine qT ?_;try dsimp only) |(with_reducible refine qe ?_;try dsimp only) |(with_reducible refine zK ?_;try dsimp only) |with_reducible refine qD ?_ |with_reducible refine qE ?_ |(with_reducible refine qV ?_;try dsimp only) |with_reducible refine qk ?_ |with_reducible refine jk ?_ |with_reducible refine jA ?_ |with_reducible refine qc omQ ?_ |with_reducible refine zJ omQ ?_ |with_reducible refine xr omQ ?_ |with_reducible refine yy omQ ?_ |with_reducible refine ju ?_ |with_reducible refine zD ?_)
    refine Zv A3 rfl (Zv A3 rfl ?_);obtain⟨j,hj⟩:∃j:Nat,cs[i].1=(j:Int):=⟨cs[i].1.toNat,by omega⟩;rw[hj];refine qwO A26 rfl rfl omQ (by simp[hlen];omega) λh39 A39 F39 hx39=>?_
    repeat (first |with_reducible refine qZ ?_ |with_reducible refine qJ ?_ |(with_reducible refine qa ?_;try dsimp only) |(with_reducible refine qs ?_;try dsimp only) |(with_reducible refine qT ?_;try dsimp only) |(with_reducible refine qe ?_;try dsimp only) |(with_reducible refine zK ?_;try dsimp only) |with_reducible refine qD ?_ |with_reducible refine qE ?_ |(with_reducible refine qV ?_;try dsimp only) |with_reducible refine qk ?_ |with_reducible refine jk ?_ |with_reducible refine jA ?_ |with_reducible refine qc omQ ?_ |with_reducible refine zJ omQ ?_ |with_reducible refine xr omQ ?_ |with_reducible refine yy omQ ?_ |with_reducible refine ju ?_ |with_reducible refine zD ?_)
    refine next h39 ?_ (O26.step F39 (by rintro x rfl;exact hb));rw[show XB ((cs.take i).foldl XB (wg zs)) cs[i]=((cs.take i).foldl XB (wg zs)).set j cs[i].2 from(iJ (by rw[hlen];omega)).trans (by rw[show cs[i].1.toNat=j by omega]),List.map_set];simpa using A39
   ·repeat (first |with_reducible refine qZ ?_ |with_reducible refine qJ ?_ |(with_reducible refine qa ?_;try dsimp only) |(with_reducible refine qs ?_;try dsimp only) |(with_reducible refine qT ?_;try dsimp only) |(with_reducible refine qe ?_;try dsimp only) |(with_reducible refine zK ?_;try dsimp only) |with_reducible refine qD ?_ |with_reducible refine qE ?_ |(with_reducible refine qV ?_;try dsimp only) |with_reducible refine qk ?_ |with_reducible refine jk ?_ |with_reducible refine jA ?_ |with_reducible refine qc omQ ?_ |with_reducible refine zJ omQ ?_ |with_reducible refine xr omQ ?_ |with_reducible refine yy omQ ?_ |with_reducible refine ju ?_ |with_reducible refine zD ?_)
    refine next h26 ?_ O26;rw[show XB ((cs.take i).foldl XB (wg zs)) cs[i]=(cs.take i).foldl XB (wg zs)from iQ (by rw[hlen];omega)];exact A26
  ·repeat (first |with_reducible refine qZ ?_ |with_reducible refine qJ ?_ |(with_reducible refine qa ?_;try dsimp only) |(with_reducible refine qs ?_;try dsimp only) |(with_reducible refine qT ?_;try dsimp only) |(with_reducible refine qe ?_;try dsimp only) |(with_reducible refine zK ?_;try dsimp only) |with_reducible refine qD ?_ |with_reducible refine qE ?_ |(with_reducible refine qV ?_;try dsimp only) |with_reducible refine qk ?_ |with_reducible refine jk ?_ |with_reducible refine jA ?_ |with_reducible refine qc omQ ?_ |with_reducible refine zJ omQ ?_ |with_reducible refine xr omQ ?_ |with_reducible refine yy omQ ?_ |with_reducible refine ju ?_ |with_reducible refine zD ?_)
   refine next h26 ?_ O26;rw[show XB ((cs.take i).foldl XB (wg zs)) cs[i]=(cs.take i).foldl XB (wg zs)from iQ (by rw[hlen];omega)];exact A26
 ·refine⟨b,e,rfl,hb,?_,O⟩;rw[List.take_of_length_le omQ]at A;exact A
theorem qGE (zs:List Int) (cs:List Cl):KO zs cs=jF zs cs:=by
 have e1:∀n:Nat,szZ (n:Int)=yd n:=by intro n;unfold szZ yd;omega
 have e2:wg zs=Vb zs:=by unfold wg Vb;rw[e1];rfl
 unfold KO jF;rw[e2];rfl
abbrev qJP (g:AH) (R:List SP) (a0:AV) (zs:List Int):Prop:=∀(h':AH) (K:AV→Go.Ae.R) (Q:AV→AH→Prop),HS g h' R→(∀v',Sl (λ_=>True) h' 1 (zs.length-min 1 zs.length) v' ((zs.map (AV.int .u64)).drop (min 1 zs.length*1))→wp (K v') Q)→
 wp (xY h' 22 1 a0 (some (.int .i64 ((min 1 zs.length:Nat):Int))) none K) Q
theorem qQl {g:AH} {R:List SP} {a0:AV} {zs:List Int} (S:Rd g R 1 zs.length a0 (zs.map (.int .u64))) (hs:shut a0=true) (hr:Uz a0):qJP g R a0 zs :=
 λ_ _ _ H w=>qK0 (S.sl H) hs hr omQ λv' S' _ _=>w v' S'
theorem qgr {g:AH} {R R2:List SP} {a0:AV} {zs:List Int} (s:Sel R (qy 22 1 zs.length a0 (zs.map (.int .u64))) R2) (h0:0<zs.length):qJP g R a0 zs :=
 λ_ _ _ H w=>qY8 (H.sel s) omQ omQ h0 λv' S'=>w v' S'
theorem vr {g:AH} {R:List SP} {P:SP} {a0:AV} {zs:List Int} (c:qJP g R a0 zs):qJP g (P::R) a0 zs:=λh' K Q H w=>c h' K Q H.drop w
theorem Y3 {g h:AH} {R:List SP} {n:Nat} (hn:1≤n) {zs:List Int} {cs:List Cl} {a0 c:AV} (H:HS g h R) (S:Rd g R 1 zs.length a0 (zs.map (.int .u64))) (hcut:qJP g R a0 zs) (S1:Rd g R 2 cs.length c (cs.flatMap jP)) (hz:zs.length<100000) (hc:cs.length<100000) :
  t_w n 48 [a0,c] h λr h'=>∃e,(shut r=true∧Uz r)∧HS g h' (qy e 1 (jF zs cs).length r ((jF zs cs).map (.int .u64))::R):=by
 obtain⟨v,h',er,b,e,rfl,hb,A,O⟩:=qXM hn (S.sl H) (λh' K Q O w=>hcut h' K Q (H.keep O) w) (S1.sl H) omQ omQ;have hl:(KO zs cs).length=yd zs.length:=by unfold KO;rw[Nw,OC]
 refine⟨_,h',er,e,⟨rfl,Nat.le_refl _⟩,?_⟩;rw[← qGE];refine H.add (D':=λa=>a=b) O ⟨by simp,.inr ⟨b,yd zs.length,false,_,by rw[hl],λa=>Iff.rfl,A,by simp,by rw[List.take_of_length_le osQ],?_⟩⟩ ?_
 ·rw[iQ osQ];exact⟨by simp[hl],by omega⟩
 ·rintro a rfl;exact⟨hb,A.lt⟩
end
end Go.Proofs.YtbiljkdgeekpbacGreatDoor
