/- Lemmas for 'quietus/quietuslaw28.MachineLocks': Threads: plain: what a step keeps;A run on a view that knows less: it asks for a word, or does the same. Plain;What a run writes lies within the heap: plain;... No condition. -/
import Derived.Test.YtepfejdhlgoekaaGreatDoorMachineLocksM3
import Derived.Test.YtepfejdhlgoekaaGreatDoorMachineLocksM2
import Derived.Test.YtepfejdhlgoekaaGreatDoorMachineLocksM1
namespace Go.Proofs.YtepfejdhlgoekaaGreatDoor
open Go Go.Ae
set_option maxRecDepth 100000
section
def isSw:Yx→Bool
 | .prog _=>false
 | .sweep _ _=>true
structure gt (x y:jY):Prop where
  me:y.me=x.me
  set:y.set=x.set
  sw:isSw y.job=isSw x.job
theorem gt.refl (x:jY):gt x x:=⟨rfl,rfl,rfl⟩
theorem gt.trans {x y z:jY} (a:gt x y) (b:gt y z):gt x z:=⟨b.me.trans a.me,b.set.trans a.set,b.sw.trans a.sw⟩
theorem qJB (x:jY):gt x (yv x).2:=by
 unfold yv;cases hx:x.job with
 |prog q=>exact⟨rfl,rfl,by rw[hx];rfl⟩
 |sweep bs k=>exact⟨rfl,rfl,by rw[hx];rfl⟩
theorem Nw (x:jY) (k e:Int):gt x (kg x k e):=by
 unfold kg
 repeat' split
 all_goals exact⟨rfl,rfl,rfl⟩
theorem GX (x:jY):gt x (wE x):=(qJB x).trans (Nw ..)
theorem KX (x:jY):gt x (xP x):=by
 unfold xP
 split
 ·exact⟨rfl,rfl,rfl⟩
 ·split
  ·exact(gt.trans (y:={ x with r:=(kz x.r (yW x.f)).2,v:=(yC x.v x.v.need (xn x.f)).2 }) ⟨rfl,rfl,rfl⟩ (GX _))
  ·split<;>exact⟨rfl,rfl,rfl⟩
theorem Q5 (x:jY):gt x (vu x):=by
 have hs:∀y:jY,gt y (zN y):=λy=>by
  unfold zN
  repeat' split
  all_goals exact⟨rfl,rfl,rfl⟩
 unfold vu;refine gt.trans ?_ (hs _)
 split
 ·exact .refl x
 ·split
  ·exact⟨rfl,rfl,rfl⟩
  ·unfold yg
   split
   ·exact KX x
   ·repeat' split
    all_goals exact⟨rfl,rfl,rfl⟩
theorem YL (x:jY) (a:AnM):gt x (zV x a):=by
 unfold zV
 split
 ·exact .refl x
 ·split
  ·exact⟨rfl,rfl,rfl⟩
  ·split
   ·exact⟨rfl,rfl,rfl⟩
   ·split
    ·exact⟨rfl,rfl,rfl⟩
    ·split
     ·exact GX x
     ·split
      ·exact⟨rfl,rfl,rfl⟩
      ·split
       ·exact gt.trans (y:={ x with f:=z6 x.f a }) ⟨rfl,rfl,rfl⟩ (Q5 _)
       ·split
        ·exact gt.trans (y:={ x with c:=x.c.map λc=>jo c a }) ⟨rfl,rfl,rfl⟩ (Q5 _)
        ·exact gt.trans (y:={ x with e:=gd x.e a }) ⟨rfl,rfl,rfl⟩ (Q5 _)
structure ThrB (t:jJ):Prop where
  set:xd t.set
  me:0≤t.me∧t.me<t.set.threads
  jobs:∀l∈t.jobs,(zt l).2=0∧Quiet l
  jl:t.jobs.length≤6
  job:0≤t.job∧t.job≤t.jobs.length
  rests:t.rests.length+t.giving.length≤9000*t.results.length
  slots:t.slots.length≤6
  tries:0≤t.tries∧t.tries≤t.past.length
  conf:0≤t.conf∧t.conf≤t.tries
  giv:t.sweep=false→t.giving=[]
structure wo (t:jJ):Prop extends ThrB t where
  now:∀x,t.now=some x→zT x∧x.me=t.me∧x.set=t.set∧isSw x.job=t.sweep
  lt:t.job<t.jobs.length
  some:t.now≠none
structure xF (t:jJ):Prop where
  st:1≤t.state∧t.state≤6
  b:ThrB t
  c:t.state≠6→wo t
  fin:t.state=6→t.job=t.jobs.length∧t.now=none
  res:(t.results.length:Int)≤t.job+(if t.state≠6∧(t.sweep=true∨t.state=5)then 1 else 0)
  slo:t.state=5→(t.slots.length:Int)<t.set.threads∧(t.slots.length:Int)≠t.me
  pau:t.state=3→0<t.pauses∧t.pauses≤8
  byy:t.state=2→0≤t.by_∧t.by_<t.set.threads
  sw5:t.state=5→t.sweep=false
variable {t:jJ}
theorem ThrB.len (B:ThrB t) (h:(t.results.length:Int)≤t.job+1):t.rests.length+t.giving.length≤63000:=by have h1:=B.jl;have h2:=B.job;have h3:=B.rests;omega
theorem wY (B:ThrB t) (hr:(t.results.length:Int)≤t.job+(if t.sweep=true∧t.job≠t.jobs.length then 1 else 0)):xF (zC t):=by
 have hlen:=B.len (by split at hr<;>omega);have hs:=B.set.start.1;have hset:=kN B.set;unfold zC
 split
 ·rename_i hj;refine⟨by show(1:Int)≤6∧(6:Int)≤6;decide,⟨B.set,B.me,B.jobs,B.jl,B.job,B.rests,B.slots,B.tries,B.conf,B.giv⟩,λh=>absurd rfl h,λ_=>⟨hj,rfl⟩,?_,λh=>(by cases h),λh=>(by cases h),λh=>(by cases h),λh=>by cases h⟩;rw[iQ (λh=>h.2 hj)]at hr;show(t.results.length:Int)≤t.job+(if(6:Int)≠6∧_ then 1 else 0);rw[iQ (λh=>h.1 rfl)];exact hr
 ·rename_i hj;have B':ThrB { t with born:=0,alarm:=false,state:=1,now:=some (if t.sweep=true then kI t.me t.set (t.giving.map (·.1))else QC t.me t.set ((t.jobs[t.job.toNat]?).getD [])) }:=⟨B.set,B.me,B.jobs,B.jl,B.job,B.rests,B.slots,B.tries,B.conf,B.giv⟩;refine⟨by show(1:Int)≤1∧(1:Int)≤6;decide,B',λ_=>⟨B',λx hx=>?_,by have:=B.job;show t.job<(t.jobs.length:Int);omega,λh=>by cases h⟩,λh=>(by cases h),?_,λh=>(by cases h),λh=>(by cases h),λh=>(by cases h),λh=>by cases h⟩
  ·cases hx
   split
   ·rename_i hsw;exact⟨Zz hs (by rw[List.length_map];omega),rfl,hset,hsw.symm⟩
   ·rename_i hsw;have hlt:t.job.toNat<t.jobs.length:=by have:=B.job;omega
    rw[iW hlt];have:=B.jobs _ (List.getElem_mem hlt);exact⟨qJC hs this.1 this.2,rfl,hset,by simp only[Bool.not_eq_true]at hsw;exact hsw.symm⟩
  ·show(t.results.length:Int)≤t.job+(if(1:Int)≠6∧(t.sweep=true∨(1:Int)=5)then 1 else 0);by_cases hsw:t.sweep=true
   ·rw[iJ ⟨by decide,.inl hsw⟩];rw[iJ ⟨hsw,hj⟩]at hr;exact hr
   ·rw[iQ (λh=>hsw h.1)]at hr;rw[iQ (λh=>by rcases h.2 with h |h;exact hsw h;cases h)];exact hr
theorem kS (B:ThrB { t with job:=t.job+1,sweep:=false,giving:=[],tries:=0,conf:=0 }) (hr:(t.results.length:Int)≤t.job+1):xF (zn t):=by unfold zn;refine wY B ?_;show(t.results.length:Int)≤t.job+1+(if false=true∧_ then 1 else 0);rw[iQ (λh=>by cases h.1)];omega
theorem QQ (B:ThrB t) (hj:t.job<t.jobs.length) (hr:(t.results.length:Int)≤t.job+1):xF (zn t):=by have:=B.job;have:=B.tries;refine kS ⟨B.set,B.me,B.jobs,B.jl,by show 0≤t.job+1∧t.job+1≤(t.jobs.length:Int);omega,?_,B.slots,by show(0:Int)≤0∧(0:Int)≤(List.length _:Int);omega,by show(0:Int)≤0∧(0:Int)≤0;decide,λ_=>rfl⟩ hr;have:=B.rests;show t.rests.length+0≤9000*t.results.length;omega
theorem Nb (c:Int):1≤vS c∧vS c≤8:=by
 unfold vS
 repeat' split
 all_goals omega
theorem wo.go (C:wo t) {u:jJ} (h1:u.set=t.set) (h2:u.me=t.me) (h3:u.jobs=t.jobs) (h4:u.job=t.job) (h5:u.rests=t.rests) (h6:u.giving=t.giving) (h7:u.results=t.results) (h8:u.slots.length≤6) (h9:0≤u.tries∧u.tries≤u.past.length) (h10:0≤u.conf∧u.conf≤u.tries) (h11:u.now=t.now) (h12:u.sweep=t.sweep):wo u:=by have B:=C.toThrB;refine⟨⟨by rw[h1];exact B.set,by rw[h1,h2];exact B.me,by rw[h3];exact B.jobs,by rw[h3];exact B.jl,by rw[h3,h4];exact B.job,by rw[h5,h6,h7];exact B.rests,h8,h9,h10,by rw[h12,h6];exact B.giv⟩,by rw[h11,h1,h2,h12];exact C.now,by rw[h3,h4];exact C.lt,by rw[h11];exact C.some⟩
theorem U1 (C:wo t) {draw:Int} (hd:0≤draw) (hr:(t.results.length:Int)≤t.job+(if t.sweep=true then 1 else 0)):xF (xk t draw):=by
 have hm:=Nb t.conf;have hlt:=C.lt;unfold xk
 split
 ·refine wY (C.go (u:={ t with pauses:=0,state:=3 }) rfl rfl rfl rfl rfl rfl rfl C.slots C.tries C.conf rfl rfl).toThrB ?_;show(t.results.length:Int)≤t.job+(if t.sweep=true∧t.job≠t.jobs.length then 1 else 0);by_cases hs:t.sweep=true
  ·rw[iJ ⟨hs,by omega⟩];rw[iJ hs]at hr;exact hr
  ·rw[iQ (λh=>hs h.1)];rw[iQ hs]at hr;exact hr
 ·rename_i hn;have C':wo { t with pauses:=draw%(vS t.conf+1),state:=3 }:=C.go rfl rfl rfl rfl rfl rfl rfl C.slots C.tries C.conf rfl rfl;have h1:=Int.emod_nonneg draw (show vS t.conf+1≠0 by omega);have h2:=Int.emod_lt_of_pos draw (show 0<vS t.conf+1 by omega);refine⟨by show(1:Int)≤3∧(3:Int)≤6;decide,C'.toThrB,λ_=>C',λh=>(by cases h),?_,λh=>(by cases h),λ_=>⟨by show 0<draw%(vS t.conf+1);omega,by show draw%(vS t.conf+1)≤8;omega⟩,λh=>(by cases h),λh=>by cases h⟩;show(t.results.length:Int)≤t.job+(if(3:Int)≠6∧(t.sweep=true∨(3:Int)=5)then 1 else 0);by_cases hs:t.sweep=true
  ·rw[iJ ⟨by decide,.inl hs⟩];rw[iJ hs]at hr;exact hr
  ·rw[iQ (λh=>by rcases h.2 with h |h;exact hs h;cases h)];rw[iQ hs]at hr;exact hr
theorem ZT {α:Type} (p:α→Bool) (l:List α):(l.filter p).length+(l.filter λx=>!p x).length=l.length:=by
 induction l with
 |nil=>rfl
 |cons x r ih=>rw[List.filter_cons,List.filter_cons];cases p x<;>simp<;>omega
theorem Mb (C:wo t) (hr:(t.results.length:Int)≤t.job+1) (h5:t.state=5) (hl:(t.slots.length:Int)≤t.set.threads) (hsw:t.sweep=false):xF (vj t):=by
 have h4:=C.set.threads;have hlt:=C.lt;have hg:=C.giv hsw;have hre:=C.rests;rw[hg]at hre;unfold vj;have key:∀u:jJ,u={ t with slots:=u.slots }→(u.slots.length:Int)≤5→(u.slots.length:Int)≠t.me→xF (vP u):=by
  intro u hu hul hme;have C':wo u:=by rw[hu];exact C.go rfl rfl rfl rfl rfl rfl rfl (by show u.slots.length≤6;omega) C.tries C.conf rfl rfl
  have hul':(u.slots.length:Nat)≤6:=by omega
  unfold vP;have e1:u.set=t.set:=by rw[hu]
  have e2:u.rests=t.rests:=by rw[hu]
  have e3:u.results=t.results:=by rw[hu]
  have e4:u.job=t.job:=by rw[hu]
  have e5:u.state=5:=by rw[hu];exact h5
  have e6:u.me=t.me:=by rw[hu]
  have e7:u.jobs=t.jobs:=by rw[hu]
  have e8:u.giving=[]:=by rw[hu];exact hg
  have hf:=ZT (λr:KO=>jQ u.slots r.2) u.rests
  split
  ·rename_i h;refine⟨by omega,C'.toThrB,λ_=>C',λh=>by omega,?_,λ_=>⟨h,by rw[e6];exact hme⟩,λh=>by omega,λh=>by omega,λ_=>by rw[hu];exact hsw⟩;rw[iJ ⟨by omega,.inr e5⟩,e3,e4];exact hr
  ·split
   ·refine QQ (t:={ u with rests:=u.rests.filter λr=>!jQ u.slots r.2 }) ⟨C'.set,C'.me,C'.jobs,C'.jl,C'.job,?_,hul',C'.tries,C'.conf,C'.giv⟩ C'.lt (by show(u.results.length:Int)≤u.job+1;rw[e3,e4];exact hr);show(u.rests.filter λr=>!jQ u.slots r.2).length+u.giving.length≤9000*u.results.length;rw[e8,e3];rw[e2]at hf ⊢;simp at hre ⊢;omega
   ·refine wY (t:={ u with rests:=u.rests.filter (λr=>!jQ u.slots r.2),sweep:=true,giving:=u.rests.filter (λr=>jQ u.slots r.2),tries:=0,conf:=0 }) ⟨C'.set,C'.me,C'.jobs,C'.jl,C'.job,?_,hul',by show(0:Int)≤0∧(0:Int)≤(List.length _:Int);omega,by show(0:Int)≤0∧(0:Int)≤0;decide,λh=>by cases h⟩ ?_
    ·show(u.rests.filter λr=>!jQ u.slots r.2).length+(u.rests.filter λr=>jQ u.slots r.2).length≤9000*u.results.length;rw[e3];rw[e2]at hf ⊢;simp at hre;omega
    ·show(u.results.length:Int)≤u.job+(if true=true∧u.job≠u.jobs.length then 1 else 0);rw[iJ ⟨rfl,by rw[e4,e7];omega⟩,e3,e4];exact hr
 split
 ·rename_i h;refine key _ rfl ?_ ?_
  ·show((t.slots++[(0:Int)]).length:Int)≤5;rw[List.length_append,List.length_singleton];omega
  ·show((t.slots++[(0:Int)]).length:Int)≠t.me;rw[List.length_append,List.length_singleton];omega
 ·rename_i h;exact key t rfl omQ h
theorem qXn (lv:List LvM):(wV lv).length≤frS lv:=by unfold wV frS;rw[List.length_flatMap,List.map_reverse,List.sum_reverse];exact Nat.le_refl _
theorem Y7 {x:jY} (O:zT x) (hp:isSw x.job=false):(zD x).length≤9000:=by
 unfold zD
 split
 ·cases hj:x.job with
  |prog q=>dsimp only;have h1:=O.fr;have h2:=qXn x.v.lv;omega
  |sweep bs k=>rw[hj]at hp;cases hp
 ·simp
theorem qJ0 (C:wo t) {x:jY} (hx:t.now=some x) (hs5:t.state=1) {draw pick:Int} (hd:0≤draw) (hr:(t.results.length:Int)≤t.job+(if t.sweep=true then 1 else 0)):xF (yU t x draw pick):=by
 have ht:=C.tries;have hc:=C.conf;have hlt:=C.lt;have hlen:(t.past++[jH t x pick]).length=t.past.length+1:=by simp
 have hr1:(t.results.length:Int)≤t.job+1:=by split at hr<;>omega
 have hr6:∀s:Int,s≠6→(t.results.length:Int)≤t.job+(if s≠6∧(t.sweep=true∨s=5)then 1 else 0):=λs h6=>by
  by_cases hs:t.sweep=true
  ·rw[iJ ⟨h6,.inl hs⟩];rw[iJ hs]at hr;exact hr
  ·rw[iQ hs]at hr;split<;>omega
 unfold yU;dsimp only
 split
 ·split
  ·rename_i hb;have C':wo { t with past:=t.past++[jH t x pick],tries:=t.tries+1,conf:=t.conf+1,state:=2,by_:=QX x,yielding:=false } :=
    C.go rfl rfl rfl rfl rfl rfl rfl C.slots (by show 0≤t.tries+1∧t.tries+1≤((t.past++[jH t x pick]).length:Int);omega) (by show 0≤t.conf+1∧t.conf+1≤t.tries+1;omega) rfl rfl
   exact⟨by show(1:Int)≤2∧(2:Int)≤6;decide,C'.toThrB,λ_=>C',λh=>(by cases h),hr6 2 od,λh=>(by cases h),λh=>(by cases h),λ_=>hb,λh=>by cases h⟩
  ·exact U1 (t:={ t with past:=t.past++[jH t x pick],tries:=t.tries+1,conf:=t.conf+1 }) (C.go rfl rfl rfl rfl rfl rfl rfl C.slots (by show 0≤t.tries+1∧t.tries+1≤((t.past++[jH t x pick]).length:Int);omega) (by show 0≤t.conf+1∧t.conf+1≤t.tries+1;omega) rfl rfl) hd hr
 ·have C':∀s:Int,wo { t with past:=t.past++[jH t x pick],tries:=t.tries+1,state:=s }:=λs=>
   C.go rfl rfl rfl rfl rfl rfl rfl C.slots (by show 0≤t.tries+1∧t.tries+1≤((t.past++[jH t x pick]).length:Int);omega) (by show 0≤t.conf∧t.conf≤t.tries+1;omega) rfl rfl
  have CB:=(C' t.state).toThrB
  split
  ·split
   ·refine wY (t:={ t with past:=t.past++[jH t x pick],tries:=t.tries+1 }) CB ?_;show(t.results.length:Int)≤t.job+(if t.sweep=true∧t.job≠t.jobs.length then 1 else 0);by_cases hs:t.sweep=true
    ·rw[iJ ⟨hs,by omega⟩];rw[iJ hs]at hr;exact hr
    ·rw[iQ (λh=>hs h.1)];rw[iQ hs]at hr;exact hr
   ·exact⟨by show(1:Int)≤4∧(4:Int)≤6;decide,(C' 4).toThrB,λ_=>C' 4,λh=>(by cases h),hr6 4 od,λh=>(by cases h),λh=>(by cases h),λh=>(by cases h),λh=>by cases h⟩
  ·split
   ·rename_i hsw;unfold wU
    split
    ·refine kS (t:={ t with past:=t.past++[jH t x pick],tries:=t.tries+1,rests:=t.rests++t.giving }) ⟨C.set,C.me,C.jobs,C.jl,by have:=C.job;show 0≤t.job+1∧t.job+1≤(t.jobs.length:Int);omega,?_,C.slots,by show(0:Int)≤0∧(0:Int)≤(List.length _:Int);omega,by show(0:Int)≤0∧(0:Int)≤0;decide,λ_=>rfl⟩ hr1;have:=C.rests;show(t.rests++t.giving).length+0≤9000*t.results.length;rw[List.length_append];omega
    ·exact QQ (t:={ t with past:=t.past++[jH t x pick],tries:=t.tries+1 }) CB hlt hr1
   ·rename_i hsw;have hsw:t.sweep=false:=by simpa using hsw
    have hn:=C.now x hx;have hfl:=Y7 hn.1 (hn.2.2.2.trans hsw);rw[hsw,iQ osQ]at hr;have hgl:=C.giv hsw;have hre:=C.rests;rw[hgl]at hre;unfold QI;have e1:(t.results++[(⟨zx x,xl x,zE x,x.stamp⟩:Vj)]).length=t.results.length+1:=by simp
    have e2:(t.rests++(zD x).map λb=>(b,x.stamp)).length=t.rests.length+(zD x).length:=by simp
    have B2:ThrB { t with past:=t.past++[jH t x pick],tries:=t.tries+1,results:=t.results++[⟨zx x,xl x,zE x,x.stamp⟩],rests:=t.rests++(zD x).map λb=>(b,x.stamp) } :=
     ⟨C.set,C.me,C.jobs,C.jl,C.job,by show(t.rests++(zD x).map λb=>(b,x.stamp)).length+t.giving.length≤9000*(t.results++[(⟨zx x,xl x,zE x,x.stamp⟩:Vj)]).length;rw[e1,e2,hgl];rw[List.length_nil]at hre ⊢;omega,
      C.slots,by show 0≤t.tries+1∧t.tries+1≤((t.past++[jH t x pick]).length:Int);omega,by show 0≤t.conf∧t.conf≤t.tries+1;omega,C.giv⟩
    dsimp only
    split
    ·exact QQ B2 hlt (by show((t.results++[(⟨zx x,xl x,zE x,x.stamp⟩:Vj)]).length:Int)≤t.job+1;omega)
    ·refine Mb (t:={ t with past:=t.past++[jH t x pick],tries:=t.tries+1,results:=t.results++[⟨zx x,xl x,zE x,x.stamp⟩],rests:=t.rests++(zD x).map λb=>(b,x.stamp),state:=5,slots:=[] })
      ⟨⟨B2.set,B2.me,B2.jobs,B2.jl,B2.job,B2.rests,Nat.zero_le _,B2.tries,B2.conf,B2.giv⟩,C.now,C.lt,C.some⟩ (by show((t.results++[(⟨zx x,xl x,zE x,x.stamp⟩:Vj)]).length:Int)≤t.job+1;omega) rfl (by have:=C.set.threads;show(0:Int)≤t.set.threads;omega) hsw
theorem GT (O:xF t) {a:AnM} (ha:vW a) {draw pick:Int} (hd:0≤draw):xF (z8 t a draw pick):=by
 have hres:=O.res;unfold z8
 split
 ·rename_i h1;have C:=O.c omQ;cases hn:t.now with
  |none=>exact O
  |some x=>
   dsimp only;have hx:=C.now x hn;have hS:=YL x a;have hr:(t.results.length:Int)≤t.job+(if t.sweep=true then 1 else 0):=by
    by_cases hs:t.sweep=true
    ·rw[iJ ⟨by omega,.inl hs⟩]at hres;rw[iJ hs];exact hres
    ·rw[iQ (λh=>by rcases h.2 with h |h;exact hs h;omega)]at hres;rw[iQ hs];exact hres
   unfold Q8;dsimp only
   have C':∀b:Int,wo { t with now:=some (zV x a),born:=b }:=λb=>⟨⟨C.set,C.me,C.jobs,C.jl,C.job,C.rests,C.slots,C.tries,C.conf,C.giv⟩,λy hy=>by
    cases hy
    exact⟨MC hx.1 ha,hS.me.trans hx.2.1,hS.set.trans hx.2.2.1,hS.sw.trans hx.2.2.2⟩,C.lt,λh=>by cases h⟩
   split
   ·exact⟨O.st,(C' _).toThrB,λ_=>C' _,λh=>absurd h (by show¬t.state=6;omega),O.res,λh=>absurd h (by show¬t.state=5;omega),λh=>absurd h (by show¬t.state=3;omega),λh=>absurd h (by show¬t.state=2;omega),λh=>absurd h (by show¬t.state=5;omega)⟩
   ·exact qJ0 (t:={ t with now:=some (zV x a),born:=if(zV x a).begun=true∧x.begun=false then pick else t.born }) (C' _) rfl h1 hd hr
 ·split
  ·rename_i h2;have C:=O.c omQ
   split
   ·have C':wo { t with yielding:=true,since:=a.word }:=C.go rfl rfl rfl rfl rfl rfl rfl C.slots C.tries C.conf rfl rfl;exact⟨O.st,C'.toThrB,λ_=>C',λh=>absurd h (by show¬t.state=6;omega),O.res,λh=>absurd h (by show¬t.state=5;omega),λh=>absurd h (by show¬t.state=3;omega),O.byy,λh=>absurd h (by show¬t.state=5;omega)⟩
   ·refine U1 C hd ?_;by_cases hs:t.sweep=true
    ·rw[iJ ⟨by omega,.inl hs⟩]at hres;rw[iJ hs];exact hres
    ·rw[iQ (λh=>by rcases h.2 with h |h;exact hs h;omega)]at hres;rw[iQ hs];exact hres
  ·split
   ·rename_i h5';have C:=O.c omQ;have hsl:=O.slo h5';rw[iJ ⟨by omega,.inr h5'⟩]at hres;have h4:=C.set.threads;have e:(t.slots++[if a.err≠0 then 0 else a.word]).length=t.slots.length+1:=by simp
    refine Mb (t:={ t with slots:=t.slots++[if a.err≠0 then 0 else a.word] }) (C.go rfl rfl rfl rfl rfl rfl rfl (by show(t.slots++[if a.err≠0 then 0 else a.word]).length≤6;omega) C.tries C.conf rfl rfl) hres h5' ?_ (O.sw5 h5');show((t.slots++[if a.err≠0 then 0 else a.word]).length:Int)≤t.set.threads;omega
   ·exact O
theorem G4 (O:xF t):xF (zk t):=by
 have hres:=O.res;unfold zk
 split
 ·rename_i h3;have C:=O.c omQ;have hp:=O.pau h3
  split
  ·refine wY (t:={ t with pauses:=0 }) (C.go (u:={ t with pauses:=0 }) rfl rfl rfl rfl rfl rfl rfl C.slots C.tries C.conf rfl rfl).toThrB ?_;have hlt:=C.lt;show(t.results.length:Int)≤t.job+(if t.sweep=true∧t.job≠t.jobs.length then 1 else 0);by_cases hs:t.sweep=true
   ·rw[iJ ⟨hs,by omega⟩];rw[iJ ⟨by omega,.inl hs⟩]at hres;exact hres
   ·rw[iQ (λh=>hs h.1)];rw[iQ (λh=>by rcases h.2 with h |h;exact hs h;omega)]at hres;exact hres
  ·have C':wo { t with pauses:=t.pauses-1 }:=C.go rfl rfl rfl rfl rfl rfl rfl C.slots C.tries C.conf rfl rfl;exact⟨O.st,C'.toThrB,λ_=>C',λh=>absurd h (by show¬t.state=6;omega),O.res,λh=>absurd h (by show¬t.state=5;omega),λ_=>(by show 0<t.pauses-1∧t.pauses-1≤8;omega),λh=>absurd h (by show¬t.state=2;omega),λh=>absurd h (by show¬t.state=5;omega)⟩
 ·exact O
theorem My (O:xF t) {s v:Int}:xF (zm t s v):=by
 have hres:=O.res;unfold zm
 split
 ·exact O
 ·split
  ·split
   ·rename_i h4;have C:=O.c omQ;refine wY C.toThrB ?_;have hlt:=C.lt;by_cases hs:t.sweep=true
    ·rw[iJ ⟨hs,by omega⟩];rw[iJ ⟨by omega,.inl hs⟩]at hres;exact hres
    ·rw[iQ (λh=>hs h.1)];rw[iQ (λh=>by rcases h.2 with h |h;exact hs h;omega)]at hres;exact hres
   ·split
    ·rename_i h1;have C:=O.c omQ;have C':wo { t with alarm:=true }:=C.go rfl rfl rfl rfl rfl rfl rfl C.slots C.tries C.conf rfl rfl;exact⟨O.st,C'.toThrB,λ_=>C',O.fin,O.res,O.slo,O.pau,O.byy,O.sw5⟩
    ·exact O
  ·exact O
theorem qjU {me:Int} {s:zr} {jobs:List (List qO)} (hs:0≤s.start) (hj:∀l∈jobs,(zt l).2=0∧Quiet l):xF (VV me s jobs):=by have S:=yr hs;have h4:=S.threads;refine kS ⟨S,by show 0≤max 0 (min me ((jz s).threads-1))∧max 0 (min me ((jz s).threads-1))<(jz s).threads;omega,λl hl=>hj l (List.mem_of_mem_take hl),?_,by show(0:Int)≤ -1+1∧(-1:Int)+1≤_;omega,Nat.le_refl _,Nat.zero_le _,by show(0:Int)≤0∧(0:Int)≤(([]:List KV).length:Int);decide,by show(0:Int)≤0∧(0:Int)≤0;decide,λ_=>rfl⟩ (by show(0:Int)≤ -1+1;decide);show(jobs.take 6).length≤6;rw[List.length_take];omega
end
section
structure xB (V W:VM):Prop where
  sz:V.sz=W.sz
  most:V.most=W.most
  lv:V.lv=W.lv
  K:∀p x,zj p V.K=some x→zj p W.K=some x
theorem xB.same {V W:VM} (h:xB V W) (lv:List LvM):xB { V with lv:=lv } { W with lv:=lv }:=⟨h.sz,h.most,rfl,h.K⟩
theorem xB.read {V W:VM} (h:xB V W) (p:Int):(qf V p).1.2=11∨((qf V p).1=(qf W p).1∧xB (qf V p).2 (qf W p).2):=by
 unfold qf;rw[← h.sz,← h.lv]
 split
 ·cases hl:Yi p V.lv with
  |some x=>exact .inr ⟨rfl,h⟩
  |none=>
   dsimp only;cases hk:zj p V.K with
   |some x=>rw[h.K p x hk];exact .inr ⟨rfl,h⟩
   |none=>exact .inl rfl
 ·exact .inr ⟨rfl,h⟩
theorem xB.take {V W:VM} (h:xB V W) (cs:List Cl):(ju V cs).1=(ju W cs).1∧xB (ju V cs).2 (ju W cs).2:=by
 unfold ju;rw[← h.sz,← h.lv,← h.most]
 split
 ·refine⟨rfl,?_⟩;exact⟨rfl,rfl,rfl,h.K⟩
 ·exact⟨rfl,h⟩
theorem xB.ask {V W:VM} (h:xB V W) (b:Int):(ji V b).1.2.2=11∨((ji V b).1=(ji W b).1∧xB (ji V b).2 (ji W b).2):=by
 unfold ji;rw[← h.sz]
 split
 ·exact .inr ⟨rfl,h⟩
 ·rcases h.read (b-1)with e |⟨e,h2⟩
  ·rw[e];exact .inl rfl
  ·rw[← e]
   split
   ·split
    ·exact .inr ⟨rfl,h2⟩
    ·exact .inr ⟨rfl,h2⟩
   ·exact .inr ⟨rfl,h2⟩
theorem xB.again {V W:VM} (h:xB V W) (c b:Int):(xi V c b).1.2=11∨((xi V c b).1=(xi W c b).1∧xB (xi V c b).2 (xi W c b).2):=by
 unfold xi
 split
 ·exact .inr ⟨rfl,h⟩
 ·rcases h.read b with e |⟨e,h2⟩
  ·rw[e];exact .inl rfl
  ·rw[← e];have ht:=h2.take [(c,(qf V b).1.1),(b-1,c+8)];rw[← ht.1]
   split
   ·split
    ·exact .inr ⟨rfl,ht.2⟩
    ·exact .inr ⟨rfl,ht.2⟩
   ·exact .inr ⟨rfl,h2⟩
theorem xB.grown {V W:VM} (h:xB V W) (c:Int):(xe V c).1.2=11∨((xe V c).1=(xe W c).1∧xB (xe V c).2 (xe W c).2):=by
 unfold xe;rw[← h.sz];rcases h.read 5 with e |⟨e,h2⟩
 ·rw[e];exact .inl rfl
 ·rw[← e];have ht:=h2.take [(5,(qf V 5).1.1+1+vi c),((qf V 5).1.1,c+8)];rw[← ht.1]
  split
  ·split
   ·exact .inr ⟨rfl,h2⟩
   ·split
    ·exact .inr ⟨rfl,ht.2⟩
    ·exact .inr ⟨rfl,ht.2⟩
  ·exact .inr ⟨rfl,h2⟩
theorem xB.alloc {V W:VM} (h:xB V W) (n:Int):(zd V n).1.2=11∨((zd V n).1=(zd W n).1∧xB (zd V n).2 (zd W n).2):=by
 unfold zd
 split
 ·exact .inr ⟨rfl,h⟩
 ·rcases h.read (xj n)with e |⟨e,h2⟩
  ·rw[e];exact .inl rfl
  ·rw[← e]
   split
   ·split
    ·exact h2.grown _
    ·exact h2.again _ _
   ·exact .inr ⟨rfl,h2⟩
theorem xB.free {V W:VM} (h:xB V W) (b:Int):(vO V b).1=11∨((vO V b).1=(vO W b).1∧xB (vO V b).2 (vO W b).2):=by
 unfold vO;rcases h.ask b with e |⟨e,h2⟩
 ·rw[e];exact .inl rfl
 ·rw[← e];have ht:=h2.take [(b-1,(ji V b).1.1)];rw[← ht.1]
  split
  ·split
   ·split
    ·refine .inr ⟨rfl,?_⟩;unfold freeV;rw[← ht.2.lv];exact⟨ht.2.sz,ht.2.most,rfl,ht.2.K⟩
    ·exact .inr ⟨ht.1,ht.2⟩
   ·exact .inr ⟨rfl,h2⟩
  ·exact .inr ⟨rfl,h2⟩
theorem xB.give {V W:VM} (h:xB V W) (b:Int):(xw V b).1=11∨((xw V b).1=(xw W b).1∧xB (xw V b).2 (xw W b).2):=by
 unfold xw;rcases h.ask b with e |⟨e,h2⟩
 ·rw[e];exact .inl rfl
 ·rw[← e]
  split
  ·split
   ·exact .inr ⟨rfl,h2⟩
   ·rcases h2.read (ji V b).1.1 with e2 |⟨e2,h3⟩
    ·rw[e2];exact .inl rfl
    ·rw[← e2]
     split
     ·exact .inr (h3.take _)
     ·exact .inr ⟨rfl,h3⟩
  ·exact .inr ⟨rfl,h2⟩
theorem xB.open' {V W:VM} (h:xB V W):(yp V).1=(yp W).1∧xB (yp V).2 (yp W).2:=by unfold yp;rw[← h.lv];exact⟨rfl,h.same _⟩
theorem xB.drop {V W:VM} (h:xB V W):(xx V).1=(xx W).1∧xB (xx V).2 (xx W).2:=by unfold xx;rw[← h.lv];exact⟨rfl,h.same _⟩
theorem xB.keep {V W:VM} (h:xB V W):(vF V).1=(vF W).1∧xB (vF V).2 (vF W).2:=by unfold vF;rw[← h.lv];exact⟨rfl,h.same _⟩
structure G8 (a b:SM):Prop where
  e:a.e=b.e
  nx:a.nx=b.nx
  blk:a.blk=b.blk
  s:a.s=b.s
  v:xB a.v b.v
theorem xB.begin_ {V W:VM} (h:xB V W) (op a nx:Int) (s:IM):G8 (zW op a nx s V) (zW op a nx s W):=by
 unfold zW;rw[← h.open'.1]
 split
 ·exact⟨rfl,rfl,rfl,rfl,h.open'.2⟩
 ·exact⟨rfl,rfl,rfl,rfl,h.open'.2⟩
theorem xB.retry {mt:List Int} {s:IM}:∀(o:List PtM) {V W:VM},xB V W→G8 (ye mt o s V) (ye mt o s W):=by
 intro o
 induction o with
 |nil=>intro V W h;exact⟨rfl,rfl,rfl,rfl,h⟩
 |cons p o ih=>
  intro V W h;unfold ye;rw[← h.drop.1]
  split
  ·split
   ·exact h.drop.2.begin_ ..
   ·exact ih h.drop.2
  ·exact⟨rfl,rfl,rfl,rfl,h.drop.2⟩
theorem xB.turn {V W:VM} (h:xB V W) (mt:List Int) (s:IM) (op:Int):G8 (gn mt s V op) (gn mt s W op):=by
 unfold gn
 split
 ·exact h.begin_ ..
 ·split
  ·exact⟨h.keep.1,rfl,rfl,rfl,h.keep.2⟩
  ·split
   ·exact⟨h.keep.1,rfl,rfl,rfl,h.keep.2⟩
   ·split
    ·exact⟨h.drop.1,rfl,rfl,rfl,h.drop.2⟩
    ·exact xB.retry _ h
theorem xB.touch {V W:VM} (h:xB V W) (s:IM) (x:qO):(jM s V x).1=11∨((jM s V x).1=(jM s W x).1∧(jM s V x).2.1=(jM s W x).2.1∧xB (jM s V x).2.2 (jM s W x).2.2):=by
 unfold jM
 split
 ·split
  ·rcases h.read (yE (qM s.regs x.2.2.1) x.2.2.2.1).1 with e |⟨e,h2⟩
   ·rw[e];exact .inl rfl
   ·rw[← e]
    split
    ·exact .inr ⟨rfl,rfl,h2⟩
    ·exact .inr ⟨rfl,rfl,h2⟩
  ·exact .inr ⟨rfl,rfl,h⟩
 ·split
  ·split
   ·have ht:=h.take [((yE (qM s.regs x.2.1) x.2.2.2.1).1,qM s.regs x.2.2.1)];exact .inr ⟨ht.1,rfl,ht.2⟩
   ·exact .inr ⟨rfl,rfl,h⟩
  ·split
   ·split
    ·exact .inr ⟨rfl,rfl,h⟩
    ·rcases h.alloc (qM s.regs x.2.2.1)with e |⟨e,h2⟩
     ·rw[e];exact .inl rfl
     ·rw[← e]
      split
      ·exact .inr ⟨rfl,rfl,h2⟩
      ·exact .inr ⟨rfl,rfl,h2⟩
   ·split
    ·exact .inr ⟨rfl,rfl,h⟩
    ·rcases h.free (qM s.regs x.2.1)with e |⟨e,h2⟩
     ·exact .inl e
     ·exact .inr ⟨e,rfl,h2⟩
theorem yy {c:Prop} [Decidable c] {a b a' b':SM} (ha:a.e=11∨G8 a a') (hb:b.e=11∨G8 b b'):(if c then a else b).e=11∨G8 (if c then a else b) (if c then a' else b'):=by
 split
 ·exact ha
 ·exact hb
theorem xB.do_ {V W:VM} (h:xB V W) (mt:List Int) (s:IM) (x:qO):(doM mt s V x).e=11∨G8 (doM mt s V x) (doM mt s W x):=by
 have sm:∀(e nx:Int) (b:Bool) (s':IM),(⟨e,nx,b,s',V⟩:SM).e=11∨G8 ⟨e,nx,b,s',V⟩ ⟨e,nx,b,s',W⟩:=λe nx b s'=>.inr ⟨rfl,rfl,rfl,rfl,h⟩;unfold doM;refine yy (sm ..) (yy (sm ..) (yy (sm ..) (yy (sm ..) (yy (sm ..) (yy (sm ..) (yy (sm ..) (yy (sm ..) (yy (sm ..) (yy (yy (sm ..) (sm ..)) (yy (sm ..) (yy ?_ (.inr (h.turn ..)))))))))))));rcases h.touch s x with e |⟨e1,e2,h2⟩
 ·exact .inl e
 ·exact .inr ⟨e1,rfl,rfl,e2,h2⟩
end
section
theorem Nu {p v:Int} {l:List Cl} {c:Cl} (h:c∈yi p v l):c=(p,v)∨c∈l:=by
 induction l with
 |nil=>exact .inl (List.mem_singleton.1 h)
 |cons d l ih=>
  unfold yi at h
  split at h
  ·rename_i hd;rcases List.mem_cons.1 h with rfl |h
   ·exact .inl rfl
   ·exact .inr (iX _ h)
  ·rcases List.mem_cons.1 h with rfl |h
   ·exact .inr (iK ..)
   ·rcases ih h with h |h
    ·exact .inl h
    ·exact .inr (iX _ h)
theorem OJ {cs:List Cl}:∀{l:List Cl} {c:Cl},c∈yb l cs→c∈cs∨c∈l:=by
 induction cs with
 |nil=>intro l c h;exact .inr h
 |cons d r ih=>
  intro l c h;rcases ih (l:=yi d.1 d.2 l) h with h |h
  ·exact .inl (iX _ h)
  ·rcases Nu h with h |h
   ·exact .inl (by rw[h];exact iK ..)
   ·exact .inr h
theorem qVE:∀{lv:List LvM} {out:List Cl} {c:Cl},c∈lv.foldl (λout x=>yb x.1 out) out→c∈out∨∃x∈lv,c∈x.1:=by
 intro lv
 induction lv with
 |nil=>intro out c h;exact .inl h
 |cons x r ih=>
  intro out c h;rcases ih h with h |⟨y,hy,h⟩
  ·rcases OJ h with h |h
   ·exact .inl h
   ·exact .inr ⟨x,iK ..,h⟩
  ·exact .inr ⟨y,iX _ hy,h⟩
theorem U3 {lv:List LvM} {c:Cl} (h:c∈jn lv):∃x∈lv,c∈x.1:=by
 rcases qVE h with h |h
 ·cases h
 ·exact h
theorem qKM {lv:List LvM} (h:∀x∈lv,∀c∈x.1,0≤c.2∧c.2<18446744073709551616):∀c∈jn lv,0≤c.2∧c.2<18446744073709551616:=λc hc=>by
 obtain⟨x,hx,h1⟩:=U3 hc;exact h x hx c h1
def InL (n:Nat) (lv:List LvM):Prop:=∀x∈lv,∀c∈x.1,1≤c.1∧c.1<n
theorem qjD {n most:Nat} {lv:List LvM} {p v:Int} (h:InL n lv) (hp:1≤p∧p<n):InL n (gX most lv p v).2:=by
 unfold gX;cases lv with
 |nil=>exact h
 |cons x r=>
  dsimp only
  split
  ·exact h
  ·split
   ·exact h
   ·intro y hy c hc;rcases List.mem_cons.1 hy with rfl |hy
    ·rcases Nu hc with rfl |hc
     ·exact hp
     ·exact h x (iK ..) c hc
    ·exact h y (iX _ hy) c hc
theorem qKh {n most:Nat} {was:List LvM} (hw:InL n was):∀{cs:List Cl} {lv:List LvM},InL n lv→(∀c∈cs,1≤c.1∧c.1<n)→InL n (vT most was lv cs).2:=by
 intro cs
 induction cs with
 |nil=>intro lv h _;exact h
 |cons c cs ih=>
  intro lv h hc;rw[gK]
  split
  ·exact ih (qjD h (hc c (iK ..))) λd hd=>hc d (iX _ hd)
  ·exact hw
def InV (V:VM):Prop:=InL V.sz V.lv
theorem InV.read {V:VM} (h:InV V) (p:Int):InV (qf V p).2:=by
 unfold qf
 repeat' split
 all_goals exact h
theorem InV.take {V:VM} (h:InV V) (cs:List Cl):InV (ju V cs).2:=by
 unfold ju
 split
 ·rename_i hc;exact qKh h h hc
 ·exact h
theorem InV.ask {V:VM} (h:InV V) (b:Int):InV (ji V b).2:=by
 unfold ji
 repeat' split
 all_goals first |exact h |exact h.read _
theorem InV.again {V:VM} (h:InV V) (c b:Int):InV (xi V c b).2:=by
 unfold xi
 repeat' split
 all_goals first |exact h |exact h.read _ |exact(h.read _).take _
theorem InV.grown {V:VM} (h:InV V) (c:Int):InV (xe V c).2:=by
 unfold xe
 repeat' split
 all_goals first |exact h |exact h.read _ |exact(h.read _).take _
theorem InV.alloc {V:VM} (h:InV V) (n:Int):InV (zd V n).2:=by
 unfold zd
 repeat' split
 all_goals first |exact h |exact h.read _ |exact(h.read _).grown _ |exact(h.read _).again _ _
theorem InV.freed {V:VM} (h:InV V) (b:Int):InV (freeV V b):=by
 intro x hx c hc;have hx:x∈Je V.lv b:=hx;unfold Je at hx;cases hl:V.lv with
 |nil=>rw[hl]at hx;cases hx
 |cons y r=>
  rw[hl]at hx;rcases List.mem_cons.1 hx with rfl |hx
  ·exact h y (by rw[hl];exact iK ..) c hc
  ·exact h x (by rw[hl];exact iX _ hx) c hc
theorem InV.free {V:VM} (h:InV V) (b:Int):InV (vO V b).2:=by
 unfold vO
 repeat' split
 all_goals first |exact(((h.ask _).take _).freed _) |exact(h.ask _).take _ |exact h.ask _
theorem InV.give {V:VM} (h:InV V) (b:Int):InV (xw V b).2:=by
 unfold xw
 repeat' split
 all_goals first |exact((h.ask _).read _).take _ |exact(h.ask _).read _ |exact h.ask _
theorem InV.open' {V:VM} (h:InV V):InV (yp V).2:=by
 unfold yp kr
 split
 ·exact h
 ·intro x hx c hc;rcases List.mem_cons.1 hx with rfl |hx
  ·cases hc
  ·exact h x hx c hc
theorem InV.drop {V:VM} (h:InV V):InV (xx V).2:=by
 unfold xx ko
 split
 ·exact h
 ·intro x hx c hc;exact h x (List.mem_of_mem_tail hx) c hc
theorem InV.keep {V:VM} (h:InV V):InV (vF V).2:=by
 intro x hx c hc;have hx:x∈(Qh V.lv).2:=hx;unfold Qh at hx
 split at hx
 ·rename_i a b r hl;rcases List.mem_cons.1 hx with rfl |hx
  ·rcases OJ hc with hc |hc
   ·exact h a (by rw[hl];exact iK ..) c hc
   ·exact h b (by rw[hl];exact iX _ (iK ..)) c hc
  ·exact h x (by rw[hl];exact iX _ (iX _ hx)) c hc
 ·exact h x hx c hc
theorem InV.begin_ {V:VM} (h:InV V) {op a nx:Int} {s:IM}:InV (zW op a nx s V).v:=by
 unfold zW
 split<;>exact h.open'
theorem InV.retry {mt:List Int} {s:IM}:∀(o:List PtM) {V:VM},InV V→InV (ye mt o s V).v:=by
 intro o
 induction o with
 |nil=>intro V h;exact h
 |cons p o ih=>
  intro V h;unfold ye
  split
  ·split
   ·exact(InV.begin_ h.drop)
   ·exact ih h.drop
  ·exact h.drop
theorem InV.turn {V:VM} (h:InV V) (mt:List Int) (s:IM) (op:Int):InV (gn mt s V op).v:=by
 unfold gn
 split
 ·exact InV.begin_ h
 ·split
  ·exact h.keep
  ·split
   ·exact h.keep
   ·split
    ·exact h.drop
    ·exact InV.retry _ h
theorem InV.touch {V:VM} (h:InV V) (s:IM) (x:qO):InV (jM s V x).2.2:=by
 unfold jM
 split
 ·split
  ·split<;>exact h.read _
  ·exact h
 ·split
  ·split
   ·exact h.take _
   ·exact h
  ·split
   ·split
    ·exact h
    ·split<;>exact h.alloc _
   ·split
    ·exact h
    ·exact h.free _
theorem qvO {c:Prop} [Decidable c] {a b:SM} (ha:InV a.v) (hb:InV b.v):InV (if c then a else b).v:=by
 split
 ·exact ha
 ·exact hb
theorem InV.do_ {V:VM} (h:InV V) (mt:List Int) (s:IM) (x:qO):InV (doM mt s V x).v:=by
 have ht:=h.touch s x;have hu:=h.turn mt s x.1;unfold doM;generalize jM s V x=T at*;generalize gn mt s V x.1=U at*
 repeat' (first |exact h |exact ht |exact hu |apply qvO)
theorem InV.run {l:List qO} {mt:List Int}:∀(n:Nat) {s:IM} {V:VM},InV V→InV (jf l mt n s V).v:=by
 intro n
 induction n with
 |zero=>intro s V h;rw[kH];split<;>exact h
 |succ n ih=>
  intro s V h;have hd:=h.do_ mt s (qL l s.pc);rw[QW];generalize doM mt s V (qL l s.pc)=D at*
  split
  ·exact h
  ·split
   ·split
    ·exact hd
    ·exact ih hd
   ·split<;>exact hd
theorem InV.gives:∀(bs:List Int) (k:Nat) {V:VM},InV V→InV (zf V bs k).2:=by
 intro bs
 induction bs with
 |nil=>intro k V h;exact h
 |cons b r ih=>
  intro k V h;unfold zf
  split
  ·exact ih _ (h.give b)
  ·exact h.give b
end
section
abbrev U64 (z:Int):Prop:=0≤z∧z<18446744073709551616
structure qQD (M:zJ):Prop where
  w:∀z∈M.w,U64 z
  n:U64 M.n
  s:∀z∈M.s,U64 z
theorem qZR {l:List Int} (h:∀z∈l,U64 z) (i:Int):U64 (qM l i):=by
 unfold qM;cases hi:l[i.toNat]? with
 |none=>exact⟨Int.le_refl _,by show(0:Int)<_;decide⟩
 |some z=>exact h z (List.mem_of_getElem? hi)
theorem Na {l:List Int} (h:∀z∈l,U64 z) {i:Nat} {w:Int} (hw:U64 w):∀z∈l.set i w,U64 z:=λz hz=>by
 rcases List.mem_or_eq_of_mem_set hz with hz |rfl
 ·exact h z hz
 ·exact hw
theorem Y6 {M:zJ} {o:OpM} (R:qQD M) (ho:U64 o.word):vW (jg M o).1∧qQD (jg M o).2:=by
 have z0:U64 (0:Int):=⟨Int.le_refl _,by decide⟩;have key:vW (yc M o).1∧qQD (yc M o).2:=by
  unfold yc
  split
  ·unfold UF
   split
   ·exact⟨z0,R⟩
   ·split
    ·exact⟨qZR R.w _,R⟩
    ·exact⟨z0,⟨Na R.w ho,R.n,R.s⟩⟩
  ·split
   ·unfold Y1
    repeat' split
    all_goals exact⟨z0,⟨R.w,R.n,R.s⟩⟩
   ·split
    ·unfold Jy
     split
     ·exact⟨R.n,R⟩
     ·repeat' split
      all_goals first |exact⟨z0,R⟩ |exact⟨z0,⟨R.w,ho,R.s⟩⟩
    ·split
     ·unfold Zj
      split
      ·exact⟨z0,R⟩
      ·split
       ·exact⟨qZR R.s _,R⟩
       ·exact⟨z0,⟨R.w,R.n,Na R.s ho⟩⟩
     ·exact⟨z0,R⟩
 rw[wM]
 split
 ·exact⟨key.1,⟨key.2.w,key.2.n,key.2.s⟩⟩
 ·exact key
theorem MX {M:zJ} {o:OpM}:(jg M o).2.cnt≤M.cnt+1∧M.cnt≤(jg M o).2.cnt:=by
 have h:=ZN (M:=M) (o:=o);rw[wM]
 split
 ·show(yc M o).2.cnt+1≤_∧_≤(yc M o).2.cnt+1;omega
 ·omega
theorem XT {c:zX} {f e y:Int}:(vt c f e y).cells=c.cells:=by unfold vt yR;dsimp only;split<;>rfl
theorem VB {c:zX} {l:LkM}:(gH c l).cells=c.cells:=by 
 unfold gH
 split
 ·rfl
 ·exact XT
theorem MD {c:zX}:(ym c).cells=c.cells:=by unfold ym;split<;>rfl
theorem U9 {c:zX}:(zG c).cells=c.cells:=by 
 unfold zG
 split
 ·exact MD
 ·rfl
theorem Yy {c:zX}:(vX c).cells=c.cells:=U9
theorem G9:∀(n:Nat) (c:zX),(yz c n).cells=c.cells:=by
 intro n
 induction n with
 |zero=>intro c;exact Yy
 |succ n ih=>
  intro c;unfold yz
  split
  ·split
   ·rfl
   ·split
    ·exact XT
    ·exact ih _
  ·exact Yy
theorem qKE {c:zX} {a:AnM}:(jo c a).cells=c.cells:=by
 unfold jo
 split
 ·rfl
 ·split
  ·unfold wI
   split
   ·exact VB
   ·split
    ·rfl
    ·split
     ·rfl
     ·rfl
  ·split
   ·unfold vR
    split
    ·exact XT
    ·split
     ·rfl
     ·split
      ·rfl
      ·split
       ·exact Yy
       ·exact G9 _ _
   ·split
    ·unfold yd
     split
     ·exact VB
     ·split
      ·exact XT
      ·exact G9 _ _
    ·split
     ·exact U9
     ·split
      ·exact MD
      ·unfold yR
       split<;>rfl
def Xu (x:jY):Prop:=∀c,x.c=some c→∀q∈c.cells,U64 q.2
theorem qVs {x:jY} {k e:Int} (G:jC x.v) (W:Xu x):Xu (kg x k e):=by
 unfold kg
 split
 ·exact W
 ·split
  ·exact W
  ·split
   ·exact W
   ·split
    ·exact W
    ·intro c hc;cases hc;exact qKM G.wd.l
theorem Vt {x:jY} (B:ku x) (hj:JobOk True x.v x.job) (W:Xu x):Xu (wE x):=by have D:=KF B.good B.fr hj;refine qVs D.good ?_;intro c hc;rw[D.same.2.2.2.2]at hc;exact W c hc
theorem qVl {x:jY} {a:AnM} (O:zT x) (W:Xu x) (ha:vW a):Xu (zV x a):=by
 have hst:=O.st;have stamped:∀{y:jY},Xu y→Xu (zN y):=λ{y} h=>by
  unfold zN
  split
  ·split<;>exact h
  ·exact h
 have told:∀{y:jY},zT y→3≤y.state→y.state≤6→Xu y→Xu (vu y):=λ{y} O h3 h6 W=>by
  refine stamped ?_;show Xu (if(yO y).1=0 then y else if(yO y).1=5 then yF y 5 0 (yO y).2 else yg y)
  split
  ·exact W
  ·split
   ·exact W
   ·unfold yg
    split
    ·rename_i hs;have hw:=XD (O.f hs).2;unfold xP
     split
     ·exact W
     ·split
      ·have hj:=(O.job.same λ_=>by omega:JobOk True y.v y.job).know (p:=y.v.need) hw;refine Vt ⟨O.set,XK O.good hw,by show((yC y.v y.v.need (xn y.f)).2.sz:Int)=y.set.words;rw[kZ.2];exact O.sz,by show frS (yC y.v y.v.need (xn y.f)).2.lv<9000;rw[kZ.1];exact O.fr,Y0 O.r,hj.same λh=>h.elim,O.c⟩ hj W
      ·split<;>exact W
    ·split
     ·exact W
     ·split
      ·exact W
      ·split<;>exact W
 unfold zV
 split
 ·exact W
 ·split
  ·exact W
  ·split
   ·exact W
   ·split
    ·exact W
    ·split
     ·exact Vt O.b (O.job.same λ_=>by omega) W
     ·split
      ·exact W
      ·split
       ·rename_i hs;have hf:=O.f hs;refine told (y:={ x with f:=z6 x.f a }) ?_ (by show 3≤x.state;omega) (by show x.state≤6;omega) W;exact⟨O.set,O.good,O.sz,O.fr,O.r,O.job,O.st,λ_=>⟨Yq hf.1,XS hf.2 ha⟩,O.need,O.e,O.c,O.c0,O.c6⟩
       ·split
        ·rename_i hs;refine told (y:={ x with c:=x.c.map λc=>jo c a }) ?_ (by show 3≤x.state;omega) (by show x.state≤6;omega) ?_
         ·refine⟨O.set,O.good,O.sz,O.fr,O.r,O.job,O.st,O.f,O.need,O.e,λc h=>?_,λh=>absurd h (by show¬x.state≤5;omega),λh hn=>O.c6 h ?_⟩
          ·obtain⟨c',h1,rfl⟩:=Option.map_eq_some_iff.1 h;exact xL (O.c c' h1) ha
          ·exact Option.map_eq_none_iff.1 hn
         ·intro c h;obtain⟨c',h1,rfl⟩:=Option.map_eq_some_iff.1 h;rw[qKE];exact W c' h1
        ·refine told (y:={ x with e:=gd x.e a }) ?_ (by show 3≤x.state;omega) (by show x.state≤6;omega) W;exact⟨O.set,O.good,O.sz,O.fr,O.r,O.job,O.st,O.f,O.need,λh1 h2=>Yg (O.e h1 h2),O.c,O.c0,O.c6⟩
theorem qV5 {x:jY} {o:OpM} (O:zT x) (W:Xu x) (h:yG x=some o):U64 o.word:=by
 have z0:U64 (0:Int):=⟨Int.le_refl _,by decide⟩;unfold yG at h
 split at h
 ·cases h;exact⟨by show(0:Int)≤1;decide,by show(1:Int)<_;decide⟩
 ·split at h
  ·cases h;exact z0
  ·split at h
   ·cases h;exact qZ6 _
   ·split at h
    ·cases h;exact z0
    ·split at h
     ·cases h
     ·split at h
      ·unfold Y3 at h
       split at h
       ·cases h
       ·split at h<;>(cases h;exact z0)
      ·split at h
       ·rename_i h6;cases hc:x.c with
        |none=>rw[hc]at h;cases h
        |some c=>
         rw[hc]at h;have hn:=(O.c c hc).now;have h:vm c=some o:=h;unfold vm at h
         split at h
         ·cases h
         ·split at h
          ·cases h;exact z0
          ·split at h
           ·cases h;exact z0
           ·split at h
            ·cases h;exact z0
            ·split at h
             ·cases h;exact⟨by show 0≤c.now+1;omega,by show c.now+1<_;omega⟩
             ·split at h
              ·cases h;exact z0
              ·split at h
               ·cases h;show U64 (yf c.cells c.at_).2;unfold yf;cases hi:c.cells[c.at_.toNat]? with
                |none=>exact z0
                |some q=>exact W c hc q (List.mem_of_getElem? hi)
               ·split at h<;>(cases h;exact z0)
       ·unfold Y9 at h
        split at h
        ·cases h
        ·split at h<;>(cases h;exact z0)
theorem qji {me:Int} {S:zr} {j:Yx}:Xu (qJA me S j):=λc h=>by cases h
end
section
inductive Stp:Nat→jY→zJ→jY→zJ→Prop
  |nil {x:jY} {M:zJ}:Stp 0 x M x M
  |cons {k:Nat} {x y:jY} {M N:zJ} {o:OpM} (hn:yG x=some o) (r:Stp k (zV x (jg M o).1) (jg M o).2 y N):Stp (k+1) x M y N
theorem Stp.trans {a b:Nat} {x y z:jY} {M N O:zJ} (s:Stp a x M y N) (t:Stp b y N z O):Stp (a+b) x M z O:=by
 induction s with
 |nil=>rw[Nat.zero_add];exact t
 |cons hn _ ih=>rw[Nat.add_right_comm];exact .cons hn (ih t)
theorem Stp.one {x y:jY} {M N:zJ} {o:OpM} (hn:yG x=some o) (e:jg M o=(⟨0,lk0,false,0⟩,N)) (h:zV x ⟨0,lk0,false,0⟩=y):Stp 1 x M y N:=by refine .cons hn ?_;rw[e];dsimp only;rw[h];exact .nil
theorem Stp.step {x y:jY} {M N:zJ} {o:OpM} {a:AnM} (hn:yG x=some o) (e:jg M o=(a,N)) (h:zV x a=y):Stp 1 x M y N:=by refine .cons hn ?_;rw[e];dsimp only;rw[h];exact .nil
def bump (M:zJ) (k:Int):zJ:={ M with cnt:=M.cnt+k }
structure Kl (S:zr) (M:zJ) (me:Int):Prop where
  w:(M.w.length:Int)=S.words
  l:(M.l.length:Int)=S.stripes
  s:(M.s.length:Int)=S.threads
  me:0≤me∧me<S.threads
  lk:∀i:Nat,i<M.l.length→∃v:Int,jF M.l i=(v,false,0)∧0≤v∧v≤M.n
  n:0≤M.n∧M.n<4611686018427387902
  wd:∀z∈M.w,0≤z∧z<18446744073709551616
section
variable {S:zr} {M:zJ} {me:Int}
theorem Kl.bump (C:Kl S M me) (k:Int):Kl S (bump M k) me:=⟨C.w,C.l,C.s,C.me,C.lk,C.n,C.wd⟩
theorem Kl.at (C:Kl S M me) {s:Int} (h:0≤s∧s<S.stripes):∃v:Int,jF M.l s=(v,false,0)∧0≤v∧v≤M.n:=by have hl:=C.l;obtain⟨k,rfl⟩:∃k:Nat,s=k:=⟨s.toNat,by omega⟩;exact C.lk k omQ
theorem qG4 {S:zr} (O:xd S) {p:Int} (hp:0≤p):0≤ofM p S.stripes S.wide∧ofM p S.stripes S.wide<S.stripes:=by have h:=O.stripes;unfold ofM;rw[iQ omQ,show max 1 (min S.stripes 16)=S.stripes by omega];exact⟨Int.emod_nonneg _ omQ,Int.emod_lt_of_pos _ omQ⟩
structure UG (S:zr) (M:zJ) (r:List xG):Prop where
  at_:∀y∈r,0≤y.1∧y.1<S.stripes∧y.2=(jF M.l y.1).1
  un:(r.map (·.1)).Nodup
theorem UG.len {r:List xG} (O:xd S) (R:UG S M r):r.length≤16:=by
 have:=KP 16 (r.map (·.1)) R.un (λx hx=>by
  obtain⟨y,hy,rfl⟩:=List.mem_map.1 hx;have h1:=R.at_ y hy;have h2:=O.stripes
  omega)
 simpa using this
theorem UG.add {r:List xG} (O:xd S) (C:Kl S M me) (R:UG S M r) {s:Int} (hs:0≤s∧s<S.stripes):(kz r (s,(jF M.l s).1)).1=0∧UG S M (kz r (s,(jF M.l s).1)).2:=by
 obtain⟨v,e,h0,h1⟩:=C.at hs;have hst:=O.stripes;have hn:=C.n;unfold kz;rw[iQ (by rw[e];dsimp only;omega)];cases hf:r.find? λy=>decide (y.1=(s,(jF M.l s).1).1)with
 |some y=>
  dsimp only;have hy:=List.find?_some hf;have hm:=List.mem_of_find?_eq_some hf;have h2:=R.at_ y hm;have hys:y.1=s:=by simpa using hy
  rw[iQ (by rw[h2.2.2,hys];exact λh=>h rfl)];exact⟨rfl,R⟩
 |none=>
  dsimp only;have hno:∀y∈r,y.1≠s:=λy hy h=>by
   have:=List.find?_eq_none.1 hf y hy;simp[h]at this
  have hnd:(s::r.map (·.1)).Nodup:=List.nodup_cons.2 ⟨λh=>by obtain⟨y,hy,h2⟩:=List.mem_map.1 h;exact hno y hy h2,R.un⟩
  have hl:=KP 16 _ hnd (λx hx=>by
   rcases List.mem_cons.1 hx with rfl |hx
   ·omega
   ·obtain⟨y,hy,rfl⟩:=List.mem_map.1 hx;have h1:=R.at_ y hy
    omega)
  simp at hl;rw[iQ omQ];refine⟨rfl,λy hy=>?_,?_⟩
  ·rcases List.mem_append.1 hy with hy |hy
   ·exact R.at_ y hy
   ·rw[List.mem_singleton]at hy;subst hy;exact⟨hs.1,hs.2,rfl⟩
  ·show((r++[(s,(jF M.l s).1)]).map (·.1)).Nodup;rw[List.map_append,List.nodup_append];refine⟨R.un,List.nodup_cons.2 ⟨λh=>(by cases h),List.nodup_nil⟩,λa ha b hb=>?_⟩;obtain⟨y,hy,rfl⟩:=List.mem_map.1 ha;rw[List.map_singleton,List.mem_singleton]at hb;subst hb;exact hno y hy
end
end
section
theorem XQ {l t:List qO} {j:Nat} (h:j<l.length):qL (l++t) (j:Int)=qL l (j:Int):=by unfold qL;rw[Int.toNat_natCast,List.getElem?_append_left h]
theorem Q3 {l t:List qO} {k:Nat} {x:qO} (h:t[k]? =some x):qL (l++t) ((l.length+k:Nat):Int)=x:=by unfold qL;rw[Int.toNat_natCast,List.getElem?_append_right omQ,show l.length+k-l.length=k by omega,h];rfl
theorem wX {l t:List qO}:∀i,i≤l.length→qD (l++t) i=qD l i:=by
 intro i
 induction i with
 |zero=>intro _;rfl
 |succ i ih=>intro h;rw[jG,jG,ih omQ,XQ omQ]
theorem qzc {l t:List qO} {st:List Int} (h:StOk l.length st):opM (l++t) st=opM l st:=by
 unfold opM;by_cases h0:st=[]
 ·rw[iJ h0,iJ h0]
 ·rw[iQ h0,iQ h0];have hb:=h.inmost h0;obtain⟨p,hp⟩:∃p:Nat,qs st=p:=⟨(qs st).toNat,by omega⟩;rw[hp,XQ omQ]
theorem Vy {l t:List qO} {st:List Int} {x:qO} (h:StOk l.length st):zB (l++t) st x=zB l st x:=by unfold zB;rw[qzc h]
theorem StOk.mono {i j:Nat} {st:List Int} (h:StOk i st) (hij:i≤j):StOk j st:=λy hy=>by have:=h y hy;omega
def qqR (l:List qO) (calm:Bool) (j:Nat) (x:qO):Prop:=(x.1=12∨x.1=13)→∃c:Nat,x.2.2.2.1=c∧c≤l.length∧qD l c=qD l j∧(calm=true→j<c)
structure Y2 (calm:Bool) (x:qO):Prop where
  may:ve x=true
  no:x.1≠23
  n:0≤x.2.2.2.2∧x.2.2.2.2<18446744073709551616
  cal:calm=true→x.1≠20∧x.1≠22∧x.1≠12
structure Bld (calm:Bool) (l:List qO) (st:List Int):Prop where
  ok:∀x∈l,Y2 calm x
  wr:∀j,j<l.length→zB l (qD l j) (qL l j)=0
  top:qD l l.length=st
  jp:∀j,j<l.length→qqR l calm j (qL l j)
  five:st.length≤5
def jN (l:List qO) (st:List Int):List Int:=st.map λp=>(qL l p).1
theorem XR {l t:List qO} {st:List Int} (h:StOk l.length st):jN (l++t) st=jN l st:=by unfold jN;refine List.map_congr_left λp hp=>?_;have:=h p hp;obtain⟨q,rfl⟩:∃q:Nat,p=q:=⟨p.toNat,by omega⟩;rw[XQ omQ]
theorem Bld.stok {calm:Bool} {l:List qO} {st:List Int} (B:Bld calm l st):StOk l.length st:=by rw[← B.top];exact(KZ l.length).1
theorem Bld.nil (calm:Bool):Bld calm [] []:=⟨λx hx=>(by cases hx),λj hj=>(by simp at hj),rfl,λj hj=>(by simp at hj),osQ⟩
theorem Bld.ext {calm:Bool} {l t:List qO} {st:List Int} (B:Bld calm l st) (h1:∀x∈t,Y2 calm x) (h2:∀k,k<t.length→zB (l++t) (qD (l++t) (l.length+k)) (qL (l++t) ((l.length+k:Nat):Int))=0)
  (h3:∀k,k<t.length→qqR (l++t) calm (l.length+k) (qL (l++t) ((l.length+k:Nat):Int))) (h5:(qD (l++t) (l++t).length).length≤5):Bld calm (l++t) (qD (l++t) (l++t).length):=by
 refine⟨?_,?_,rfl,?_,h5⟩
 ·intro x hx;rcases List.mem_append.1 hx with hx |hx
  ·exact B.ok x hx
  ·exact h1 x hx
 ·intro j hj;by_cases hjl:j<l.length
  ·rw[wX j omQ,XQ hjl,Vy ((KZ j).1.mono omQ)];exact B.wr j hjl
  ·have:=h2 (j-l.length) (by simp at hj;omega)
   rwa [show l.length+(j-l.length)=j by omega]at this
 ·intro j hj;by_cases hjl:j<l.length
  ·intro ho;rw[XQ hjl]at ho ⊢;obtain⟨c,c1,c2,c3,c4⟩:=B.jp j hjl ho;exact⟨c,c1,by simp;omega,by rw[wX c c2,wX j omQ];exact c3,c4⟩
  ·have:=h3 (j-l.length) (by simp at hj;omega)
   rwa [show l.length+(j-l.length)=j by omega]at this
theorem qVS {l:List qO} {x:qO}:qD (l++[x]) (l.length+1)=q9 (qD l l.length) l.length x.1:=by have e:=Q3 (l:=l) (t:=[x]) (k:=0) (x:=x) rfl;rw[Nat.add_zero]at e;rw[jG,wX _ (Nat.le_refl _),e]
theorem Bld.app {calm:Bool} {l:List qO} {st:List Int} (B:Bld calm l st) {x:qO} (h1:Y2 calm x) (h2:zB l st x=0) (h3:x.1≠12∧x.1≠13) (h5:(q9 st l.length x.1).length≤5):Bld calm (l++[x]) (q9 st l.length x.1):=by
 have e:=Q3 (l:=l) (t:=[x]) (k:=0) (x:=x) rfl;rw[Nat.add_zero]at e;have hs:qD (l++[x]) (l++[x]).length=q9 st l.length x.1:=by rw[List.length_append,List.length_singleton,qVS,B.top]
 rw[← hs]at h5 ⊢;refine B.ext (by intro y hy;rw[List.mem_singleton]at hy;subst hy;exact h1) ?_ ?_ h5
 ·intro k hk;obtain rfl:k=0:=by simpa using hk
  rw[Nat.add_zero,e,wX _ (Nat.le_refl _),B.top,Vy B.stok];exact h2
 ·intro k hk;obtain rfl:k=0:=by simpa using hk
  rw[Nat.add_zero,e];intro ho;omega
def Flat (op:Int):Prop:=op≠14∧op≠15∧op≠16∧op≠17∧op≠18∧op≠19
theorem Flat.behind {op:Int} (h:Flat op) (st:List Int) (i:Int):q9 st i op=st:=by obtain⟨h1,h2,h3,h4,h5,h6⟩:=h;unfold q9;rw[iQ (by unfold zi;simp;omega),iQ (by unfold jb;rw[iQ h2,iQ h5,iQ h6];omega)]
theorem Flat.wrong {x:qO} (h:Flat x.1) (hm:ve x=true) (l:List qO) (st:List Int):zB l st x=0:=by
 obtain⟨h1,h2,h3,h4,h5,h6⟩:=h;unfold zB
 rw[iQ (by rw[hm];simp),iQ (λhh=>by have:=hh.1;unfold jb at this;rw[iQ h2,iQ h5,iQ h6]at this;omega),iQ (λhh=>h3 hh.1),
  iQ (λhh=>by have:=hh.1;unfold zi at this;simp at this;omega)]
theorem Bld.flat {calm:Bool} {l:List qO} {st:List Int} (B:Bld calm l st) {x:qO} (h1:Y2 calm x) (hf:Flat x.1) (h3:x.1≠12∧x.1≠13):Bld calm (l++[x]) st:=by
 have:=B.app h1 (hf.wrong h1.may l st) h3 (by rw[hf.behind];exact B.five)
 rwa [hf.behind]at this
theorem Bld.two {calm:Bool} {l:List qO} {st:List Int} (B:Bld calm l st) {x y:qO} (hx:Y2 calm x) (hy:Y2 calm y) (fx:Flat x.1) (fy:Flat y.1)
  (jx:(x.1=12∨x.1=13)→x.2.2.2.1=((l.length+2:Nat):Int)) (jy:(y.1=12∨y.1=13)→y.2.2.2.1=(l.length:Int)∧calm=false):Bld calm (l++[x,y]) st:=by
 have e0:=Q3 (l:=l) (t:=[x,y]) (k:=0) (x:=x) rfl;have e1:=Q3 (l:=l) (t:=[x,y]) (k:=1) (x:=y) rfl;rw[Nat.add_zero]at e0;have s0:qD (l++[x,y]) l.length=st:=by rw[wX _ (Nat.le_refl _),B.top]
 have s1:qD (l++[x,y]) (l.length+1)=st:=by rw[jG,s0,e0,fx.behind]
 have s2:qD (l++[x,y]) (l.length+2)=st:=by rw[show l.length+2=l.length+1+1 from rfl,jG,s1,e1,fy.behind]
 have hs:qD (l++[x,y]) (l++[x,y]).length=st:=by rw[List.length_append];exact s2
 have:=B.ext (t:=[x,y]) (by intro z hz;simp at hz;rcases hz with rfl |rfl;exact hx;exact hy) (λk hk=>by
  have hk:k=0∨k=1:=by simp at hk;omega
  rcases hk with rfl |rfl
  ·rw[Nat.add_zero,e0];exact fx.wrong hx.may _ _
  ·rw[e1];exact fy.wrong hy.may _ _) (λk hk=>by
  have hk:k=0∨k=1:=by simp at hk;omega
  rcases hk with rfl |rfl
  ·rw[Nat.add_zero,e0];intro ho;exact⟨l.length+2,jx ho,by simp,by rw[s2,s0],λ_=>by omega⟩
  ·rw[e1];intro ho;obtain⟨a,b⟩:=jy ho
   exact⟨l.length,a,by simp,by rw[s0,s1],λh=>by rw[b]at h;cases h⟩) (by rw[hs];exact B.five)
 rwa [hs]at this
abbrev one (op:Int):qO:=(op,0,0,0,0)
theorem qJL (calm:Bool) {op:Int} (h:op=14∨op=15∨op=16∨op=17∨op=18∨op=19):Y2 calm (one op):=by refine⟨?_,by dsimp only;omega,by dsimp only;omega,λ_=>by dsimp only;omega⟩;rcases h with rfl |rfl |rfl |rfl |rfl |rfl<;>decide
theorem Bld.begin {calm:Bool} {l:List qO} {st:List Int} (B:Bld calm l st) {op:Int} (h:op=14∨op=17) (h5:st.length<5):Bld calm (l++[one op]) (st++[(l.length:Int)])∧jN (l++[one op]) (st++[(l.length:Int)])=jN l st++[op]:=by
 have hb:q9 st l.length op=st++[(l.length:Int)]:=by unfold q9;rw[iJ (.inl (by unfold zi;exact iG h)),iQ (by rcases h with rfl |rfl<;>decide)]
 have hw:zB l st (one op)=0:=by unfold zB;rw[iQ (by rcases h with rfl |rfl<;>decide),iQ (λhh=>by have:=hh.1;rcases h with rfl |rfl<;>exact absurd this od),iQ (λhh=>by have:=hh.1;dsimp only at this;omega),iQ omQ]
 have:=B.app (x:=one op) (qJL calm omQ) hw (by dsimp only;omega) (by rw[hb];simp;omega);rw[hb]at this;refine⟨this,?_⟩;unfold jN;rw[List.map_append]
 congr 1
 ·exact XR B.stok
 ·have e:=Q3 (l:=l) (t:=[one op]) (k:=0) (x:=one op) rfl;rw[Nat.add_zero]at e;rw[List.map_singleton,e]
theorem Bld.undo {calm:Bool} {l:List qO} {st:List Int} (B:Bld calm l st) (h:opM l st=14):Bld calm (l++[one 16]) st:=by
 have hb:q9 st l.length 16=st:=by unfold q9;rw[iQ od,iQ od]
 have hw:zB l st (one 16)=0:=by unfold zB;rw[iQ od,iQ (λhh=>absurd hh.1 od),iQ (λhh=>hh.2 h),iQ (λhh=>absurd hh.1 od)]
 have:=B.app (x:=one 16) (qJL calm omQ) hw od (by rw[hb];exact B.five)
 rwa [hb]at this
def vN (o:Int):Int:=if o=14 then 15 else if o=17 then 18 else 19
def Qs (l:List qO) (st:List Int):List qO:=l++[one (vN (opM l st))]
def Xi (l:List qO) (st:List Int):List Int:=if opM l st=17 then st.dropLast++[(l.length:Int)]else st.dropLast
theorem Bld.shut {calm:Bool} {l:List qO} {st:List Int} (B:Bld calm l st) (hn:st≠[]) (ho:opM l st=14∨opM l st=17∨opM l st=18):Bld calm (Qs l st) (Xi l st)∧
  jN (Qs l st) (Xi l st)=(jN l st).dropLast++(if opM l st=17 then[18]else[]):=by
 have hs:jb (vN (opM l st))=opM l st:=by rcases ho with h |h |h<;>rw[h]<;>decide
 have hso:vN (opM l st)=15∨vN (opM l st)=18∨vN (opM l st)=19:=by
  unfold vN
  repeat' split
  all_goals omega
 have he:0<jb (vN (opM l st)):=by rw[hs];omega
 have hlen:=List.length_pos_iff.2 hn;have hb:q9 st l.length (vN (opM l st))=Xi l st:=by
  unfold q9 Xi;rw[iJ he];by_cases h17:opM l st=17
  ·rw[iJ h17,iJ (.inr (by rw[h17];decide))]
  ·rw[iQ h17,iQ];rcases ho with h |h |h
   ·rw[h];decide
   ·exact absurd h h17
   ·rw[h];decide
 have hw:zB l st (one (vN (opM l st)))=0:=by
  unfold zB
  rw[iQ (by rcases hso with h |h |h<;>rw[h]<;>decide),iQ (λhh=>hh.2 hs.symm),iQ (λhh=>by have:=hh.1;dsimp only at this;omega),iQ (λhh=>by
   have:=hh.1
   rcases hso with h |h |h<;>rw[h]at this<;>exact absurd this od)]
 have h5:=B.five;have:=B.app (x:=one (vN (opM l st))) (qJL calm omQ) hw (by dsimp only;omega) (by rw[hb];unfold Xi;split<;>simp<;>omega);rw[hb]at this;refine⟨this,?_⟩;unfold Qs Xi jN;have hd:(st.dropLast.map λp=>(qL (l++[one (vN (opM l st))]) p).1)=(jN l st).dropLast:=by have:=XR (t:=[one (vN (opM l st))]) B.stok.dropLast;unfold jN at this ⊢;rw[this,List.map_dropLast]
 split
 ·rename_i h17;have e:=Q3 (l:=l) (t:=[one (vN (opM l st))]) (k:=0) (x:=one (vN (opM l st))) rfl;rw[Nat.add_zero]at e;rw[List.map_append,hd,List.map_singleton,e,h17];rfl
 ·rw[hd,List.append_nil];rfl
theorem Z9 {l:List qO} {st:List Int} (hn:st≠[]):opM l st=(jN l st).getLast?.getD 0:=by unfold opM jN qs;rw[iQ hn,List.getLast?_map,List.getLast?_eq_some_getLast hn];rfl
theorem Bld.fit {calm:Bool} {l:List qO} (B:Bld calm l []) (h0:0<l.length) (h40:l.length≤40):zt l=(0,0):=by
 have key:∀d i,i+d=l.length→goM l (l.drop i) i (qD l i)=.inr []:=by
  intro d
  induction d with
  |zero=>
   intro i hi;obtain rfl:i=l.length:=by omega
   rw[List.drop_length,B.top];rfl
  |succ d ih=>
   intro i hi;have hlt:i<l.length:=by omega
   rw[Ys hlt];have hw:=B.wr i hlt;rw[xI hlt]at hw;rw[iJ hw];have:=ih (i+1) omQ;rw[jG,xI hlt]at this;exact this
 have hg:=key l.length 0 omQ;have hreg:∀j,j<l.length→(vI l 0 [])[j]? =some (qs (qD l j)):=λj hj=>by
  have:=VR (l:=l) l.length 0 omQ j omQ;rw[Nat.zero_add]at this;exact this
 have hnum:∀j:Nat,j<l.length→qM (vI l 0 []) (j:Int)=qs (qD l j):=λj hj=>by
  unfold qM;rw[Int.toNat_natCast,hreg j hj];rfl
 have hj:∀d i,i+d=l.length→Jd l (vI l 0 []) (l.drop i) i=(0,0):=by
  intro d
  induction d with
  |zero=>
   intro i hi;obtain rfl:i=l.length:=by omega
   rw[List.drop_length];rfl
  |succ d ih=>
   intro i hi;have hlt:i<l.length:=by omega
   rw[YJ hlt,iQ,ih (i+1) omQ];rintro⟨ho,hc⟩;have hB:=B.jp i hlt;rw[xI hlt]at hB;obtain⟨c,c1,c2,c3,_⟩:=hB ho;rw[c1]at hc;rcases hc with hc |⟨hc,hc2⟩ |⟨hc,hc2⟩
   ·omega
   ·have:c=l.length:=by omega
    subst this;rw[B.top]at c3;rw[hnum i hlt,← c3]at hc2;exact hc2 rfl
   ·rw[hnum c omQ,hnum i hlt,c3]at hc2;exact hc2 rfl
 unfold zt;rw[iQ omQ];have hg2:goM l l 0 []=.inr []:=hg;rw[hg2];dsimp only;rw[iJ rfl];exact hj l.length 0 omQ
end
section
variable {g h:AH} {L R:List SP}
def OkN (zs:List Int):Prop:=∀z∈zs,0≤z∧z<18446744073709551616
theorem OkN.set {zs:List Int} {i:Nat} {x:Int} (h:OkN zs) (hx:0≤x∧x<18446744073709551616):OkN (zs.set i x):=by
 intro z hz;rcases List.mem_or_eq_of_mem_set hz with h1 |rfl
 ·exact h z h1
 ·exact hx
theorem we {x lo hi:Int} (h:lo≤hi):lo≤jE x lo hi∧jE x lo hi≤hi:=by
 unfold jE;have:=JF x (show 0<hi-lo+1 by omega)
 split<;>omega
def OkZ (zs:List Int):Prop:=OkN zs∧zs[0]? =some 0
theorem OkZ.set {zs:List Int} {i:Nat} {x:Int} (h:OkZ zs) (hx:0≤x∧x<18446744073709551616) (hi:0<i):OkZ (zs.set i x):=⟨h.1.set hx,by rw[List.getElem?_set_ne omQ];exact h.2⟩
end
section
variable {g h:AH} {L R:List SP}
def zh (lv:AV) (l:List qO):SP:=qA 51 5 l.length lv (l.flatMap jX)
def Yw (ov:AV) (o:List Int):SP:=qA 3 1 o.length ov (o.map (.int .i64))
theorem XH {n:Nat} (hn:2≤n) {x:Int}:t_w n 53 [.int .i64 x] h λv h'=>v=.int .i64 (jE x 0 6)∧h'=h:=by
 refine t_e1 (S:=S53) rfl omQ λk hk=>?_;unfold S53;try simp only[iZ]
 refine qW (xJ omQ omQ omQ omQ) ?_;rintro _ _ ⟨rfl,rfl⟩;exact qq ⟨rfl,rfl⟩
theorem kw {l:List qO} {lv:AV} {t:List qO} {tv:AV} {K2:AV→AH→Go.Ae.R} {Q:AV→AH→Prop} {D':Nat→Prop} (H:HS g h (zh lv l::R)) (S:Sl D' h 5 t.length tv (t.flatMap jX)) (hl:l.length+t.length≤100000)
  (w:∀v' h',HS g h' (zh v' (l++t)::R)→wp (K2 v' h') Q):wp (zl h 51 5 lv tv K2) Q:=by
 refine jR H S omQ omQ (Gn t) λv' h' H'=>w v' h' ?_;unfold zh;rw[List.length_append,List.flatMap_append];exact H'
theorem qYB {a n:Int} (h:0≤a∧a≤7):ve (1,a,0,0,n)=true:=by simp[ve,jA,vU];omega
theorem may_2 {a b:Int} (h:0≤a∧a≤7) (h2:0≤b∧b≤7):ve (2,a,b,0,0)=true:=by simp[ve,jA,vU];omega
theorem may_3 {o a b c:Int} (ho:3≤o∧o≤7) (h:0≤a∧a≤7) (h2:0≤b∧b≤7) (h3:0≤c∧c≤7):ve (o,a,b,c,0)=true:=by
 rcases(show o=3∨o=4∨o=5∨o=6∨o=7 by omega)with rfl |rfl |rfl |rfl |rfl<;>(simp[ve,jA,vU];omega)
theorem Yc {o a b c:Int} (ho:o=8∨o=9) (h:0≤a∧a≤7) (h2:0≤b∧b≤7) (h3:0≤c∧c≤15):ve (o,a,b,c,0)=true:=by
 rcases ho with rfl |rfl<;>(simp[ve,jA,vU];omega)
theorem qYA {a b:Int} (h:0≤a∧a≤7) (h2:0≤b∧b≤7):ve (10,a,b,0,0)=true:=by simp[ve,jA,vU];omega
theorem qqi {o a:Int} (ho:o=11∨o=21) (h:0≤a∧a≤7):ve (o,a,0,0,0)=true:=by
 rcases ho with rfl |rfl<;>(simp[ve,jA,vU];omega)
theorem qWP {a c:Int} (h:0≤a∧a≤7) (h3:0≤c∧c≤40):ve (13,a,0,c,0)=true:=by simp[ve,jA,vU];omega
structure Ue (x:qO):Prop where
  flat:Flat x.1
  nj:x.1≠12∧x.1≠13
  ok:∀calm,Y2 calm x
theorem Ue.of {x:qO} (h1:ve x=true) (h2:(1≤x.1∧x.1≤11)∨x.1=21) (h3:0≤x.2.2.2.2∧x.2.2.2.2<18446744073709551616):Ue x :=
 ⟨⟨by omega,by omega,by omega,by omega,by omega,by omega⟩,by omega,λ_=>⟨h1,by omega,h3,λ_=>by omega⟩⟩
set_option maxHeartbeats 4000000 in
theorem X5 {n:Nat} (hn:3≤n) {kx:qO} (hN:0≤kx.2.2.2.2∧kx.2.2.2.2<18446744073709551616) (H:HS g h R) :
  t_w n 54 [.agg (jX kx)] h λr h'=>∃x,r=.agg (jX x)∧Ue x∧HS g h' R:=by
 refine t_e1 (S:=S54) rfl omQ λk hk=>?_;unfold S54;try simp only[iZ]
 refine qI H rfl λb0 h1 H1=>?_;refine qI H1 rfl λb2 h2 H2=>?_;have H2:HS g h2 (qk b2 [.int .i64 ((0:Nat):Int),.int .i64 ((0:Nat):Int),.int .i64 ((0:Nat):Int),.int .i64 ((0:Nat):Int),.int .u64 ((0:Nat):Int)]::qk b0 (jX kx)::R):=H2;clear H H1;refine qV ?_
 try dsimp only
 refine qQ (qX H2 (b:=b0) e_1 rfl ?_);refine qW (XH omQ) ?_;rintro _ _ ⟨rfl,rfl⟩;refine qQ (qX H2 (b:=b0) e_1 rfl ?_);refine qW (XH omQ) ?_;rintro _ _ ⟨rfl,rfl⟩;refine qQ (qX H2 (b:=b0) e_1 rfl ?_);refine qW (XH omQ) ?_;rintro _ _ ⟨rfl,rfl⟩;refine qU H2 (b:=b0) e_1 rfl H2 e_1 rfl (HS.lt H2 e_1) ?_;refine qU H2 (b:=b0) e_1 rfl H2 e_1 rfl (HS.lt H2 e_1) ?_;refine qU H2 (b:=b0) e_1 rfl H2 e_1 rfl (HS.lt H2 e_1) ?_;refine qQ (qX H2 (b:=b0) e_1 rfl ?_);refine qW (xJ omQ omQ omQ omQ) ?_;rintro _ _ ⟨rfl,rfl⟩;refine qQ (qX H2 (b:=b0) e_1 rfl ?_);refine qW (xJ omQ omQ omQ omQ) ?_;rintro _ _ ⟨rfl,rfl⟩;have ha:=zq kx.2.1 (show(0:Int)≤6 by omega);have hb:=zq kx.2.2.1 (show(0:Int)≤6 by omega);have hc:=zq kx.2.2.2.1 (show(0:Int)≤6 by omega);have hat:=zq kx.2.2.2.1 (show(((6:Nat):Int))≤((15:Nat):Int) by omega);have hw:=zq kx.1 (show(((0:Nat):Int))≤((19:Nat):Int) by omega);generalize jE kx.2.1 0 6=a at*;generalize jE kx.2.2.1 0 6=b at*;generalize jE kx.2.2.2.1 0 6=c at*;generalize jE kx.2.2.2.1 ((6:Nat):Int) ((15:Nat):Int)=at_ at*;generalize jE kx.1 ((0:Nat):Int) ((19:Nat):Int)=w at*;have fin:∀(x:qO) (h0:AH),Ue x→HS g h0 (qk b2 [.int .i64 ((0:Nat):Int),.int .i64 ((0:Nat):Int),.int .i64 ((0:Nat):Int),.int .i64 ((0:Nat):Int),.int .u64 ((0:Nat):Int)]::qk b0 (jX kx)::R)→
   wp (jD h0 (.ptr b2 0) (.agg (jX x)) 5 λh22=>zO [] h22 λh23=>zY h23 (.ptr b2 0) 5 λv24=>some (v24,h23)) λr h'=>∃x,r=.agg (jX x)∧Ue x∧HS g h' R:=by
  intro x h0 hx H0;refine qd H0 (b:=b2) .here rfl (by show 0+5≤5;omega) rfl λh6 H6=>?_;have H6:HS g h6 (qk b2 (jX x)::qk b0 (jX kx)::R):=H6;refine qx (qF H6 (b:=b2) (off:=0) .here rfl omQ (l:=jX x) rfl ?_);exact qq ⟨x,rfl,hx,H6.drop.drop⟩
 have z0:(0:Int)≤0∧(0:Int)<18446744073709551616:=by omega
 have hd:w=0∨w=1∨w=2∨w=3∨w=4∨w=5∨w=6∨w=7∨w=8∨w=9∨w=10∨w=11∨w=12∨w=13∨w=14∨w=15∨w=16∨17≤w:=by omega
 rcases hd with h0 |h0 |h0 |h0 |h0 |h0 |h0 |h0 |h0 |h0 |h0 |h0 |h0 |h0 |h0 |h0 |h0 |h0
 all_goals (first |with_reducible (refine qV ?_;(try dsimp only);refine qK omQ ?_;refine qJ ?_;refine qK omQ ?_;refine qJ ?_;refine qK omQ ?_;refine qJ ?_;refine qK omQ ?_;refine qJ ?_;refine qK omQ ?_;refine qJ ?_;refine qV ?_;(try dsimp only);refine qK omQ ?_;refine qJ ?_;refine qK omQ ?_;refine qJ ?_;refine qK omQ ?_;refine qJ ?_;refine qV ?_;(try dsimp only);refine qK omQ ?_;refine qJ ?_;refine qK omQ ?_;refine qJ ?_;refine qK omQ ?_;refine qJ ?_;refine qK omQ ?_;refine qJ ?_;refine qK omQ ?_;refine qJ ?_;refine qV ?_;(try dsimp only);refine qK omQ ?_;refine qJ ?_;refine qK omQ ?_;refine qJ ?_;refine qK omQ ?_;refine qJ ?_;refine qz omQ ?_;refine qZ ?_;refine qH rfl ?_) |with_reducible (refine qV ?_;(try dsimp only);refine qK omQ ?_;refine qJ ?_;refine qK omQ ?_;refine qJ ?_;refine qK omQ ?_;refine qJ ?_;refine qK omQ ?_;refine qJ ?_;refine qK omQ ?_;refine qJ ?_;refine qV ?_;(try dsimp only);refine qK omQ ?_;refine qJ ?_;refine qK omQ ?_;refine qJ ?_;refine qK omQ ?_;refine qJ ?_;refine qV ?_;(try dsimp only);refine qK omQ ?_;refine qJ ?_;refine qK omQ ?_;refine qJ ?_;refine qK omQ ?_;refine qJ ?_;refine qK omQ ?_;refine qJ ?_;refine qK omQ ?_;refine qJ ?_;refine qV ?_;(try dsimp only);refine qK omQ ?_;refine qJ ?_;refine qK omQ ?_;refine qJ ?_;refine qK omQ ?_;refine qJ ?_;refine qK omQ ?_;refine qJ ?_;refine qH rfl ?_) |with_reducible (refine qV ?_;(try dsimp only);refine qK omQ ?_;refine qJ ?_;refine qK omQ ?_;refine qJ ?_;refine qK omQ ?_;refine qJ ?_;refine qK omQ ?_;refine qJ ?_;refine qK omQ ?_;refine qJ ?_;refine qV ?_;(try dsimp only);refine qK omQ ?_;refine qJ ?_;refine qK omQ ?_;refine qJ ?_;refine qK omQ ?_;refine qJ ?_;refine qV ?_;(try dsimp only);refine qK omQ ?_;refine qJ ?_;refine qK omQ ?_;refine qJ ?_;refine qK omQ ?_;refine qJ ?_;refine qK omQ ?_;refine qJ ?_;refine qK omQ ?_;refine qJ ?_;refine qV ?_;(try dsimp only);refine qK omQ ?_;refine qJ ?_;refine qK omQ ?_;refine qJ ?_;refine qz omQ ?_;refine qZ ?_;refine qH rfl ?_) |with_reducible (refine qV ?_;(try dsimp only);refine qK omQ ?_;refine qJ ?_;refine qK omQ ?_;refine qJ ?_;refine qK omQ ?_;refine qJ ?_;refine qK omQ ?_;refine qJ ?_;refine qK omQ ?_;refine qJ ?_;refine qV ?_;(try dsimp only);refine qK omQ ?_;refine qJ ?_;refine qK omQ ?_;refine qJ ?_;refine qK omQ ?_;refine qJ ?_;refine qV ?_;(try dsimp only);refine qK omQ ?_;refine qJ ?_;refine qK omQ ?_;refine qJ ?_;refine qK omQ ?_;refine qJ ?_;refine qK omQ ?_;refine qJ ?_;refine qK omQ ?_;refine qJ ?_;refine qV ?_;(try dsimp only);refine qK omQ ?_;refine qJ ?_;refine qz omQ ?_;refine qZ ?_;refine qH rfl ?_) |with_reducible (refine qV ?_;(try dsimp only);refine qK omQ ?_;refine qJ ?_;refine qK omQ ?_;refine qJ ?_;refine qK omQ ?_;refine qJ ?_;refine qK omQ ?_;refine qJ ?_;refine qK omQ ?_;refine qJ ?_;refine qV ?_;(try dsimp only);refine qK omQ ?_;refine qJ ?_;refine qK omQ ?_;refine qJ ?_;refine qK omQ ?_;refine qJ ?_;refine qV ?_;(try dsimp only);refine qK omQ ?_;refine qJ ?_;refine qK omQ ?_;refine qJ ?_;refine qK omQ ?_;refine qJ ?_;refine qK omQ ?_;refine qJ ?_;refine qK omQ ?_;refine qJ ?_;refine qV ?_;(try dsimp only);refine qz omQ ?_;refine qZ ?_;refine qZ ?_;refine qH rfl ?_) |with_reducible (refine qV ?_;(try dsimp only);refine qK omQ ?_;refine qJ ?_;refine qK omQ ?_;refine qJ ?_;refine qK omQ ?_;refine qJ ?_;refine qK omQ ?_;refine qJ ?_;refine qK omQ ?_;refine qJ ?_;refine qV ?_;(try dsimp only);refine qK omQ ?_;refine qJ ?_;refine qK omQ ?_;refine qJ ?_;refine qK omQ ?_;refine qJ ?_;refine qV ?_;(try dsimp only);refine qK omQ ?_;refine qJ ?_;refine qK omQ ?_;refine qJ ?_;refine qK omQ ?_;refine qJ ?_;refine qK omQ ?_;refine qJ ?_;refine qz omQ ?_;refine qZ ?_;refine qQ ?_;refine qX ‹_› e_1 rfl ?_) |with_reducible (refine qV ?_;(try dsimp only);refine qK omQ ?_;refine qJ ?_;refine qK omQ ?_;refine qJ ?_;refine qK omQ ?_;refine qJ ?_;refine qK omQ ?_;refine qJ ?_;refine qK omQ ?_;refine qJ ?_;refine qV ?_;(try dsimp only);refine qK omQ ?_;refine qJ ?_;refine qK omQ ?_;refine qJ ?_;refine qK omQ ?_;refine qJ ?_;refine qV ?_;(try dsimp only);refine qK omQ ?_;refine qJ ?_;refine qK omQ ?_;refine qJ ?_;refine qK omQ ?_;refine qJ ?_;refine qz omQ ?_;refine qZ ?_;refine qQ ?_;refine qX ‹_› e_1 rfl ?_) |with_reducible (refine qV ?_;(try dsimp only);refine qK omQ ?_;refine qJ ?_;refine qK omQ ?_;refine qJ ?_;refine qK omQ ?_;refine qJ ?_;refine qK omQ ?_;refine qJ ?_;refine qK omQ ?_;refine qJ ?_;refine qV ?_;(try dsimp only);refine qK omQ ?_;refine qJ ?_;refine qK omQ ?_;refine qJ ?_;refine qK omQ ?_;refine qJ ?_;refine qV ?_;(try dsimp only);refine qK omQ ?_;refine qJ ?_;refine qK omQ ?_;refine qJ ?_;refine qz omQ ?_;refine qZ ?_;refine qH rfl ?_) |with_reducible (refine qV ?_;(try dsimp only);refine qK omQ ?_;refine qJ ?_;refine qK omQ ?_;refine qJ ?_;refine qK omQ ?_;refine qJ ?_;refine qK omQ ?_;refine qJ ?_;refine qK omQ ?_;refine qJ ?_;refine qV ?_;(try dsimp only);refine qK omQ ?_;refine qJ ?_;refine qK omQ ?_;refine qJ ?_;refine qK omQ ?_;refine qJ ?_;refine qV ?_;(try dsimp only);refine qK omQ ?_;refine qJ ?_;refine qz omQ ?_;refine qZ ?_;refine qZ ?_;refine qH rfl ?_) |with_reducible (refine qV ?_;(try dsimp only);refine qK omQ ?_;refine qJ ?_;refine qK omQ ?_;refine qJ ?_;refine qK omQ ?_;refine qJ ?_;refine qK omQ ?_;refine qJ ?_;refine qK omQ ?_;refine qJ ?_;refine qV ?_;(try dsimp only);refine qK omQ ?_;refine qJ ?_;refine qK omQ ?_;refine qJ ?_;refine qK omQ ?_;refine qJ ?_;refine qV ?_;(try dsimp only);refine qz omQ ?_;refine qZ ?_;refine qZ ?_;refine qH rfl ?_) |with_reducible (refine qV ?_;(try dsimp only);refine qK omQ ?_;refine qJ ?_;refine qK omQ ?_;refine qJ ?_;refine qK omQ ?_;refine qJ ?_;refine qK omQ ?_;refine qJ ?_;refine qK omQ ?_;refine qJ ?_;refine qV ?_;(try dsimp only);refine qK omQ ?_;refine qJ ?_;refine qK omQ ?_;refine qJ ?_;refine qz omQ ?_;refine qZ ?_;refine qH rfl ?_) |with_reducible (refine qV ?_;(try dsimp only);refine qK omQ ?_;refine qJ ?_;refine qK omQ ?_;refine qJ ?_;refine qK omQ ?_;refine qJ ?_;refine qK omQ ?_;refine qJ ?_;refine qK omQ ?_;refine qJ ?_;refine qV ?_;(try dsimp only);refine qK omQ ?_;refine qJ ?_;refine qz omQ ?_;refine qZ ?_;refine qZ ?_;refine qH rfl ?_) |with_reducible (refine qV ?_;(try dsimp only);refine qK omQ ?_;refine qJ ?_;refine qK omQ ?_;refine qJ ?_;refine qK omQ ?_;refine qJ ?_;refine qK omQ ?_;refine qJ ?_;refine qK omQ ?_;refine qJ ?_;refine qV ?_;(try dsimp only);refine qz omQ ?_;refine qZ ?_;refine qZ ?_;refine qH rfl ?_) |with_reducible (refine qV ?_;(try dsimp only);refine qK omQ ?_;refine qJ ?_;refine qK omQ ?_;refine qJ ?_;refine qK omQ ?_;refine qJ ?_;refine qK omQ ?_;refine qJ ?_;refine qz omQ ?_;refine qZ ?_;refine qQ ?_;refine qX ‹_› e_1 rfl ?_) |with_reducible (refine qV ?_;(try dsimp only);refine qK omQ ?_;refine qJ ?_;refine qz omQ ?_;refine qZ ?_;refine qQ ?_;refine qX ‹_› e_1 rfl ?_;refine qH rfl ?_) |with_reducible (refine qV ?_;(try dsimp only);refine qK omQ ?_;refine qJ ?_;refine qK omQ ?_;refine qJ ?_;refine qz omQ ?_;refine qZ ?_;refine qQ ?_;refine qX ‹_› e_1 rfl ?_) |with_reducible (refine qV ?_;(try dsimp only);refine qK omQ ?_;refine qJ ?_;refine qK omQ ?_;refine qJ ?_;refine qK omQ ?_;refine qJ ?_;refine qz omQ ?_;refine qZ ?_;refine qH rfl ?_) |with_reducible (refine qV ?_;(try dsimp only);refine qz omQ ?_;refine qZ ?_;refine qZ ?_;refine qQ ?_;refine qX ‹_› e_1 rfl ?_;refine qH rfl ?_))
 ·exact fin (1,a,0,0,kx.2.2.2.2) _ (.of (qYB omQ) (by dsimp only;omega) hN) H2
 ·exact fin (1,a,0,0,kx.2.2.2.2) _ (.of (qYB omQ) (by dsimp only;omega) hN) H2
 ·refine Q7 od ?_;obtain⟨m,hm⟩:∃m:Nat,kx.2.2.2.2=m:=⟨kx.2.2.2.2.toNat,by omega⟩;have ht:kx.2.2.2.2.tmod ((20:Nat):Int)=((m%20:Nat):Int):=by rw[hm];rfl
  rw[ht];refine qH rfl ?_;exact fin (1,a,0,0,((m%20:Nat):Int)) _ (.of (qYB omQ) (by dsimp only;omega) (by dsimp only;omega)) H2
 ·exact fin (2,a,b,0,0) _ (.of (may_2 omQ omQ) (by dsimp only;omega) z0) H2
 ·refine Q7 od ?_;obtain⟨m,hm⟩:∃m:Nat,kx.2.2.2.2=m:=⟨kx.2.2.2.2.toNat,by omega⟩;have ht:kx.2.2.2.2.tmod ((64:Nat):Int)=((m%64:Nat):Int):=by rw[hm];rfl
  rw[ht];refine xY omQ ?_;refine qW (xJ omQ omQ omQ omQ) ?_;rintro _ _ ⟨rfl,rfl⟩;have ho:=zq ((m%64:Nat):Int) (show(((0:Nat):Int))≤((4:Nat):Int) by omega);generalize jE ((m%64:Nat):Int) ((0:Nat):Int) ((4:Nat):Int)=o at*;refine qb omQ ?_;refine qH rfl ?_;exact fin (((3:Nat):Int)+o,a,b,c,0) _ (.of (may_3 omQ omQ omQ omQ) (by dsimp only;omega) z0) H2
 ·exact fin (8,a,7,at_,0) _ (.of (Yc (.inl rfl) omQ omQ omQ) (by dsimp only;omega) z0) H2
 ·exact fin (8,a,7,at_,0) _ (.of (Yc (.inl rfl) omQ omQ omQ) (by dsimp only;omega) z0) H2
 ·exact fin (8,a,7,at_,0) _ (.of (Yc (.inl rfl) omQ omQ omQ) (by dsimp only;omega) z0) H2
 ·exact fin (9,7,b,at_,0) _ (.of (Yc (.inr rfl) omQ omQ omQ) (by dsimp only;omega) z0) H2
 ·exact fin (9,7,b,at_,0) _ (.of (Yc (.inr rfl) omQ omQ omQ) (by dsimp only;omega) z0) H2
 ·exact fin (9,7,b,at_,0) _ (.of (Yc (.inr rfl) omQ omQ omQ) (by dsimp only;omega) z0) H2
 ·refine qW (xJ omQ omQ omQ omQ) ?_;rintro _ _ ⟨rfl,rfl⟩;have ho:=zq kx.2.2.2.1 (show(((0:Nat):Int))≤((3:Nat):Int) by omega);generalize jE kx.2.2.2.1 ((0:Nat):Int) ((3:Nat):Int)=o at*;refine qH rfl ?_;exact fin (8,a,b,o,0) _ (.of (Yc (.inl rfl) omQ omQ omQ) (by dsimp only;omega) z0) H2
 ·refine qW (xJ omQ omQ omQ omQ) ?_;rintro _ _ ⟨rfl,rfl⟩;have ho:=zq kx.2.2.2.1 (show(((0:Nat):Int))≤((3:Nat):Int) by omega);generalize jE kx.2.2.2.1 ((0:Nat):Int) ((3:Nat):Int)=o at*;refine qH rfl ?_;exact fin (9,a,b,o,0) _ (.of (Yc (.inr rfl) omQ omQ omQ) (by dsimp only;omega) z0) H2
 ·exact fin (10,a,b,0,0) _ (.of (qYA omQ omQ) (by dsimp only;omega) z0) H2
 ·exact fin (10,a,b,0,0) _ (.of (qYA omQ omQ) (by dsimp only;omega) z0) H2
 ·exact fin (11,a,0,0,0) _ (.of (qqi (.inl rfl) omQ) (by dsimp only;omega) z0) H2
 ·exact fin (8,a,7,at_,0) _ (.of (Yc (.inl rfl) omQ omQ omQ) (by dsimp only;omega) z0) H2
 ·exact fin (21,a,0,0,0) _ (.of (qqi (.inr rfl) omQ) (by dsimp only;omega) z0) H2
end
section
variable {g h:AH} {L R:List SP}
theorem qQ3 (l:List Int):qo (l.map (AV.int .i64))=true:=by unfold qo;rw[List.all_eq_true];intro y hy;obtain⟨z,_,rfl⟩:=List.mem_map.1 hy;rfl
theorem wg (l:List qO) (st:List Int):(jN l st).length=st.length:=by simp[jN]
theorem qQE {l:List qO} {st:List Int} (hn:st≠[]):(jN l st)[st.length-1]? =some (opM l st):=by have hl:=List.length_pos_iff.2 hn;rw[Z9 hn,List.getLast?_eq_getElem?,wg,iW (by rw[wg];omega)];rfl
theorem VK {l:List qO} {st:List Int}:(Qs l st).length=l.length+1:=by simp[Qs]
theorem Ov {n:Nat} (hn:1≤n) {calm:Bool} {l:List qO} {st:List Int} {lv ov:AV} (B:Bld calm l st) (hne:st≠[]) (ho:opM l st=14∨opM l st=17∨opM l st=18) (hl:l.length≤1000)
  (H:HS g h (zh lv l::Yw ov (jN l st)::R)) :
  t_w n 52 [lv,ov] h λr h'=>∃lv' ov',r=.tup [lv',ov']∧HS g h' (zh lv' (Qs l st)::Yw ov' (jN (Qs l st) (Xi l st))::R):=by
 refine t_e2 (S:=S52) rfl omQ λk hk=>?_;unfold S52;try simp only[iZ]
 have hp:=List.length_pos_iff.2 hne;have h5:=B.five;have hol:=wg l st;have hat:=qQE (l:=l) hne;obtain⟨B2,hops⟩:=B.shut hne ho;rw[hops];have H0:HS g h (qA 51 5 l.length lv (l.flatMap jX)::qA 3 1 (jN l st).length ov ((jN l st).map (.int .i64))::R):=H;refine qi H0 e_1 ?_;rw[hol];refine jr omQ ?_;rw[show(st.length:Int)-((1:Nat):Int)=((st.length-1:Nat):Int) by omega];refine jI (H0.sl e_1) (x:=.int .i64 (opM l st)) (by rw[List.getElem?_map,hat];rfl) ?_;have hdl:(jN l st).dropLast=(jN l st).take (st.length-1):=by rw[List.dropLast_eq_take,hol]
 have tail:∀(op:Int),(opM l st=14∧op=15∨opM l st=18∧op=19)→
   wp (xp (α:=AV×AV×Unit→AH→Go.Ae.R) (λs5 h6=>some ((.tup [s5.2.1,s5.1]),h6)) λj7=>xh [(.int .i64 ((0:Nat):Int)),(.int .i64 ((0:Nat):Int)),(.int .i64 ((0:Nat):Int)),(.int .i64 ((0:Nat):Int)),(.int .u64 ((0:Nat):Int))] [(0,1,(.int .i64 op))] λv8=>
    zb h 51 [(.int .i64 ((0:Nat):Int)),(.int .i64 ((0:Nat):Int)),(.int .i64 ((0:Nat):Int)),(.int .i64 ((0:Nat):Int)),(.int .u64 ((0:Nat):Int))] 1 [(0,5,v8)] λv9 h10=>
    zl h10 51 5 lv v9 λv11 h12=>x8 h12 3 1 ov none (some (.int .i64 ((st.length-1:Nat):Int))) λv13=>
    QR ov (some (3*65536+1)) v13 h10 h12 h.nx<| j7 (v13,v11,()) h12)
   λr h'=>∃lv' ov',r=.tup [lv',ov']∧HS g h' (zh lv' (Qs l st)::Yw ov' ((jN l st).dropLast++(if opM l st=17 then[18]else[]))::R):=by
  intro op hop;refine qV ?_
  try dsimp only
  refine qH (l:=jX (one op)) rfl ?_;refine qe (n:=1) (l:=jX (one op)) (sz:=5) H0 rfl rfl rfl rfl λv9 h10 H10=>?_;have S:Sl (λ_=>True) h10 5 [one op].length v9 ([one op].flatMap jX):=H10.sl .here;refine kw (H10.sel (P:=zh lv l) e_1) S (by simp;omega) λv11 h12 H12=>?_;refine XY (hi:=st.length-1) (H12.sel (P:=qA 3 1 (jN l st).length ov ((jN l st).map (.int .i64))) e_2) omQ omQ λv13 H13=>?_;refine qY1 H10 (s:=e_2) H12 e_2 H0 e_1 omQ omQ rfl ?_;rw[Nat.mul_one,← List.map_take,← hdl]at H13;have h17:¬opM l st=17:=by omega
  rw[iQ h17,List.append_nil];refine qq ⟨v11,v13,rfl,?_⟩;have e:Qs l st=l++[one op]:=by
   unfold Qs vN;rcases hop with⟨h1,h2⟩ |⟨h1,h2⟩
   ·rw[h1,h2];rfl
   ·rw[h1,h2];rfl
  rw[e];unfold Yw;rw[show(jN l st).dropLast.length=st.length-1 by rw[List.length_dropLast,hol]];exact H13.sub (.cons e_1 (.cons .here (.drop .refl)))
 by_cases c14:opM l st=14
 ·refine qz c14 (qZ ?_);exact tail 15 (.inl ⟨c14,rfl⟩)
 refine qK c14 (qJ ?_);by_cases c17:opM l st=17
 ·refine qz c17 (qZ ?_);refine XY (hi:=st.length-1) (H0.sel (P:=qA 3 1 (jN l st).length ov ((jN l st).map (.int .i64))) e_1) omQ omQ λv15 H2=>?_;rw[Nat.mul_one,← List.map_take,← hdl]at H2;have hdn:(jN l st).dropLast.length=st.length-1:=by rw[List.length_dropLast,hol]
  have S:Sl (λ_=>True) h 1 (st.length-1) v15 ((jN l st).dropLast.map (.int .i64)):=H2.sl .here;refine jR (H2.nils (e:=3) (sz:=1)) S omQ omQ (qQ3 _) λv16 h3 H3=>?_;rw[List.nil_append,Nat.zero_add]at H3;refine qe (n:=1) (l:=[.int .i64 ((18:Nat):Int)]) (sz:=1) H3 rfl rfl rfl rfl λv18 h4 H4=>?_;refine jR (H4.sel e_1) (H4.sl .here) omQ omQ rfl λv20 h5 H5=>?_;refine qH (l:=jX (one 18)) rfl ?_;refine qe (n:=1) (l:=jX (one 18)) (sz:=5) H5 rfl rfl rfl rfl λv23 h6 H6=>?_;have S6:Sl (λ_=>True) h6 5 [one 18].length v23 ([one 18].flatMap jX):=H6.sl .here;refine kw (H6.sel (P:=zh lv l) e_4) S6 (by simp;omega) λv25 h7 H7=>?_;rw[iJ c17];refine qq ⟨v25,v20,rfl,?_⟩;have e:Qs l st=l++[one 18]:=by unfold Qs vN;rw[c17];rfl
  rw[e];unfold Yw;rw[List.length_append,hdn,List.map_append];exact H7.sub (.cons .here (.cons e_1 (.drop (.drop (.drop .refl)))))
 ·refine qK c17 (qJ ?_);exact tail 19 (.inr ⟨by omega,rfl⟩)
def Jv (o:List Int):Nat:=(o.map λx=>if x=17 then 2 else 1).sum
theorem O3 (a b:List Int):Jv (a++b)=Jv a+Jv b:=by simp[Jv]
theorem qkE (o:List Int):Jv o≤2*o.length:=by
 induction o with
 |nil=>simp[Jv]
 |cons x o ih=>simp only[Jv,List.map_cons,List.sum_cons,List.length_cons]at*;split<;>omega
theorem qVM {l:List qO} {st:List Int} (hne:st≠[]):Jv ((jN l st).dropLast++(if opM l st=17 then[18]else[]))+1=Jv (jN l st):=by
 have h1:jN l st≠[]:=by intro h;have:=congrArg List.length h;rw[wg]at this;exact hne (iA this)
 have h2:=List.dropLast_concat_getLast h1;have h3:(jN l st).getLast h1=opM l st:=by rw[Z9 hne,List.getLast?_eq_some_getLast h1];rfl
 rw[h3]at h2;have h4:Jv (jN l st)=Jv (jN l st).dropLast+(if opM l st=17 then 2 else 1):=by
  conv=>lhs;rw[← h2]
  rw[O3];simp[Jv]
 rw[O3,h4]
 split
 ·simp[Jv]
 ·simp[Jv]
def OpsK (l:List qO) (st:List Int):Prop:=∀o∈jN l st,o=14∨o=17∨o=18
theorem OpsK.at {l:List qO} {st:List Int} (h:OpsK l st) (hne:st≠[]):opM l st=14∨opM l st=17∨opM l st=18:=h _ (List.mem_of_getElem? (qQE hne))
set_option maxHeartbeats 8000000 in
theorem qYL {n:Nat} (hn:5≤n) {calm:Bool} {ks:List qO} {kv:AV} {most:Int} (hN:∀x∈ks,0≤x.2.2.2.2∧x.2.2.2.2<18446744073709551616) (hm:1≤most∧most≤40) (H:HS g h R) (S:Rd g R 5 ks.length kv (ks.flatMap jX)) :
  t_w n 28 [kv,.int .i64 most,.bool calm] h λr h'=>∃lv l,r=.agg [lv]∧Bld calm l []∧0<l.length∧(l.length:Int)≤most∧HS g h' (zh lv l::R):=by
 refine t_e3 (S:=S28) rfl omQ λk hk=>?_;unfold S28;try simp only[iZ]
 refine qI H rfl λb0 h1 H1=>?_;clear H;have H1:=(H1.nils (e:=3) (sz:=1)).nils (e:=51) (sz:=5);refine jd [] (λs h'=>∃(l:List qO) (st:List Int) (lv ov:AV),s=(ov,lv,.ptr b0 0,())∧Bld calm l st∧OpsK l st∧(l.length:Int)+2*st.length≤most∧HS g h' (zh lv l::Yw ov (jN l st)::qk b0 [.nils]::R)) ?_ ?_
 rotate_left
 ·rintro s h2 ⟨l,st,lv,ov,rfl,B,OK,hle,H2⟩;dsimp only;have hW:(l.length:Int)+Jv (jN l st)≤most:=by
   have:=qkE (jN l st);rw[wg]at this;omega
  refine jw (λm s h'=>∃(l:List qO) (st:List Int) (lv ov:AV),s=(ov,lv,.ptr b0 0,())∧m=Jv (jN l st)∧Bld calm l st∧OpsK l st∧(l.length:Int)+Jv (jN l st)≤most∧HS g h' (zh lv l::Yw ov (jN l st)::qk b0 [.nils]::R))
   ?_ (m:=Jv (jN l st)) (by show _<1000000000;omega) ⟨l,st,lv,ov,rfl,rfl,B,OK,hW,H2⟩
  clear H2 hW hle OK B st lv ov l;rintro m ih s h3 hih ⟨l,st,lv,ov,rfl,rfl,B,OK,hW,H⟩;dsimp only;have hol:=wg l st;refine qi (n:=(jN l st).length) (H:HS g h3 (zh lv l::qA 3 1 (jN l st).length ov ((jN l st).map (.int .i64))::qk b0 [.nils]::R)) e_1 ?_;rw[hol];by_cases h0:st=[]
  ·subst h0;refine xW osQ (qJ ?_);refine jd [] (λs h'=>∃(l:List qO) (lv:AV),s=(lv,.ptr b0 0,())∧Bld calm l []∧0<l.length∧(l.length:Int)≤most∧HS g h' (zh lv l::qk b0 [.nils]::R)) ?_ ?_
   ·intro j hj;refine qi (n:=l.length) (H:HS g h3 (qA 51 5 l.length lv (l.flatMap jX)::Yw ov (jN l [])::qk b0 [.nils]::R)) .here ?_;by_cases hl0:l.length=0
    ·refine qz omQ (qZ ?_);obtain rfl:=iA hl0;refine qH (l:=jX (1,0,0,0,1)) rfl ?_;refine qe (n:=1) (l:=jX (1,0,0,0,1)) (sz:=5) H rfl rfl rfl rfl λv27 h4 H4=>?_;have S1:Sl (λ_=>True) h4 5 [((1,0,0,0,1):qO)].length v27 ([((1,0,0,0,1):qO)].flatMap jX):=H4.sl .here;refine kw (H4.sel (P:=zh lv []) e_1) S1 osQ λv29 h5 H5=>?_;refine hj _ _ ⟨_,v29,rfl,B.flat (x:=(1,0,0,0,1)) ⟨by decide,by decide,by decide,λ_=>by decide⟩ (by unfold Flat;decide) od,by simp,by simp;omega,H5.sub (.cons .here (.drop (.drop (.cons .here .refl))))⟩
    ·refine qK omQ (qJ ?_);exact hj _ _ ⟨l,lv,rfl,B,by omega,by omega,H.sub (.cons .here (.drop (.cons .here .refl)))⟩
   ·rintro s h5 ⟨l,lv,rfl,B,hl0,hlm,H5⟩;dsimp only;have ol:=H5.one (e:=51) (sz:=5) (n:=l.length) .here;refine qH (l:=[lv]) (by simp only[yB,ol.1];rfl) ?_;refine qd H5 (b:=b0) e_1 rfl osQ (by show qo [lv]=true;simp[qo,ol.2]) λh6 H6=>?_;have H6:HS g h6 (qk b0 [lv]::zh lv l::R):=H6;refine qx (qF H6 (b:=b0) (off:=0) .here rfl omQ (l:=[lv]) rfl ?_);exact qq ⟨lv,l,rfl,B,hl0,hlm,H6.drop⟩
  ·have hp:=List.length_pos_iff.2 h0;refine yj omQ (qZ ?_);refine qW (Ov omQ B h0 (OK.at h0) omQ H) ?_;rintro _ h4 ⟨lv',ov',rfl,H4⟩;obtain⟨B2,hops⟩:=B.shut h0 (OK.at h0);have hw:=qVM (l:=l) h0;rw[← hops]at hw;refine qy rfl (qy rfl ?_);refine hih (Jv (jN (Qs l st) (Xi l st))) _ _ omQ ⟨_,_,lv',ov',rfl,rfl,B2,?_,by rw[VK];omega,H4⟩;intro o ho;rw[hops]at ho;rcases List.mem_append.1 ho with ho |ho
   ·exact OK o ((List.dropLast_sublist _).subset ho)
   ·split at ho
    ·rw[List.mem_singleton]at ho;omega
    ·cases ho
 intro j5 hj5;refine jw (λm s h'=>∃(i:Nat) (l:List qO) (st:List Int) (lv ov:AV),s=(.int .i64 (i:Int),ov,lv,.ptr b0 0,.bool calm,.int .i64 most,kv,())∧m=41-l.length∧i≤l.length∧Bld calm l st∧OpsK l st∧(l.length:Int)+2*st.length≤most∧HS g h' (zh lv l::Yw ov (jN l st)::qk b0 [.nils]::R))
  ?_ (m:=41) (by show _<1000000000;omega) ⟨0,[],[],.nils,.nils,rfl,rfl,by simp,Bld.nil calm,(λo ho=>by cases ho),by simp;omega,H1⟩
 clear H1;rintro m ih s h2 hih ⟨i,l,st,lv,ov,rfl,rfl,hil,B,OK,hle,H⟩;dsimp only;refine xC (S.sl H.drop.drop.drop) ?_;refine z7 (λhlt=>qZ ?_) λhge=>qJ (hj5 _ _ ⟨l,st,lv,ov,rfl,B,OK,hle,H⟩);have hlt:i<ks.length:=by omega
 refine zH (l:=jX ks[i]) (S.sl H.drop.drop.drop) hlt omQ (vk (sz:=5) (λ_=>rfl) (iW hlt)) ?_;have hNi:=hN ks[i] (List.getElem_mem hlt);generalize ks[i]=kx at*;refine qI H rfl λb3 h3 H3=>qd H3 .here rfl (by show 0+5≤5;omega) rfl λh5 H5=>?_;have H5:HS g h5 (qk b3 (jX kx)::zh lv l::Yw ov (jN l st)::qk b0 [.nils]::R):=H5;have H6:HS g h5 (qk b3 (jX kx)::qA 51 5 l.length lv (l.flatMap jX)::qA 3 1 (jN l st).length ov ((jN l st).map (.int .i64))::qk b0 [.nils]::R):=H5;clear H H3;have hol:=wg l st;refine qi H6 e_2 ?_;rw[hol];refine qi H6 e_1 ?_;refine Kw omQ (qb omQ (qb omQ ?_));refine wL (λhg=>qZ (hj5 _ _ ⟨l,st,lv,ov,rfl,B,OK,hle,H5.drop⟩)) λhg=>qJ ?_;refine qQ (qX H5 (b:=b3) .here rfl ?_);refine qW (xJ omQ omQ omQ omQ) ?_;rintro _ h5 ⟨rfl,rfl⟩;have hwb:=zq kx.1 (show(((0:Nat):Int))≤((40:Nat):Int) by omega);generalize jE kx.1 ((0:Nat):Int) ((40:Nat):Int)=w at*;refine jd [] (λs h'=>∃(l':List qO) (st':List Int) (lv' ov':AV),s=(.int .i64 (i:Int),ov',lv',.ptr b0 0,.bool calm,.int .i64 most,kv,())∧Bld calm l' st'∧OpsK l' st'∧(l'.length:Int)+2*st'.length≤most∧l.length<l'.length∧HS g h' (zh lv' l'::Yw ov' (jN l' st')::qk b0 [.nils]::R)) ?_ ?_
 rotate_left
 ·rintro s h7 ⟨l',st',lv',ov',rfl,B',OK',hle',hlt',H7⟩;dsimp only;refine qb omQ ?_;exact hih (41-l'.length) _ _ omQ ⟨i+1,l',st',lv',ov',rfl,rfl,by omega,B',OK',hle',H7⟩
 intro j hj;have hfive:=B.five;have hll:l.length≤100:=by omega
 have same:∀{t:List qO},OpsK (l++t) st:=λ{t} o ho=>OK o (by rw[XR B.stok]at ho;exact ho);have hsame:∀{t:List qO},jN (l++t) st=jN l st:=XR B.stok
 have dflt:wp (zY h5 (.ptr b3 0) 5 λv218=>jm (callT tab qj k) (.fn 54 [] []) [v218] h5 λv219 h220=>zb h220 51 [(.int .i64 ((0:Nat):Int)),(.int .i64 ((0:Nat):Int)),(.int .i64 ((0:Nat):Int)),(.int .i64 ((0:Nat):Int)),(.int .u64 ((0:Nat):Int))] 1 [(0,5,v219)] λv221 h222=>
   zl h222 51 5 lv v221 λv223 h224=>j (.int .i64 (i:Int),ov,v223,.ptr b0 0,.bool calm,.int .i64 most,kv,()) h224 []) (λr h'=>∃lv l,r=.agg [lv]∧Bld calm l []∧0<l.length∧(l.length:Int)≤most∧HS g h' (zh lv l::R)):=by
  refine qF H5 (b:=b3) (off:=0) .here rfl omQ (l:=jX kx) rfl ?_;refine qW (X5 omQ hNi H5) ?_;rintro _ h7 ⟨x,rfl,hx,H7⟩;refine qe (n:=1) (l:=jX x) (sz:=5) H7 rfl rfl rfl rfl λv8 h8 H8=>?_;have S1:Sl (λ_=>True) h8 5 [x].length v8 ([x].flatMap jX):=by simpa using H8.sl .here
  refine kw (H8.sel (P:=zh lv l) e_2) S1 (by simp;omega) λv9 h9 H9=>?_;refine hj _ _ ⟨l++[x],st,v9,ov,rfl,B.flat (hx.ok calm) hx.flat hx.nj,same,by simp;omega,by simp,?_⟩;rw[hsame];exact H9.sub (.cons .here (.drop (.drop (.cons .here (.cons .here .refl)))))
 have beg:∀op:Int,op=14∨op=17→st.length<5→wp (zb h5 51 [(.int .i64 ((0:Nat):Int)),(.int .i64 ((0:Nat):Int)),(.int .i64 ((0:Nat):Int)),(.int .i64 ((0:Nat):Int)),(.int .u64 ((0:Nat):Int))] 1 [(0,5,.agg (jX (one op)))] λv63 h64=>zl h64 51 5 lv v63 λv65 h66=>
   zb h66 3 [(.int .i64 ((0:Nat):Int))] 1 [(0,1,(.int .i64 op))] λv67 h68=>zl h68 3 1 ov v67 λv69 h70=>j (.int .i64 (i:Int),v69,v65,.ptr b0 0,.bool calm,.int .i64 most,kv,()) h70 []) (λr h'=>∃lv l,r=.agg [lv]∧Bld calm l []∧0<l.length∧(l.length:Int)≤most∧HS g h' (zh lv l::R)):=by
  intro op hop hs5;refine qe (n:=1) (l:=jX (one op)) (sz:=5) H5 rfl rfl rfl rfl λv8 h8 H8=>?_;have S1:Sl (λ_=>True) h8 5 [one op].length v8 ([one op].flatMap jX):=by simpa using H8.sl .here
  refine kw (H8.sel (P:=zh lv l) e_2) S1 (by simp;omega) λv9 h9 H9=>?_;refine qe (n:=1) (l:=[.int .i64 op]) (sz:=1) H9 rfl rfl rfl rfl λv10 h10 H10=>?_;refine jR (H10.sel (P:=qA 3 1 (jN l st).length ov ((jN l st).map (.int .i64))) e_4) (H10.sl .here) omQ omQ rfl λv11 h11 H11=>?_;obtain⟨B2,ho2⟩:=B.begin hop hs5;refine hj _ _ ⟨l++[one op],st++[(l.length:Int)],v9,v11,rfl,B2,?_,by simp;omega,by simp,?_⟩
  ·intro o ho;rw[ho2]at ho;rcases List.mem_append.1 ho with ho |ho
   ·exact OK o ho
   ·rw[List.mem_singleton]at ho;omega
  ·rw[ho2];unfold Yw;rw[List.length_append,List.map_append];exact H11.sub (.cons e_2 (.cons .here (.drop (.drop (.drop (.cons .here .refl))))))
 have shu:0<st.length→wp (jm (callT tab qj k) (.fn 52 [] []) [lv,ov] h5 λv98 h99=>zP v98 0 λv100=>zP v98 1 λv101=>j (.int .i64 (i:Int),v101,v100,.ptr b0 0,.bool calm,.int .i64 most,kv,()) h99 []) (λr h'=>∃lv l,r=.agg [lv]∧Bld calm l []∧0<l.length∧(l.length:Int)≤most∧HS g h' (zh lv l::R)):=by
  intro hp;have hne:=List.length_pos_iff.1 hp;refine qW (Ov omQ B hne (OK.at hne) omQ (H5.sub (L':=zh lv l::Yw ov (jN l st)::qk b3 (jX kx)::qk b0 [.nils]::R) (.cons e_1 (.cons e_1 (.cons .here (.cons .here .refl)))))) ?_;rintro _ h7 ⟨lv',ov',rfl,H7⟩;obtain⟨B2,hops⟩:=B.shut hne (OK.at hne);have hsl:(Xi l st).length≤st.length:=by unfold Xi;split<;>simp<;>omega
  refine qy rfl (qy rfl ?_);refine hj _ _ ⟨_,_,lv',ov',rfl,B2,?_,by rw[VK];omega,by rw[VK];omega,H7.sub (.cons .here (.cons .here (.drop (.cons .here .refl))))⟩;intro o ho;rw[hops]at ho;rcases List.mem_append.1 ho with ho |ho
  ·exact OK o ((List.dropLast_sublist _).subset ho)
  ·split at ho
   ·rw[List.mem_singleton]at ho;omega
   ·cases ho
 have und:opM l st=14→wp (zb h5 51 [(.int .i64 ((0:Nat):Int)),(.int .i64 ((0:Nat):Int)),(.int .i64 ((0:Nat):Int)),(.int .i64 ((0:Nat):Int)),(.int .u64 ((0:Nat):Int))] 1 [(0,5,.agg (jX (one 16)))] λv8 h8=>zl h8 51 5 lv v8 λv9 h9=>j (.int .i64 (i:Int),ov,v9,.ptr b0 0,.bool calm,.int .i64 most,kv,()) h9 []) (λr h'=>∃lv l,r=.agg [lv]∧Bld calm l []∧0<l.length∧(l.length:Int)≤most∧HS g h' (zh lv l::R)):=by
  intro h14;refine qe (n:=1) (l:=jX (one 16)) (sz:=5) H5 rfl rfl rfl rfl λv8 h8 H8=>?_;have S1:Sl (λ_=>True) h8 5 [one 16].length v8 ([one 16].flatMap jX):=by simpa using H8.sl .here
  refine kw (H8.sel (P:=zh lv l) e_2) S1 (by simp;omega) λv9 h9 H9=>?_;refine hj _ _ ⟨l++[one 16],st,v9,ov,rfl,B.undo h14,same,by simp;omega,by simp,?_⟩;rw[hsame];exact H9.sub (.cons .here (.drop (.drop (.cons .here (.cons .here .refl)))))
 have pair:∀(x y:qO) (h7:AH),HS g h7 (qk b3 (jX kx)::zh lv l::Yw ov (jN l st)::qk b0 [.nils]::R)→Bld calm (l++[x,y]) st→(l.length:Int)+2*st.length+5≤most→wp (zb h7 51 [(.int .i64 ((0:Nat):Int)),(.int .i64 ((0:Nat):Int)),(.int .i64 ((0:Nat):Int)),(.int .i64 ((0:Nat):Int)),(.int .u64 ((0:Nat):Int))] 2 [(0,5,.agg (jX x)),(5,5,.agg (jX y))] λv8 h8=>
   zl h8 51 5 lv v8 λv9 h9=>j (.int .i64 (i:Int),ov,v9,.ptr b0 0,.bool calm,.int .i64 most,kv,()) h9 []) (λr h'=>∃lv l,r=.agg [lv]∧Bld calm l []∧0<l.length∧(l.length:Int)≤most∧HS g h' (zh lv l::R)):=by
  intro x y h7 H7 B7 hm7;refine qe (n:=2) (l:=jX x++jX y) (sz:=5) H7 rfl rfl rfl rfl λv8 h8 H8=>?_;have S1:Sl (λ_=>True) h8 5 [x,y].length v8 ([x,y].flatMap jX):=by simpa using H8.sl .here
  refine kw (H8.sel (P:=zh lv l) e_2) S1 (by simp;omega) λv9 h9 H9=>?_;refine hj _ _ ⟨l++[x,y],st,v9,ov,rfl,B7,same,by simp;omega,by simp,?_⟩;rw[hsame];exact H9.sub (.cons .here (.drop (.drop (.cons .here (.cons .here .refl)))))
 have zer:∀r:Int,0≤r∧r≤6→Y2 calm (13,r,0,((l.length:Int)+((2:Nat):Int)),0):=λr hr=>⟨qWP omQ omQ,by show(13:Int)≠23;decide,by show(0:Int)≤0∧(0:Int)<18446744073709551616;decide,λ_=>by show(13:Int)≠20∧(13:Int)≠22∧(13:Int)≠12;decide⟩
 have two:∀op:Int,op=20∨op=22→calm=false→wp (jm (callT tab qj k) (.fn 53 [] []) [.int .i64 kx.2.1] h5 λv131 h132=>w9 lv λv133=>jc .add v133 (.int .i64 ((2:Nat):Int)) λv134=>
   xh [(.int .i64 ((0:Nat):Int)),(.int .i64 ((0:Nat):Int)),(.int .i64 ((0:Nat):Int)),(.int .i64 ((0:Nat):Int)),(.int .u64 ((0:Nat):Int))] [(0,1,(.int .i64 ((13:Nat):Int))),(1,1,v131),(3,1,v134)] λv135=>xh [(.int .i64 ((0:Nat):Int)),(.int .i64 ((0:Nat):Int)),(.int .i64 ((0:Nat):Int)),(.int .i64 ((0:Nat):Int)),(.int .u64 ((0:Nat):Int))] [(0,1,(.int .i64 op))] λv136=>
   zb h132 51 [(.int .i64 ((0:Nat):Int)),(.int .i64 ((0:Nat):Int)),(.int .i64 ((0:Nat):Int)),(.int .i64 ((0:Nat):Int)),(.int .u64 ((0:Nat):Int))] 2 [(0,5,v135),(5,5,v136)] λv8 h8=>zl h8 51 5 lv v8 λv9 h9=>j (.int .i64 (i:Int),ov,v9,.ptr b0 0,.bool calm,.int .i64 most,kv,()) h9 []) (λr h'=>∃lv l,r=.agg [lv]∧Bld calm l []∧0<l.length∧(l.length:Int)≤most∧HS g h' (zh lv l::R)):=by
  intro op hop hcal;refine qW (XH omQ) ?_;rintro _ h5 ⟨rfl,rfl⟩;have hr:=zq kx.2.1 (show(0:Int)≤6 by omega);refine qi (n:=l.length) H6 e_1 (qb omQ ?_);refine qH (l:=jX (13,jE kx.2.1 0 6,0,((l.length:Int)+((2:Nat):Int)),0)) rfl ?_;refine qH (l:=jX (one op)) rfl ?_;refine pair _ _ _ H5 (B.two (zer _ hr) ⟨by rcases hop with rfl |rfl<;>decide,by dsimp only;omega,by show(0:Int)≤0∧(0:Int)<18446744073709551616;decide,λhh=>by rw[hcal]at hh;cases hh⟩ (by show Flat 13;unfold Flat;decide) (by unfold Flat;dsimp only;omega) (λ_=>rfl) (λhh=>by dsimp only at hh;omega)) omQ
 have ovr:wp (xp (α:=AV×AV×AV×AV×AV×AV×AV×Unit→AH→Go.Ae.R) (λs180 h181=>j (s180.1,s180.2.1,s180.2.2.1,s180.2.2.2.1,s180.2.2.2.2.1,s180.2.2.2.2.2.1,s180.2.2.2.2.2.2.1,()) h181 []) λj182=>
   jm (callT tab qj k) (.fn 53 [] []) [.int .i64 kx.2.2.1] h5 λv185 h186=>w9 lv λv187=>jc .add v187 (.int .i64 ((2:Nat):Int)) λv188=>
   xh [(.int .i64 ((0:Nat):Int)),(.int .i64 ((0:Nat):Int)),(.int .i64 ((0:Nat):Int)),(.int .i64 ((0:Nat):Int)),(.int .u64 ((0:Nat):Int))] [(0,1,(.int .i64 ((13:Nat):Int))),(1,1,v185),(3,1,v188)] λv189=>zY h186 (.ptr b3 0) 5 λv190=>jm (callT tab qj k) (.fn 54 [] []) [v190] h186 λv191 h192=>
   zb h192 51 [(.int .i64 ((0:Nat):Int)),(.int .i64 ((0:Nat):Int)),(.int .i64 ((0:Nat):Int)),(.int .i64 ((0:Nat):Int)),(.int .u64 ((0:Nat):Int))] 2 [(0,5,v189),(5,5,v191)] λv193 h194=>zl h194 51 5 lv v193 λv195 h196=>
   QR (.ptr b3 0) (some 5) v190 h5 h186 h5.nx<| j182 (.int .i64 (i:Int),ov,v195,.ptr b0 0,.bool calm,.int .i64 most,kv,()) h196) (λr h'=>∃lv l,r=.agg [lv]∧Bld calm l []∧0<l.length∧(l.length:Int)≤most∧HS g h' (zh lv l::R)):=by
  refine qV ?_
  try dsimp only
  refine qW (XH omQ) ?_;rintro _ h5 ⟨rfl,rfl⟩;have hr:=zq kx.2.2.1 (show(0:Int)≤6 by omega);refine qi (n:=l.length) H6 e_1 (qb omQ ?_);refine qH (l:=jX (13,jE kx.2.2.1 0 6,0,((l.length:Int)+((2:Nat):Int)),0)) rfl ?_;refine qF H5 (b:=b3) (off:=0) .here rfl omQ (l:=jX kx) rfl ?_;refine qW (X5 omQ hNi H5) ?_;rintro _ h7 ⟨x,rfl,hx,H7⟩;refine qe (n:=2) (l:=jX (13,jE kx.2.2.1 0 6,0,((l.length:Int)+((2:Nat):Int)),0)++jX x) (sz:=5) H7 rfl rfl rfl rfl λv8 h8 H8=>?_;have S1:Sl (λ_=>True) h8 5 [((13,jE kx.2.2.1 0 6,0,((l.length:Int)+((2:Nat):Int)),0):qO),x].length v8 ([((13,jE kx.2.2.1 0 6,0,((l.length:Int)+((2:Nat):Int)),0):qO),x].flatMap jX):=by simpa using H8.sl .here
  refine kw (H8.sel (P:=zh lv l) e_2) S1 (by simp;omega) λv9 h9 H9=>?_;refine zA H5 (b:=b3) .here rfl H5 .here rfl rfl omQ (HS.lt H5 .here) ?_;refine hj _ _ ⟨_,st,v9,ov,rfl,B.two (zer _ hr) (hx.ok calm) (by show Flat 13;unfold Flat;decide) hx.flat (λ_=>rfl) (λhh=>by have:=hx.nj;omega),same,by simp;omega,by simp,?_⟩;rw[hsame];exact H9.sub (.cons .here (.drop (.drop (.cons .here (.cons .here .refl)))))
 have bak:calm=false→wp (xp (α:=AV×AV×AV×AV×AV×AV×AV×Unit→AH→Go.Ae.R) (λs180 h181=>j (s180.1,s180.2.1,s180.2.2.1,s180.2.2.2.1,s180.2.2.2.2.1,s180.2.2.2.2.2.1,s180.2.2.2.2.2.2.1,()) h181 []) λj182=>
   zY h5 (.ptr b3 0) 5 λv205=>jm (callT tab qj k) (.fn 54 [] []) [v205] h5 λv206 h207=>qm (.ptr b3 0) 2 λv208=>jq h207 v208 λv209=>
   jm (callT tab qj k) (.fn 53 [] []) [v209] h207 λv210 h211=>w9 lv λv212=>
   xh [(.int .i64 ((0:Nat):Int)),(.int .i64 ((0:Nat):Int)),(.int .i64 ((0:Nat):Int)),(.int .i64 ((0:Nat):Int)),(.int .u64 ((0:Nat):Int))] [(0,1,(.int .i64 ((13:Nat):Int))),(1,1,v210),(3,1,v212)] λv213=>
   zb h211 51 [(.int .i64 ((0:Nat):Int)),(.int .i64 ((0:Nat):Int)),(.int .i64 ((0:Nat):Int)),(.int .i64 ((0:Nat):Int)),(.int .u64 ((0:Nat):Int))] 2 [(0,5,v206),(5,5,v213)] λv214 h215=>zl h215 51 5 lv v214 λv216 h217=>
   QR v208 none v209 h5 h207 h5.nx<| j182 (.int .i64 (i:Int),ov,v216,.ptr b0 0,.bool calm,.int .i64 most,kv,()) h217) (λr h'=>∃lv l,r=.agg [lv]∧Bld calm l []∧0<l.length∧(l.length:Int)≤most∧HS g h' (zh lv l::R)):=by
  intro hcal;refine qV ?_
  try dsimp only
  refine qF H5 (b:=b3) (off:=0) .here rfl omQ (l:=jX kx) rfl ?_;refine qW (X5 omQ hNi H5) ?_;rintro _ h7 ⟨x,rfl,hx,H7⟩;refine qQ (qX H7 (b:=b3) .here rfl ?_);refine qW (XH omQ) ?_;rintro _ h7 ⟨rfl,rfl⟩;have hr:=zq kx.2.2.1 (show(0:Int)≤6 by omega);have H7':HS g h7 (qk b3 (jX kx)::qA 51 5 l.length lv (l.flatMap jX)::Yw ov (jN l st)::qk b0 [.nils]::R):=H7;refine qi (n:=l.length) H7' e_1 ?_;refine qH (l:=jX (13,jE kx.2.2.1 0 6,0,(l.length:Int),0)) rfl ?_;refine qe (n:=2) (l:=jX x++jX (13,jE kx.2.2.1 0 6,0,(l.length:Int),0)) (sz:=5) H7 rfl rfl rfl rfl λv8 h8 H8=>?_;have S1:Sl (λ_=>True) h8 5 [x,((13,jE kx.2.2.1 0 6,0,(l.length:Int),0):qO)].length v8 ([x,((13,jE kx.2.2.1 0 6,0,(l.length:Int),0):qO)].flatMap jX):=by simpa using H8.sl .here
  refine kw (H8.sel (P:=zh lv l) e_2) S1 (by simp;omega) λv9 h9 H9=>?_;refine qU H5 (b:=b3) .here rfl H7 .here rfl (HS.lt H5 .here) ?_;refine hj _ _ ⟨l++[x,(13,jE kx.2.2.1 0 6,0,(l.length:Int),0)],st,v9,ov,rfl,B.two (hx.ok calm) ⟨qWP omQ omQ,by show(13:Int)≠23;decide,by show(0:Int)≤0∧(0:Int)<18446744073709551616;decide,λ_=>by show(13:Int)≠20∧(13:Int)≠22∧(13:Int)≠12;decide⟩ hx.flat (by show Flat 13;unfold Flat;decide) (λhh=>by have:=hx.nj;omega) (λ_=>⟨rfl,hcal⟩),same,by simp;omega,by simp,?_⟩;rw[hsame];exact H9.sub (.cons .here (.drop (.drop (.cons .here (.cons .here .refl)))))
 have hd:(w=20∧st.length<5)∨(w=20∧¬st.length<5)∨(w=21∧st.length<5)∨(w=21∧¬st.length<5)∨(w=22∧st.length<5)∨(w=22∧¬st.length<5)∨(w=23∧0<st.length)∨(w=23∧¬0<st.length)∨(w=24∧0<st.length)∨(w=24∧¬0<st.length)∨(w=25∧0<st.length)∨(w=25∧¬0<st.length)∨(w=26∧calm=true)∨(w=26∧calm=false∧0<st.length)∨(w=26∧calm=false∧¬0<st.length)∨(w=27∧calm=true)∨(w=27∧calm=false∧0<st.length)∨(w=27∧calm=false∧¬0<st.length)∨(w=28∧calm=true)∨(w=28∧calm=false)∨(w=29∧calm=true)∨(w=29∧calm=false)∨(w=30)∨(w=31)∨(w=32∧calm=true)∨(w=32∧calm=false)∨(w<20∨32<w):=by
  cases calm<;>simp only[reduceCtorEq,and_true,true_and,and_false,false_and,or_false,false_or]<;>omega
 rcases hd with⟨hw1,hs1⟩ |⟨hw1,hs1⟩ |⟨hw1,hs1⟩ |⟨hw1,hs1⟩ |⟨hw1,hs1⟩ |⟨hw1,hs1⟩ |⟨hw1,hs1⟩ |⟨hw1,hs1⟩ |⟨hw1,hs1⟩ |⟨hw1,hs1⟩ |⟨hw1,hs1⟩ |⟨hw1,hs1⟩ |⟨hw1,rfl⟩ |⟨hw1,rfl,hs1⟩ |⟨hw1,rfl,hs1⟩ |⟨hw1,rfl⟩ |⟨hw1,rfl,hs1⟩ |⟨hw1,rfl,hs1⟩ |⟨hw1,rfl⟩ |⟨hw1,rfl⟩ |⟨hw1,rfl⟩ |⟨hw1,rfl⟩ |hw1 |hw1 |⟨hw1,rfl⟩ |⟨hw1,rfl⟩ |hw1
 all_goals repeat (first |with_reducible refine qK omQ ?_ |with_reducible refine qz omQ ?_ |(with_reducible refine qV ?_;try dsimp only) |(with_reducible refine qa ?_;try dsimp only) |(with_reducible refine qp ?_;try dsimp only) |(with_reducible refine qR ?_;try dsimp only) |(with_reducible refine qc ?_;try dsimp only) |with_reducible refine qE ?_ |with_reducible refine qC ?_ |with_reducible refine qZ ?_ |with_reducible refine qJ ?_ |with_reducible refine jB omQ ?_ |with_reducible refine jK omQ ?_ |with_reducible refine yj omQ ?_ |with_reducible refine xW omQ ?_ |with_reducible refine jW ?_ |with_reducible refine jk ?_ |with_reducible refine jr omQ ?_ |with_reducible refine qQ ?_ |(with_reducible refine jt ?_;try dsimp only) |with_reducible refine qX H6 .here rfl ?_ |with_reducible refine qH rfl ?_)
 ·exact beg 14 (.inl rfl) omQ
 ·exact dflt
 ·exact beg 17 (.inr rfl) omQ
 ·exact dflt
 ·exact beg 17 (.inr rfl) omQ
 ·exact dflt
 ·exact shu omQ
 ·exact dflt
 ·exact shu omQ
 ·exact dflt
 ·rw[show(st.length:Int)-((1:Nat):Int)=((st.length-1:Nat):Int) by omega];refine jI (H6.sl e_2) (x:=.int .i64 (opM l st)) (by rw[List.getElem?_map,qQE (List.length_pos_iff.1 hs1)];rfl) ?_;by_cases h14:opM l st=14
  ·refine qz h14 ?_;refine qE (qZ (qH rfl ?_));exact und h14
  ·refine qK h14 ?_;refine qE (qJ (qK omQ ?_));refine qV ?_;(try dsimp only);refine qc ?_;(try dsimp only);refine qK omQ ?_;refine qC (qV ?_);(try dsimp only);refine qR ?_;(try dsimp only);refine qC (qV ?_);(try dsimp only);refine qR ?_;(try dsimp only);refine qC (qJ (qK omQ ?_));refine qV ?_;(try dsimp only);refine qR ?_;(try dsimp only);refine qC (qJ (qK omQ ?_));refine qV ?_;(try dsimp only);refine qR ?_;(try dsimp only);refine qC (qJ (qK omQ ?_));refine qV ?_;(try dsimp only);refine qc ?_;(try dsimp only);refine qK omQ ?_;refine qC (qJ (qK omQ ?_));refine qV ?_;(try dsimp only);refine qR ?_;(try dsimp only);refine qC (qJ ?_)
   exact dflt
 ·exact dflt
 ·exact dflt
 ·exact two 20 (.inl rfl) rfl
 ·exact dflt
 ·exact dflt
 ·exact two 20 (.inl rfl) rfl
 ·exact dflt
 ·exact dflt
 ·exact two 20 (.inl rfl) rfl
 ·exact dflt
 ·exact two 22 (.inr rfl) rfl
 ·exact ovr
 ·exact ovr
 ·exact dflt
 ·exact bak rfl
 ·exact dflt
end
section
variable {g h:AH} {L R:List SP}
theorem YE {p:Int} {c:Cl} {l:List Cl}:zj p (c::l)=if c.1=p then some c.2 else zj p l:=rfl
theorem qxD (zs:List Int) {i:Nat} (h0:0<i) (h:i<szZ zs.length):zj (i:Int) (kW zs)=some (kf zs i):=by
 have e:kW zs=(kW zs).take (i-1)++[((i:Int),kf zs i)]++(kW zs).drop i:=by have hk:=qQ1 zs (show i-1+1<szZ zs.length by omega);rw[show i-1+1=i by omega]at hk;have:=List.take_add_one (l:=kW zs) (i:=i-1);rw[show i-1+1=i by omega,hk,Option.toList_some]at this;rw[← this,List.take_append_drop]
 have hg:∀(l1 l2:List Cl),zj (i:Int) l1=none→zj (i:Int) (l1++l2)=zj (i:Int) l2:=by
  intro l1 l2
  induction l1 with
  |nil=>intro _;rfl
  |cons c l ih=>
   intro hn;rw[YE]at hn
   split at hn
   ·cases hn
   ·rename_i hc;show zj (i:Int) (c::(l++l2))=_;rw[YE,iQ hc];exact ih hn
 rw[e,List.append_assoc,hg _ _ (qj6 zs omQ)];show zj (i:Int) (((i:Int),kf zs i)::_)=_;rw[YE,iJ rfl]
theorem ZZ {zs:List Int} {m:Int} (hz:∀z∈zs,0≤z∧z<18446744073709551616):jC (w6 zs m):=by
 refine⟨qVo zs m,?_,?_⟩
 ·intro c hc;obtain⟨i,_,rfl⟩:=List.mem_map.1 hc;show 0≤kf zs (i+1)∧kf zs (i+1)<18446744073709551616;unfold kf;cases hzi:zs[i+1]? with
  |none=>simp
  |some z=>exact hz z (List.mem_of_getElem? hzi)
 ·intro x hx;simp[w6]at hx;subst hx;intro c hc;cases hc
theorem KY {b o:Nat} {K:AV→Go.Ae.R} {Q:AV→AH→Prop} (w:wp (K (.bool false)) Q):wp (pEq .ptr false (.ptr b o) .nilp K) Q:=w
theorem NV {b o:Nat} {K:AV→Go.Ae.R} {Q:AV→AH→Prop} (w:wp (K (.bool true)) Q):wp (pEq .ptr true (.ptr b o) .nilp K) Q:=w
theorem qV4 (op a n:Int) (s:IM) (V:VM):(zW op a n s V).blk=false:=by unfold zW;split<;>rfl
theorem Zm {mt:List Int} {s:IM} {V:VM} {x:qO} (h:1≤x.1∧x.1≤23) (h1:x.1≠20) (h3:x.1≠23):(doM mt s V x).blk=false:=by
 unfold doM;by_cases c1:x.1=1
 ·rw[iJ c1]
 rw[iQ c1];by_cases c2:x.1=2
 ·rw[iJ c2]
 rw[iQ c2];by_cases c3:x.1=3
 ·rw[iJ c3]
 rw[iQ c3];by_cases c4:x.1=4
 ·rw[iJ c4]
 rw[iQ c4];by_cases c5:x.1=5
 ·rw[iJ c5]
 rw[iQ c5];by_cases c6:x.1=6
 ·rw[iJ c6]
 rw[iQ c6];by_cases c7:x.1=7
 ·rw[iJ c7]
 rw[iQ c7];by_cases c12:x.1=12
 ·rw[iJ c12]
 rw[iQ c12];by_cases c13:x.1=13
 ·rw[iJ c13]
 rw[iQ c13];by_cases c21:x.1=21
 ·rw[iJ c21];split<;>rfl
 rw[iQ c21];by_cases c22:x.1=22
 ·rw[iJ c22]
 rw[iQ c22];by_cases c8:x.1=8∨x.1=9∨x.1=10∨x.1=11
 ·rw[iJ c8]
 rw[iQ c8];unfold gn;by_cases t1:x.1=14∨x.1=17
 ·rw[iJ t1];exact qV4 ..
 rw[iQ t1];by_cases t2:x.1=15∨x.1=19
 ·rw[iJ t2]
 rw[iQ t2];by_cases t3:x.1=18
 ·rw[iJ t3]
 rw[iQ t3];by_cases t4:x.1=16
 ·rw[iJ t4]
 omega
def Calm (l:List qO):Prop:=∀x∈l,x.1≠20
theorem qj1 {l:List qO} (F:Fit l) (Q:Quiet l) (C:Calm l):∀(n:Nat) {s:IM} {V:VM},GI l s V→frS V.lv+n<9000→(jf l (qS l) n s V).kind≠3:=by
 intro n
 induction n with
 |zero=>
  intro s V G hf;rw[kH]
  split
  ·show(2:Int)≠3;decide
  ·show(4:Int)≠3;decide
 |succ n ih=>
  intro s V G hf;rw[QW]
  split
  ·show(2:Int)≠3;decide
  ·rename_i h0;obtain⟨i,hi,hil⟩:=G.pc;have hlt:i<l.length:=by omega
   rw[hi];have S:=GV F G hi hlt omQ (Q.at hlt).2 (Q.at hlt).1;have hb:(doM (qS l) s V (qL l i)).blk=false:=by have hw:=x7 (F.ok i hlt);have hb:=qZi hw.1 (Q.at hlt).1;refine Zm omQ ?_ (Q.at hlt).1;rw[xI hlt];exact C _ (List.getElem_mem hlt)
   generalize doM (qS l) s V (qL l i)=D at*;rw[hb]
   split
   ·rename_i h1;rw[iQ osQ];have hfr:=S.fr;exact ih (S.next h1 hb) omQ
   ·split
    ·show(1:Int)≠3;decide
    ·show(4:Int)≠3;decide
theorem qKi {l:List qO} (F:Fit l) (Q:Quiet l) {zs:List Int} {m:Int} {n:Nat} {s:IM} {V:VM} (G:GI l s V) (hK:V.K=kW zs) (hs:V.sz=szZ zs.length) (hf:frS V.lv+n<9000):(jf l (qS l) n s V).kind≠1:=by intro h;obtain⟨_,_,_,d,_⟩:=qQo F Q n G hf;obtain⟨_,d1,d2,d3⟩:=d h;generalize(jf l (qS l) n s V).v.need=p at*;obtain⟨i,rfl⟩:∃i:Nat,p=i:=⟨p.toNat,by omega⟩;rw[hK,qxD zs omQ omQ]at d3;cases d3
theorem qZd {l:List qO} {zs:List Int} {m:Int} (hz:OkN zs):GI l KU (w6 zs m):=NT rfl (ZZ hz)
theorem qGB (zs:List Int) (m:Int):frS (w6 zs m).lv=0:=by simp[w6,frS]
section
variable {x y v u:Nat} {l l':List qO} {b b':Int} {mt mt':List Int} {s s':IM} {e e' f f' n1 n2 nx nx':Int} {V W:VM}
end
end
section
def OB:Yx→VM→(Int×Int)×Yx×VM
 | .prog q,V=>(((jf q.l (qS q.l) q.left q.s V).kind,(jf q.l (qS q.l) q.left q.s V).err),
   .prog ⟨q.l,(jf q.l (qS q.l) q.left q.s V).s,if(jf q.l (qS q.l) q.left q.s V).kind=1 then 0 else(jf q.l (qS q.l) q.left q.s V).kind,(jf q.l (qS q.l) q.left q.s V).err,(jf q.l (qS q.l) q.left q.s V).left⟩,
   (jf q.l (qS q.l) q.left q.s V).v)
 | .sweep bs k,V=>(if(zf V (bs.drop k) k).1.2=11 then(1,0)else if(zf V (bs.drop k) k).1.2=0 then(2,0)else(4,(zf V (bs.drop k) k).1.2),.sweep bs (zf V (bs.drop k) k).1.1,(zf V (bs.drop k) k).2)
theorem qWS (x:jY):yv x=((OB x.job x.v).1,{ x with job:=(OB x.job x.v).2.1,v:=(OB x.job x.v).2.2 }):=by unfold yv OB;cases x.job<;>rfl
section
variable {S:zr} {M:zJ} {me:Int}
structure KnM (M:zJ) (V:VM):Prop where
  sz:(V.sz:Int)=M.w.length
  K:∀p x,zj p V.K=some x→x=qM M.w p
end
end
section
section
variable {S:zr} {M:zJ} {me:Int}
inductive qQ7:Nat→zX→zJ→zX→zJ→Prop
  |nil {c:zX} {M:zJ}:qQ7 0 c M c M
  |cons {k:Nat} {c d:zX} {M N:zJ} {o:OpM} {a:AnM} {M1:zJ} {c1:zX} (hn:vm c=some o) (e:jg M o=(a,M1)) (h0:a.err=0) (h1:jo c a=c1) (h2:c1.p.fin=0) (r:qQ7 k c1 M1 d N):qQ7 (k+1) c M d N
theorem qQ7.trans {a b:Nat} {x y z:zX} {M N O:zJ} (s:qQ7 a x M y N) (t:qQ7 b y N z O):qQ7 (a+b) x M z O:=by
 induction s with
 |nil=>rw[Nat.zero_add];exact t
 |cons hn e h0 h1 h2 _ ih=>rw[Nat.add_right_comm];exact .cons hn e h0 h1 h2 (ih t)
end
end
section
theorem qQB {l:List LkM} {a b:Int} {x:LkM} (ha:0≤a) (hb:0≤b) (hl:a<l.length):jF (l.set a.toNat x) b=if a=b then x else jF l b:=by
 unfold jF;rw[List.getElem?_set];by_cases h:a=b
 ·rw[iJ (by rw[h]),iJ omQ,iJ h];rfl
 ·rw[iQ omQ,iQ h]
def stoW (w:List Int) (cs:List Cl):List Int:=cs.foldl (λw c=>w.set c.1.toNat c.2) w
section
variable {S:zr} {M:zJ} {me:Int}
theorem O7 {p:JX} {a:AnM} (hp:p.fin=0) (ha:a.err=0):jZ p a=(false,p):=by
 unfold jZ;rw[iQ (λh=>h.2 ha)]
 congr 1
 exact iV (λh=>h hp)
theorem yJ {c:zX} {a:AnM} (hp:c.p.fin=0) (ha:a.err=0):jo c a=if c.state=0∨c.state=1 then wI c a
 else if c.state=2∨c.state=3 then vR c a
 else if c.state=4 then yd c a.lk
 else if c.state=5 then zG { c with at_:=c.at_+1 }
 else if c.state=6 then ym { c with at_:=c.at_+1 }
 else yR { c with at_:=c.at_+1 }:=by
 unfold jo;rw[O7 hp ha];rfl
theorem qXO {M N:zJ} {o:OpM} {a:AnM} (hk:o.kind=1∨o.kind=2) (e:UF M o=(a,N)) (h0:a.err=0):jg M o=(a,{ N with cnt:=N.cnt+1 }):=by
 have e':yc M o=(a,N):=by unfold yc;rw[iJ hk,e]
 rw[wM,e'];exact iJ h0
theorem KL {M N:zJ} {o:OpM} {a:AnM} (hk:o.kind=3∨o.kind=4∨o.kind=5) (e:Y1 M o=(a,N)) (h0:a.err=0):jg M o=(a,{ N with cnt:=N.cnt+1 }):=by
 have e':yc M o=(a,N):=by unfold yc;rw[iQ omQ,iJ hk,e]
 rw[wM,e'];exact iJ h0
theorem NP {M N:zJ} {o:OpM} {a:AnM} (hk:o.kind=6∨o.kind=7) (e:Jy M o=(a,N)) (h0:a.err=0):jg M o=(a,{ N with cnt:=N.cnt+1 }):=by
 have e':yc M o=(a,N):=by unfold yc;rw[iQ omQ,iQ omQ,iJ hk,e]
 rw[wM,e'];exact iJ h0
end
end
section
section
variable {S:zr} {M:zJ} {me:Int}
theorem qWF {j:Yx} {V:VM} (h:InV V):InV (OB j V).2.2:=by
 cases j with
 |prog q=>exact InV.run _ h
 |sweep bs k=>exact InV.gives _ _ h
structure Ended (S:zr) (M:zJ) (me:Int) (R:(Int×Int)×Yx×VM) (y:jY) (N:zJ):Prop where
  st:y.state=8
  me_:y.me=me
  set:y.set=S
  fin:y.fin=R.1.1
  err:y.err=if R.1.1=4 then R.1.2 else 0
  lv:y.v.lv=R.2.2.lv
  job:y.job=R.2.1
  by_:y.by_= -1
  calm:Kl S N me
  s:N.s=M.s.set me.toNat 0
  w:N.w=if R.1.1=2 then stoW M.w (jn R.2.2.lv)else M.w
  n:N.n=M.n+(if R.1.1=2∧jn R.2.2.lv≠[]then 1 else 0)
  stamp:y.stamp=N.n
  begun:y.begun=true
  kind:R.1.1=2∨R.1.1=3∨R.1.1=4
end
end
namespace arenaPlays
variable {g h:AH} {L R:List SP}
def jh (a:Int×Int×Bool):List AV:=[.int .i64 a.1,.int .i64 a.2.1,.bool a.2.2]
end arenaPlays
section
variable {g h:AH} {L R:List SP}
def qVU (zs:List Int) (m:Int) (C:List Cl) (F:List Int):VM:={ w6 zs m with lv:=[(C,F)] }
structure FullS (zs:List Int) (T c i:Nat):Prop where
  len:zs.length=T
  lo:32≤T
  hi:T≤256
  cls:1≤c∧c≤4
  nn:∀z∈zs,0≤z∧z<18446744073709551616
  head:kf zs c=0
  bump:kf zs 5=14+(i:Int)*(vi c+1)
  hdr:∀j,j<i→∀p:Nat,(p:Int)=14+(j:Int)*(vi c+1)→kf zs p=(c:Int)+8
end
namespace arenaFull
open Go Go.Ae arenaPlays
set_option maxRecDepth 100000
variable {g h:AH} {L R:List SP}
end arenaFull
section
structure RawM (S:zr) (M:zJ) (k:Int):Prop where
  w:(M.w.length:Int)=S.words
  wd:∀z∈M.w,U64 z
  w0:M.w[0]? =some 0
  l:M.l=List.replicate S.stripes.toNat lk0
  n:M.n=S.start
  s:M.s=List.replicate S.threads.toNat 0
  cnt:0≤M.cnt∧M.cnt≤k
theorem qZt {S:zr} (O:xd S):RawM S (yA S) 0:=by
 have h1:=O.words;refine⟨by show((List.replicate S.words.toNat (0:Int)).length:Int)=_;rw[List.length_replicate];omega,λz hz=>?_,?_,rfl,rfl,rfl,⟨Int.le_refl _,Int.le_refl _⟩⟩
 ·have:=List.eq_of_mem_replicate hz;subst this;exact⟨Int.le_refl _,by decide⟩
 ·show(List.replicate S.words.toNat (0:Int))[0]? =some 0;rw[List.getElem?_replicate,iJ omQ]
theorem qXi {S:zr} {M:zJ} {k at_ w:Int} (Q:RawM S M k) (ha:1≤at_) (hw:U64 w):RawM S (jg M (op0 2 at_ w)).2 (k+1):=by
 have hc:=MX (M:=M) (o:=op0 2 at_ w);have hq:=Q.cnt;have e:(jg M (op0 2 at_ w)).2.w=(if at_<1∨(M.w.length:Int)≤at_ then M.w else M.w.set at_.toNat w)∧(jg M (op0 2 at_ w)).2.l=M.l∧(jg M (op0 2 at_ w)).2.n=M.n∧(jg M (op0 2 at_ w)).2.s=M.s:=by
  have eW:yc M (op0 2 at_ w)=if at_<1∨(M.w.length:Int)≤at_ then(anE 2,M)else(an0,{ M with w:=M.w.set at_.toNat w }):=by show(if at_<1∨(M.w.length:Int)≤at_ then(anE 2,M)else if(2:Int)=1 then _ else _)=_;rfl
  rw[wM,eW];by_cases h:at_<1∨(M.w.length:Int)≤at_
  ·rw[iJ h,iJ h]
   split<;>exact⟨rfl,rfl,rfl,rfl⟩
  ·rw[iQ h,iQ h]
   split<;>exact⟨rfl,rfl,rfl,rfl⟩
 refine⟨?_,?_,?_,by rw[e.2.1];exact Q.l,by rw[e.2.2.1];exact Q.n,by rw[e.2.2.2];exact Q.s,by omega⟩
 ·rw[e.1]
  split
  ·exact Q.w
  ·rw[List.length_set];exact Q.w
 ·rw[e.1]
  split
  ·exact Q.wd
  ·exact Na Q.wd hw
 ·rw[e.1]
  split
  ·exact Q.w0
  ·rw[List.getElem?_set_ne omQ];exact Q.w0
end
section
open Go Go.Ae arenaPlays
set_option maxRecDepth 100000
variable {g h:AH} {L R:List SP}
end
section
variable {g h:AH} {L R:List SP}
abbrev Yr (l:List qO) (n:Nat) (zs:List Int) (m:Int):RM:=jf l (qS l) n KU (w6 zs m)
end
section
def qV9:Nat→Nat→jJ→zJ→jJ×zJ
 | 0,_,t,M=>(t,M)
 |n+1,i,t,M=>match yH t with
  |none=>(t,M)
  |some o=>qV9 n (i+1) (z8 t (jg M o).1 0 ((i:Int)+1)) (jg M o).2
inductive Nh:Nat→Nat→jJ→zJ→jJ→zJ→Prop
  |nil {i:Nat} {t:jJ} {M:zJ}:Nh i 0 t M t M
  |cons {i m:Nat} {t u:jJ} {M N:zJ} {o:OpM} (hn:yH t=some o) (r:Nh (i+1) m (z8 t (jg M o).1 0 ((i:Int)+1)) (jg M o).2 u N):Nh i (m+1) t M u N
theorem Nh.run {i m:Nat} {t u:jJ} {M N:zJ} (s:Nh i m t M u N):∀n,qV9 (m+n) i t M=qV9 n (i+m) u N:=by
 induction s with
 |nil=>intro n;rw[Nat.zero_add];rfl
 |cons hn r ih=>
  intro n;rename_i i m t u M N o;rw[show m+1+n=(m+n)+1 by omega];have e:qV9 ((m+n)+1) i t M=qV9 (m+n) (i+1) (z8 t (jg M o).1 0 ((i:Int)+1)) (jg M o).2:=by show(match yH t with |none=>(t,M) |some o=>qV9 (m+n) (i+1) (z8 t (jg M o).1 0 ((i:Int)+1)) (jg M o).2)=_;rw[hn]
  rw[e,ih,show i+1+m=i+(m+1) by omega]
theorem Nh.trans {i m k:Nat} {t u v:jJ} {M N P:zJ} (s:Nh i m t M u N):Nh (i+m) k u N v P→Nh i (m+k) t M v P:=by
 induction s with
 |nil=>intro r;rw[Nat.zero_add];exact r
 |cons hn r ih=>rename_i i m t u M N o;intro q;rw[show m+1+k=(m+k)+1 by omega];exact .cons hn (ih (by rw[show i+1+m=i+(m+1) by omega];exact q))
structure qqE (t u:jJ):Prop where
  res:∃r,u.results=t.results++r
  past:u.past.length≤t.past.length+1
structure QS (t u:jJ):Prop where
  res:u.results=t.results
  past:u.past=t.past
theorem QS.refl (t:jJ):QS t t:=⟨rfl,rfl⟩
theorem QS.trans {t u v:jJ} (a:QS t u) (b:QS u v):QS t v:=⟨b.res.trans a.res,b.past.trans a.past⟩
theorem wJ (t:jJ):QS t (zC t):=by unfold zC;split<;>exact⟨rfl,rfl⟩
theorem y8 (t:jJ):QS t (zn t):=(QS.trans (u:={ t with job:=t.job+1,sweep:=false,giving:=[],tries:=0,conf:=0 }) ⟨rfl,rfl⟩ (wJ _))
theorem K4 (t:jJ) (d:Int):QS t (xk t d):=by
 unfold xk
 split
 ·exact(QS.trans (u:={ t with pauses:=0,state:=3 }) ⟨rfl,rfl⟩ (wJ _))
 ·exact⟨rfl,rfl⟩
theorem MY (t:jJ):QS t (vj t):=by
 have key:∀u:jJ,QS u (vP u):=λu=>by
  unfold vP
  split
  ·exact .refl u
  ·split
   ·exact(QS.trans (u:={ u with rests:=u.rests.filter λr=>!jQ u.slots r.2 }) ⟨rfl,rfl⟩ (y8 _))
   ·exact(QS.trans (u:={ u with rests:=u.rests.filter (λr=>!jQ u.slots r.2),sweep:=true,giving:=u.rests.filter (λr=>jQ u.slots r.2),tries:=0,conf:=0 }) ⟨rfl,rfl⟩ (wJ _))
 unfold vj
 split
 ·exact(QS.trans (u:={ t with slots:=t.slots++[0] }) ⟨rfl,rfl⟩ (key _))
 ·exact key t
theorem qVT (t:jJ):QS t (QI t):=by
 unfold QI
 split
 ·exact y8 t
 ·exact(QS.trans (u:={ t with state:=5,slots:=[] }) ⟨rfl,rfl⟩ (MY _))
theorem qJl (t:jJ) (f:Int):QS t (wU t f):=by
 unfold wU
 split
 ·exact(QS.trans (u:={ t with rests:=t.rests++t.giving }) ⟨rfl,rfl⟩ (y8 _))
 ·exact y8 t
theorem qqE.of {t u v:jJ} (a:QS u v) {r:List Vj} (h:u.results=t.results++r) (hp:u.past.length≤t.past.length+1):qqE t v:=⟨⟨r,a.res.trans h⟩,by rw[a.past];exact hp⟩
theorem qQF (t:jJ) (x:jY) (d p:Int):qqE t (yU t x d p):=by
 have h1:(t.past++[jH t x p]).length≤t.past.length+1:=by simp
 have h0:t.results=t.results++[]:=(List.append_nil _).symm;unfold yU;dsimp only
 split
 ·split
  ·exact⟨⟨[],h0⟩,h1⟩
  ·exact .of (u:={ t with past:=t.past++[jH t x p],tries:=t.tries+1,conf:=t.conf+1 }) (K4 _ _) h0 h1
 ·split
  ·split
   ·exact .of (u:={ t with past:=t.past++[jH t x p],tries:=t.tries+1 }) (wJ _) h0 h1
   ·exact⟨⟨[],h0⟩,h1⟩
  ·split
   ·exact .of (u:={ t with past:=t.past++[jH t x p],tries:=t.tries+1 }) (qJl _ _) h0 h1
   ·exact .of (u:={ t with past:=t.past++[jH t x p],tries:=t.tries+1,results:=t.results++[⟨zx x,xl x,zE x,x.stamp⟩],rests:=t.rests++(zD x).map λb=>(b,x.stamp) }) (qVT _) rfl h1
theorem qGF (t:jJ) (a:AnM) (d p:Int):qqE t (z8 t a d p):=by
 have h0:t.results=t.results++[]:=(List.append_nil _).symm;have hr:qqE t t:=⟨⟨[],h0⟩,Nat.le_succ _⟩;unfold z8
 split
 ·split
  ·exact hr
  ·rename_i x _;unfold Q8;dsimp only
   split
   ·exact⟨⟨[],h0⟩,Nat.le_succ _⟩
   ·have G:=qQF { t with now:=some (zV x a),born:=if(zV x a).begun=true∧x.begun=false then p else t.born } (zV x a) d p;exact⟨G.res,G.past⟩
 ·split
  ·split
   ·exact⟨⟨[],h0⟩,Nat.le_succ _⟩
   ·exact .of (u:=t) (K4 _ _) h0 (Nat.le_succ _)
  ·split
   ·exact .of (u:={ t with slots:=t.slots++[if a.err≠0 then 0 else a.word] }) (MY _) h0 (Nat.le_succ _)
   ·exact hr
def ThrW (t:jJ):Prop:=∀x,t.now=some x→Xu x
theorem ThrW.same {t u:jJ} (W:ThrW t) (h:u.now=t.now):ThrW u:=λx hx=>W x (h▸hx)
theorem yu (t:jJ):ThrW (zC t):=by
 unfold zC
 split
 ·exact λx h=>by cases h
 ·intro x h;cases h
  split
  ·exact qji
  ·exact qji
theorem vZ (t:jJ):ThrW (zn t):=yu _
theorem Ki {t:jJ} (W:ThrW t) (d:Int):ThrW (xk t d):=by
 unfold xk
 split
 ·exact yu _
 ·exact W.same rfl
theorem MK {t:jJ} (W:ThrW t):ThrW (vj t):=by
 have key:∀u:jJ,ThrW u→ThrW (vP u):=λu W=>by
  unfold vP
  split
  ·exact W
  ·split
   ·exact vZ _
   ·exact yu _
 unfold vj
 split
 ·exact key _ (W.same rfl)
 ·exact key _ W
theorem qJH {t:jJ} (W:ThrW t) (x:jY) (d p:Int):ThrW (yU t x d p):=by
 unfold yU;dsimp only
 split
 ·split
  ·exact W.same rfl
  ·exact Ki (t:={ t with past:=t.past++[jH t x p],tries:=t.tries+1,conf:=t.conf+1 }) (W.same rfl) _
 ·split
  ·split
   ·exact yu _
   ·exact W.same rfl
  ·split
   ·unfold wU;exact vZ _
   ·unfold QI
    split
    ·exact vZ _
    ·exact MK (t:={ t with past:=t.past++[jH t x p],tries:=t.tries+1,results:=t.results++[⟨zx x,xl x,zE x,x.stamp⟩],rests:=t.rests++(zD x).map λb=>(b,x.stamp),state:=5,slots:=[] }) (W.same rfl)
theorem Mz {t:jJ} (O:xF t) (W:ThrW t) {a:AnM} (ha:vW a) (d p:Int):ThrW (z8 t a d p):=by
 unfold z8
 split
 ·rename_i h1
  split
  ·exact W
  ·rename_i x hx;have C:=O.c omQ;have hN:=(C.now x hx).1;have W1:Xu (zV x a):=qVl hN (W x hx) ha;unfold Q8;dsimp only
   split
   ·intro y hy;cases hy;exact W1
   ·refine qJH (λy hy=>?_) _ _ _;cases hy;exact W1
 ·split
  ·split
   ·exact W.same rfl
   ·exact Ki W _
  ·split
   ·exact MK (t:={ t with slots:=t.slots++[if a.err≠0 then 0 else a.word] }) (W.same rfl)
   ·exact W
theorem Xk {t:jJ} {o:OpM} (O:xF t) (W:ThrW t) (h:yH t=some o):U64 o.word:=by
 have z0:U64 (0:Int):=⟨Int.le_refl _,by decide⟩;unfold yH at h
 split at h
 ·rename_i h1;have C:=O.c omQ;cases hx:t.now with
  |none=>exact absurd hx C.some
  |some x=>rw[hx]at h;exact qV5 (C.now x hx).1 (W x hx) h
 ·split at h
  ·cases h;exact z0
  ·split at h
   ·cases h;exact z0
   ·cases h
end
section
theorem qJm {M:zJ} {o:OpM}:(jg M o).2.w.length=M.w.length∧(jg M o).2.l.length=M.l.length∧(jg M o).2.s.length=M.s.length:=by
 have key:(yc M o).2.w.length=M.w.length∧(yc M o).2.l.length=M.l.length∧(yc M o).2.s.length=M.s.length:=by
  unfold yc UF Y1 Jy Zj
  repeat' split
  all_goals simp
 rw[wM]
 split
 ·exact key
 ·exact key
theorem qJs (t:jJ) (W:ThrW t):ThrW (zk t):=by
 unfold zk
 split
 ·split
  ·exact yu _
  ·exact W.same rfl
 ·exact W
theorem qqN (t:jJ) (W:ThrW t) (s v:Int):ThrW (zm t s v):=by
 unfold zm
 split
 ·exact W
 ·split
  ·split
   ·exact yu _
   ·split
    ·exact W.same rfl
    ·exact W
  ·exact W
theorem UK (t:jJ):(zk t).past=t.past:=by
 unfold zk
 split
 ·split
  ·exact(wJ _).past
  ·rfl
 ·rfl
theorem Nn (t:jJ) (s v:Int):(zm t s v).past=t.past:=by
 unfold zm
 split
 ·rfl
 ·split
  ·split
   ·exact(wJ _).past
   ·split<;>rfl
  ·rfl
structure Uh (m:QY):Prop where
  so:xd m.s
  r:qQD m.m
  len:(m.t.length:Int)=m.s.threads
  w:(m.m.w.length:Int)=m.s.words
  l:(m.m.l.length:Int)=m.s.stripes
  sl:(m.m.s.length:Int)=m.s.threads
  t:∀(i:Nat) (t:jJ),m.t[i]? =some t→xF t∧ThrW t∧(t.past.length:Int)≤m.picks
  picks:0≤m.picks
  cnt:0≤m.m.cnt∧m.m.cnt≤m.picks+1
theorem JS {ts:List jJ} {i:Nat} {s v:Int} {k:Nat}:(yK ts i s v)[k]? =(ts[k]?).map λt=>if k=i then t else zm t s v:=by unfold yK;rw[List.getElem?_mapIdx]
theorem qJI {m:QY} (K:Uh m) {i:Nat} (hi:i<m.t.length) {draw:Int} (hd:0≤draw):Uh (yn m i draw)∧(yn m i draw).s=m.s∧(yn m i draw).picks=m.picks+1:=by
 obtain⟨t,ht⟩:∃t,m.t[i]? =some t:=⟨m.t[i],iW hi⟩;obtain⟨O,W,hp⟩:=K.t i t ht;have hpk:=K.picks;have hct:=K.cnt;have at_k:∀(u:jJ) {k:Nat} {v:jJ},(m.t.set i u)[k]? =some v→(k=i∧v=u)∨(k≠i∧m.t[k]? =some v):=λu k v h=>by
  by_cases e:k=i
  ·subst e;rw[List.getElem?_set_self hi]at h;exact .inl ⟨rfl,(Option.some.inj h).symm⟩
  ·rw[List.getElem?_set_ne (λh=>e h.symm)]at h;exact .inr ⟨e,h⟩
 unfold yn;rw[ht];dsimp only
 split
 ·refine⟨⟨K.so,K.r,by show((m.t.set i _).length:Int)=_;rw[List.length_set];exact K.len,K.w,K.l,K.sl,λk v hv=>?_,by show 0≤m.picks+1;omega,by show 0≤m.m.cnt∧m.m.cnt≤m.picks+1+1;omega⟩,rfl,rfl⟩;show xF v∧ThrW v∧(v.past.length:Int)≤m.picks+1;rcases at_k _ hv with⟨_,rfl⟩ |⟨_,h⟩
  ·exact⟨G4 O,qJs t W,by rw[UK];omega⟩
  ·obtain⟨a,b,c⟩:=K.t k v h;exact⟨a,b,by omega⟩
 ·rename_i o hn;have ho:=Xk O W hn;obtain⟨a1,a2⟩:=Y6 K.r ho;have O':=GT O a1 hd (pick:=m.picks+1) (draw:=draw);have W':=Mz O W a1 draw (m.picks+1);have G:=(qGF t (jg m.m o).1 draw (m.picks+1)).past;obtain⟨l1,l2,l3⟩:=qJm (M:=m.m) (o:=o);have lc:=MX (M:=m.m) (o:=o);generalize jg m.m o=r at*;generalize z8 t r.1 draw (m.picks+1)=u at*;have one:∀(k:Nat) (v:jJ),(m.t.set i u)[k]? =some v→xF v∧ThrW v∧(v.past.length:Int)≤m.picks+1:=λk v hv=>by
   rcases at_k _ hv with⟨_,rfl⟩ |⟨_,h⟩
   ·exact⟨O',W',by omega⟩
   ·obtain⟨a,b,c⟩:=K.t k v h;exact⟨a,b,by omega⟩
  have base:∀ts:List jJ,ts.length=m.t.length→(∀(k:Nat) (v:jJ),ts[k]? =some v→xF v∧ThrW v∧(v.past.length:Int)≤m.picks+1)→Uh { m with picks:=m.picks+1,last:=o,did:=true,m:=r.2,t:=ts }:=λts hl H=>⟨K.so,a2,by show(ts.length:Int)=_;rw[hl];exact K.len,by show(r.2.w.length:Int)=_;rw[l1];exact K.w,by show(r.2.l.length:Int)=_;rw[l2];exact K.l,by show(r.2.s.length:Int)=_;rw[l3];exact K.sl,H,by show 0≤m.picks+1;omega,by show 0≤r.2.cnt∧r.2.cnt≤m.picks+1+1;omega⟩
  refine⟨?_,rfl,rfl⟩
  split
  ·refine base _ (by unfold yK;simp) λk v hv=>?_;rw[JS]at hv;cases hq:(m.t.set i u)[k]? with
   |none=>rw[hq]at hv;cases hv
   |some q=>
    rw[hq]at hv;have hv:(if k=i then q else zm q o.at_ o.lk.1)=v:=Option.some.inj hv;obtain⟨b1,b2,b3⟩:=one k q hq;subst hv
    split
    ·exact⟨b1,b2,b3⟩
    ·exact⟨My b1,qqN q b2 _ _,by rw[Nn];exact b3⟩
  ·exact base _ osQ one
theorem qvR {s:zr} {jobs:List (List (List qO))} (hs:0≤s.start) (hj:∀js∈jobs,∀l∈js,(zt l).2=0∧Quiet l):Uh (OD s jobs):=by
 have so:xd (jz { s with threads:=((jobs.take 4).length:Int) }):=yr hs;have q1:=so.words;have q2:=so.stripes;have q3:=so.threads;have q4:=so.start;have Q:=qXi (qZt so) (at_:=5) (w:=14) od ⟨by decide,by decide⟩;unfold OD;dsimp only;generalize jz { s with threads:=((jobs.take 4).length:Int) }=S at*;refine⟨so,⟨Q.wd,by rw[Q.n];exact⟨q4.1,by omega⟩,λz hz=>?_⟩,?_,Q.w,?_,?_,λi t ht=>?_,Int.le_refl _,?_⟩
 ·rw[Q.s]at hz;rw[(List.mem_replicate.1 hz).2];exact⟨by decide,by decide⟩
 ·show((((List.range S.threads.toNat).map _).length:Nat):Int)=S.threads;rw[List.length_map,List.length_range];omega
 ·rw[Q.l,List.length_replicate];show((S.stripes.toNat:Nat):Int)=S.stripes;omega
 ·rw[Q.s,List.length_replicate];show((S.threads.toNat:Nat):Int)=S.threads;omega
 ·rw[List.getElem?_map]at ht;by_cases hi:i<S.threads.toNat
  ·rw[List.getElem?_range hi]at ht;have ht:=Option.some.inj ht;subst ht;have hjs:∀l∈(((jobs.take 4)[i]?).getD []),(zt l).2=0∧Quiet l:=λl hl=>by
    cases hx:(jobs.take 4)[i]? with
    |none=>rw[hx]at hl;cases hl
    |some js=>rw[hx]at hl;exact hj js (List.mem_of_mem_take (List.mem_of_getElem? hx)) l hl
   refine⟨qjU q4.1 hjs,vZ _,?_⟩;have:(VV (i:Int) S (((jobs.take 4)[i]?).getD [])).past=[]:=(y8 _).past;rw[this];exact Int.le_refl _
  ·rw[List.getElem?_eq_none (by simp;omega)]at ht;cases ht
 ·have:=Q.cnt;show 0≤(jg (yA S) (op0 2 5 14)).2.cnt∧_≤(0:Int)+1;omega
end
section
variable {g h:AH} {L R:List SP}
theorem qKP:∀{l:List Cl} {c:Cl},UnC l→c∈l→zj c.1 l=some c.2:=by
 intro l
 induction l with
 |nil=>intro c _ h;cases h
 |cons d l ih=>
  intro c hu hc;unfold UnC at hu;rw[List.map_cons,List.nodup_cons]at hu;unfold zj;rcases List.mem_cons.1 hc with rfl |hc
  ·rw[iJ rfl]
  ·rw[iQ (λh=>hu.1 (by rw[h];exact List.mem_map.2 ⟨c,hc,rfl⟩))];exact ih hu.2 hc
theorem qVc {n:Nat} (hn:1≤n) {v:Nat} {M:VM} (H:HS g h (ViewC v M::R)) (O:OkV M) :
  t_w n 131 [.ptr v 0] h λr h'=>HS g h' (qA 177 2 M.K.length r (M.K.flatMap jL)::ViewC v M::R):=by
 refine t_e1 (S:=S131) rfl omQ λk hk=>?_;unfold S131;try simp only[iZ]
 obtain⟨fv,ov,q,e,H⟩:=ViewC.E H;have hkl:=O.klen;refine qG (qQ (qX ‹_› .here rfl ?_));refine qi ‹_› e_2 ?_;refine YS (ln:=0) (cp:=M.K.length) (sz:=2) H rfl omQ omQ λkv h1 H1=>?_;rw[Nat.zero_mul,List.take_zero]at H1;refine qG (qQ (qX ‹_› e_1 rfl ?_));refine qi ‹_› e_3 ?_
 refine jw (λm s h'=>∃(i:Nat) (kv:AV),s=(.int .i64 (i:Int),.int .i64 (M.K.length:Int),ov,kv,.ptr v 0,())∧i≤M.K.length∧m=M.K.length-i∧
  HS g h' (qA 177 2 i kv ((M.K.take i).flatMap jL)::qk v [fv,ov,.ptr q 0,.int .i64 M.need]::qA e 2 M.sz fv ((yM M.sz M.K).flatMap QM)::
   qA 3 1 M.K.length ov (M.K.map λc=>.int .i64 c.1)::LgC q M.most M.lv::R))
  ?_ (m:=M.K.length) (by show _<1000000000;omega) ⟨0,kv,rfl,by omega,by omega,by rw[List.take_zero];exact H1⟩
 clear H H1;rintro m ih s h2 hih ⟨i,kv,rfl,hi,rfl,H⟩;dsimp only;by_cases hlt:i<M.K.length
 ·have hci:M.K[i]? =some M.K[i]:=iW hlt;have hin:=O.ins M.K[i] (List.getElem_mem hlt);have hg:=qKP O.un (List.getElem_mem hlt);have hnext:M.K.take (i+1)=M.K.take i++[M.K[i]]:=List.take_succ_eq_append_getElem hlt;generalize hc:M.K[i]=c at*;obtain⟨p,x⟩:=c;dsimp only at hin hg;obtain⟨p,rfl⟩:∃j:Nat,p=(j:Int):=⟨p.toNat,by omega⟩;refine jB omQ ?_;refine qZ (jI (H.sl e_3) (x:=.int .i64 (p:Int)) (by rw[List.getElem?_map,hci];rfl) ?_);refine qG (qQ (qX ‹_› e_1 rfl ?_));have hf:gC M.K p=(x,true):=by unfold gC;rw[hg]
  refine xo (x:=.int .u64 x) (H.sl e_2) omQ omQ (by rw[Js (sz:=2) QM (λ_=>rfl) _ _ _ omQ,QJ omQ,hf];rfl) ?_;refine qH rfl ?_;refine qe (n:=1) (l:=[.int .i64 (p:Int),.int .u64 x]) (sz:=2) H rfl rfl rfl rfl λv5 h5 H5=>?_;refine jR (H5.sel e_1) (H5.sl .here) omQ omQ rfl λv6 h6 H6=>?_;refine qb omQ ?_;refine hih (M.K.length-(i+1)) _ _ omQ ⟨i+1,v6,rfl,by omega,rfl,?_⟩;rw[hnext,List.flatMap_append];exact H6.sub (.cons .here (.drop .refl))
 ·obtain rfl:i=M.K.length:=by omega
  refine jK omQ ?_;refine qJ (qx ?_);rw[List.take_length]at H
  have H2:HS g h2 (qk v [fv,ov,.ptr q 0,.int .i64 M.need]::qA e 2 M.sz fv ((yM M.sz M.K).flatMap QM)::qA 3 1 M.K.length ov (M.K.map λc=>.int .i64 c.1)::LgC q M.most M.lv::
   qA 177 2 M.K.length kv (M.K.flatMap jL)::R):=H.sub (.cons e_1 (.cons e_1 (.cons e_1 (.cons e_1 .refl))))
  exact qq ((ViewC.I H2).sub (.cons e_1 .refl))
end
section
variable {g h:AH} {L R:List SP}
theorem w5 {c:CV} {l:List (Nat×Nat)} {t:TypeId} {x:AV} {f:Nat} {a:List AV} {K2:AV→AH→Go.Ae.R} {Q Q':AV→AH→Prop} (hf:G6 l t=some f) (w:wp (c (.fn f [] []) (x::a) h) Q') (hk:∀v h',Q' v h'→wp (K2 v h') Q):wp (yV c l (.iface t x) a h K2) Q:=by show wp (Option.rec (motive:=λ_=>Go.Ae.R) none (λf=>jm c (.fn f [] []) (x::a) h K2) (G6 l t)) Q;rw[hf];exact qW w hk
structure O9 where
  rv:AV
  bv:AV
  iv:AV
  fv:AV
  ev:AV
  cv:AV
  gv:Int
  vb:Nat
  db:Nat
def zu (x:jY) (q:O9):List AV:=[.int .i64 x.me,.int .i64 x.set.words,.int .i64 x.set.stripes,.int .i64 x.set.wide,.int .i64 x.set.threads,.int .u64 x.set.start,.int .i64 x.set.spins,.int .i64 x.set.writes,.int .i64 x.set.fuel,
 q.rv,q.bv,.int .i64 q.gv,.ptr q.vb 0,.ptr q.db 0,.int .i64 x.state,q.iv,q.fv,q.ev,q.cv,.bool x.begun,.int .u64 x.begin_,.int .u64 x.stamp,.int .i64 x.fin,.int .i64 x.by_,.int .i64 x.err,.bool x.blocking]
def JobC (vb:Nat) (j:Yx) (rv bv:AV) (gv:Int):SP:=match j with
 | .prog q=>.ex λz:Nat×Int=>.all [.pur (rv=.ptr z.1 0∧bv=.nils∧gv=0),IntC z.1 vb q.l 0 (qS q.l) q.s q.err q.fin q.left z.2]
 | .sweep bs k=>.all [.pur (rv=.nilp∧gv=(k:Int)),qA 3 1 bs.length bv (bs.map (.int .i64))]
def InnC (st:Int) (f:QN) (e:JJ) (c:Option zX) (iv fv ev cv:AV):SP:=match c with
 |some c=>.ex λb:Nat=>.all [.pur (cv=.ptr b 0∧(st=6→iv=.iface 159 (.ptr b 0))),ComC b c]
 |none=>
  if st=3 then .ex λb:Nat=>.all [.pur (cv=.nilp∧fv=.ptr b 0∧iv=.iface 157 (.ptr b 0)),qk b (ge f)]
  else if st=4∨st=5 then .ex λb:Nat=>.all [.pur (cv=.nilp∧ev=.ptr b 0∧iv=.iface 158 (.ptr b 0)),ExtC b e]
  else .pur (cv=.nilp)
abbrev qJ2 (a:Nat) (x:jY) (q:O9) (R:List SP):List SP:=qk a (zu x q)::JobC q.vb x.job q.rv q.bv q.gv::ViewC q.vb x.v::RdsC q.db x.r::InnC x.state x.f x.e x.c q.iv q.fv q.ev q.cv::R
def AttC (a:Nat) (x:jY):SP:=.ex λq:O9=>.all (qJ2 a x q [])
section
variable {n a:Nat} {x:jY} {q:O9}
theorem AttC.E (H:HS g h (AttC a x::R)):∃q,HS g h (qJ2 a x q R):=by obtain⟨q,H⟩:=H.exE;exact⟨q,H.allE⟩
theorem AttC.I (H:HS g h (qJ2 a x q R)):HS g h (AttC a x::R):=HS.exI q (HS.allI (A:=qJ2 a x q []) H)
theorem qK6 (hn:1≤n) (H:HS g h L) (s:Sel L (qk a (zu x q)) R):t_w n 58 [.ptr a 0] h λr h'=>r=.tup [.int .u64 x.begin_,.bool x.begun]∧h'=h:=by
 refine t_e1 (S:=S58) rfl omQ λk hk=>?_;unfold S58;try simp only[iZ]
 refine qG (qQ (qX H s rfl ?_));refine qG (qQ (qX H s rfl ?_))
 skip
 exact qq ⟨rfl,rfl⟩
theorem qXf (hn:1≤n) (H:HS g h L) (s:Sel L (qk a (zu x q)) R):t_w n 93 [.ptr a 0] h λr h'=>r=.int .u64 x.stamp∧h'=h:=by
 refine t_e1 (S:=S93) rfl omQ λk hk=>?_;unfold S93;try simp only[iZ]
 refine qG (qQ (qX H s rfl ?_))
 skip
 exact qq ⟨rfl,rfl⟩
theorem qZ0 (hn:1≤n) (H:HS g h L) (s:Sel L (qk a (zu x q)) R):t_w n 60 [.ptr a 0] h λr h'=>r=.int .i64 (zx x)∧h'=h:=by
 refine t_e1 (S:=S60) rfl omQ λk hk=>?_;unfold S60;try simp only[iZ]
 refine qG (qQ (qX H s rfl ?_));unfold zx;by_cases c:x.state=8
 ·rw[iQ (λh=>h c)];refine q8 c ?_;refine qJ (qG (qQ (qX H s rfl ?_)));exact qq ⟨rfl,rfl⟩
 ·rw[iJ c];refine qu c ?_;refine qZ ?_;exact qq ⟨rfl,rfl⟩
theorem qxm (hn:1≤n) (H:HS g h L) (s:Sel L (qk a (zu x q)) R):t_w n 91 [.ptr a 0] h λr h'=>r=.int .i64 (xl x)∧h'=h:=by
 refine t_e1 (S:=S91) rfl omQ λk hk=>?_;unfold S91;try simp only[iZ]
 refine qG (qQ (qX H s rfl ?_));unfold xl;by_cases c:x.state=8
 ·rw[iQ (λh=>h c)];refine q8 c ?_;refine qJ (qG (qQ (qX H s rfl ?_)));exact qq ⟨rfl,rfl⟩
 ·rw[iJ c];refine qu c ?_;refine qZ ?_;exact qq ⟨rfl,rfl⟩
theorem qv7 (hn:1≤n) (H:HS g h L) (s:Sel L (qk a (zu x q)) R):t_w n 88 [.ptr a 0] h λr h'=>r=.int .i64 (QX x)∧h'=h:=by
 refine t_e1 (S:=S88) rfl omQ λk hk=>?_;unfold S88;try simp only[iZ]
 refine qG (qQ (qX H s rfl ?_));unfold QX;by_cases c:x.state=8
 ·rw[iQ (λh=>h c)];refine q8 c ?_;refine qJ (qG (qQ (qX H s rfl ?_)));exact qq ⟨rfl,rfl⟩
 ·rw[iJ c];refine qu c ?_;refine qZ ?_;exact qq ⟨rfl,rfl⟩
theorem Qz {f e y:Int} (hn:1≤n) (H:HS g h (qk a (zu x q)::R)):t_w n 85 [.ptr a 0,.int .i64 f,.int .i64 e,.int .i64 y] h λ_ h'=>HS g h' (qk a (zu (yF x f e y) q)::R):=by
 refine t_e4 (S:=S85) rfl omQ λk hk=>?_;unfold S85;try simp only[iZ]
 refine qG (qQ (qg H (b:=a) .here ⟨rfl,rfl⟩ (by simp[zu]) λh1 H1=>?_));refine qG (qQ (qg H1 (b:=a) .here ⟨rfl,rfl⟩ (by simp[zu]) λh2 H2=>?_));refine qG (qQ (qg H2 (b:=a) .here ⟨rfl,rfl⟩ (by simp[zu]) λh3 H3=>?_));refine qG (qQ (qg H3 (b:=a) .here ⟨rfl,rfl⟩ (by simp[zu]) λh4 H4=>?_));exact qq H4
theorem InnC.nil {st:Int} {f:QN} {e:JJ} {iv fv ev cv:AV} (H:HS g h (InnC st f e none iv fv ev cv::R)):cv=.nilp∧HS g h R:=by
 unfold InnC at H;dsimp only at H
 split at H
 ·obtain⟨b,H⟩:=H.exE;have H:=H.allE;exact⟨H.purE.1.1,H.drop.drop⟩
 ·split at H
  ·obtain⟨b,H⟩:=H.exE;have H:=H.allE;exact⟨H.purE.1.1,H.drop.drop⟩
  ·exact H.purE
theorem InnC.fet {f:QN} {e:JJ} {iv fv ev cv:AV} (H:HS g h (InnC 3 f e none iv fv ev cv::R)):∃b,(cv=.nilp∧fv=.ptr b 0∧iv=.iface 157 (.ptr b 0))∧HS g h (qk b (ge f)::R):=by obtain⟨b,H⟩:=(show HS g h (.ex (λb:Nat=>SP.all [.pur (cv=.nilp∧fv=.ptr b 0∧iv=.iface 157 (.ptr b 0)),qk b (ge f)])::R)from H).exE;exact⟨b,H.allE.purE⟩
end
end
section
variable {g h:AH} {L R:List SP}
section
variable {n a:Nat} {x:jY} {q:O9}
theorem N0 {K:AV→Go.Ae.R} {Q:AV→AH→Prop} (w:wp (K (.bool false)) Q):wp (pEq .ptr true .nilp .nilp K) Q:=w
theorem VJ {K:AV→Go.Ae.R} {Q:AV→AH→Prop} (w:wp (K (.bool true)) Q):wp (pEq .ptr false .nilp .nilp K) Q:=w
theorem JobC.P {vb:Nat} {p:RunS} {rv bv:AV} {gv:Int} (H:HS g h (JobC vb (.prog p) rv bv gv::R)):∃ib nx,(rv=.ptr ib 0∧bv=.nils∧gv=0)∧HS g h (IntC ib vb p.l 0 (qS p.l) p.s p.err p.fin p.left nx::R):=by obtain⟨z,H⟩:=(show HS g h (.ex (λz:Nat×Int=>SP.all [.pur (rv=.ptr z.1 0∧bv=.nils∧gv=0),IntC z.1 vb p.l 0 (qS p.l) p.s p.err p.fin p.left z.2])::R)from H).exE;exact⟨z.1,z.2,H.allE.purE⟩
theorem JobC.PI {vb ib:Nat} {p:RunS} {nx:Int} {rv bv:AV} {gv:Int} (e:rv=.ptr ib 0∧bv=.nils∧gv=0) (H:HS g h (IntC ib vb p.l 0 (qS p.l) p.s p.err p.fin p.left nx::R)):HS g h (JobC vb (.prog p) rv bv gv::R) :=
 show HS g h (.ex (λz:Nat×Int=>SP.all [.pur (rv=.ptr z.1 0∧bv=.nils∧gv=0),IntC z.1 vb p.l 0 (qS p.l) p.s p.err p.fin p.left z.2])::R)from
  HS.exI (ib,nx) (HS.allI (A:=[_,_]) (HS.purI e H))
theorem JobC.S {vb k:Nat} {bs:List Int} {rv bv:AV} {gv:Int} (H:HS g h (JobC vb (.sweep bs k) rv bv gv::R)):(rv=.nilp∧gv=(k:Int))∧HS g h (qA 3 1 bs.length bv (bs.map (.int .i64))::R) :=
 ((show HS g h (SP.all [.pur (rv=.nilp∧gv=(k:Int)),qA 3 1 bs.length bv (bs.map (.int .i64))]::R)from H).allE).purE
theorem JobC.SI {vb k:Nat} {bs:List Int} {rv bv:AV} {gv:Int} (e:rv=.nilp∧gv=(k:Int)) (H:HS g h (qA 3 1 bs.length bv (bs.map (.int .i64))::R)):HS g h (JobC vb (.sweep bs k) rv bv gv::R) :=
 show HS g h (SP.all [.pur (rv=.nilp∧gv=(k:Int)),qA 3 1 bs.length bv (bs.map (.int .i64))]::R)from HS.allI (A:=[_,_]) (HS.purI e H)
theorem qZo {l:List Int} {k:Nat} (h:k<l.length):(l.map (.int .i64))[k]? =some (AV.int .i64 l[k]):=by rw[List.getElem?_map,iW h];rfl
theorem qgc (hn:16≤n) (hg:jC x.v) (hf:frS x.v.lv<9000) (hj:JobOk True x.v x.job) (H:HS g h (qk a (zu x q)::JobC q.vb x.job q.rv q.bv q.gv::ViewC q.vb x.v::R)) :
  t_w n 114 [.ptr a 0] h λr h'=>r=.tup [.int .i64 (yv x).1.1,.int .i64 (yv x).1.2]∧
   ∃gv,HS g h' (qk a (zu (yv x).2 { q with gv:=gv })::JobC q.vb (yv x).2.job q.rv q.bv gv::ViewC q.vb (yv x).2.v::R):=by
 refine t_e1 (S:=S114) rfl omQ λk hk=>?_;unfold S114;try simp only[iZ]
 unfold yv;cases hx:x.job with
 |prog p=>
  rw[hx]at H hj;obtain⟨F,Q,gb,hr,hl⟩:=hj;obtain⟨G,h0,h1,h2⟩:=hr trivial;obtain⟨ib,nx,⟨e1,e2,e3⟩,H1⟩:=JobC.P (H.sel e_1);refine qG (qQ (qX H (b:=a) .here (x:=.ptr ib 0) (by rw[← e1];rfl) ?_));refine NV (qZ (qV ?_))
  try dsimp only
  refine qG (qQ (qX H (b:=a) .here (x:=.ptr ib 0) (by rw[← e1];rfl) ?_));rw[h0,h1]at H1;refine qW (qk2 omQ F Q G h2 omQ (H1.sub (.cons .here (.cons e_1 (.cons .here .refl))))) ?_;rintro _ h3 ⟨rfl,nx',H3⟩;refine qG (qQ (qX H3 (b:=a) e_2 (x:=.ptr ib 0) (by rw[← e1];rfl) ?_));refine qW (qxC omQ H3) ?_;rintro _ _ ⟨rfl,rfl⟩;refine qU H .here (by rw[← e1];rfl) H3 e_2 (by rw[← e1];rfl) (HS.lt H .here) ?_;refine qq ⟨rfl,0,?_⟩;have H4:=(JobC.PI (p:=⟨p.l,(jf p.l (qS p.l) p.left p.s x.v).s,if(jf p.l (qS p.l) p.left p.s x.v).kind=1 then 0 else(jf p.l (qS p.l) p.left p.s x.v).kind,(jf p.l (qS p.l) p.left p.s x.v).err,(jf p.l (qS p.l) p.left p.s x.v).left⟩) ⟨e1,e2,rfl⟩ H3).sub (.cons e_2 (.cons .here (.cons .here .refl)));have eg:zu x q=zu x { q with gv:=0 }:=by unfold zu;rw[e3]
  rw[eg]at H4;exact H4
 |sweep bs k=>
  rw[hx]at H hj;obtain⟨⟨e1,e2⟩,H1⟩:=JobC.S (H.sel e_1);refine qG (qQ (qX H (b:=a) .here (x:=.nilp) (by rw[← e1];rfl) ?_));refine N0 (qJ ?_);have hkl:=hj.1;have hbl:=hj.2;dsimp only;generalize hG:zf x.v (bs.drop k) k=G
  refine jw (λm s h'=>s=(.ptr a 0,())∧∃(i:Nat) (V:VM),i≤bs.length∧m=bs.length-i∧jC V∧zf V (bs.drop i) i=G∧
    HS g h' (qk a (zu x { q with gv:=(i:Int) })::qA 3 1 bs.length q.bv (bs.map (.int .i64))::ViewC q.vb V::R))
   ?_ (m:=bs.length-k) (by show _<1000000000;omega) ⟨rfl,k,x.v,hkl,rfl,hg,hG,by
    have:q={ q with gv:=(k:Int) }:=by rw[← e2]
    rw[← this]
    exact H1.sub (.cons e_1 (.cons .here .refl))⟩
  clear H H1 hG;rintro m ih s h1 hih ⟨rfl,i,V,hi,rfl,hV,hG,H⟩;dsimp only;refine qG (qQ (qX H (b:=a) .here rfl ?_));refine qG (qQ (qX H (b:=a) .here rfl ?_));refine qi H e_1 ?_;by_cases hlt:i<bs.length
  ·refine jB (by show(i:Int)<_;omega) (qZ ?_);refine qG (qQ (qX H (b:=a) .here rfl ?_));refine qG (qQ (qX H (b:=a) .here rfl ?_));refine qG (qQ (qX H (b:=a) .here rfl ?_));refine jI (H.sl e_1) (qZo hlt) ?_;refine qW (qGs (b:=bs[i]) omQ (H.sel e_2) hV.ok) ?_;rintro _ h2 ⟨rfl,H2⟩;rw[List.drop_eq_getElem_cons hlt]at hG;by_cases h0:(xw V bs[i]).1=0
   ·refine qz h0 (qZ ?_);refine qG (qQ (qX H2 (b:=a) e_1 (x:=.int .i64 (i:Int)) rfl ?_));refine qb omQ ?_;refine qG (qQ ?_);refine qg H2 (b:=a) e_1 ⟨rfl,rfl⟩ (by simp[zu]) λh3 H3=>?_;refine hih (bs.length-(i+1)) _ _ omQ ⟨rfl,i+1,(xw V bs[i]).2,by omega,rfl,hV.give.1,?_,H3.sub (.cons .here (.cons e_1 (.cons .here .refl)))⟩;rw[show zf V (bs[i]::bs.drop (i+1)) i=zf (xw V bs[i]).2 (bs.drop (i+1)) (i+1)from iJ h0]at hG;exact hG
   ·rw[show zf V (bs[i]::bs.drop (i+1)) i=((i,(xw V bs[i]).1),(xw V bs[i]).2)from iQ h0]at hG;subst hG;refine qK h0 (qJ ?_);have H3:=(JobC.SI (vb:=q.vb) (k:=i) ⟨e1,rfl⟩ (H2.sub (.cons e_2 (.cons e_1 (.cons .here .refl))))).sub (.cons e_1 (.cons .here (.cons .here .refl)));by_cases h11:(xw V bs[i]).1=11
    ·refine qz h11 (qZ (qx (qq ⟨?_,(i:Int),?_⟩)))
     ·rw[iJ h11];rfl
     ·exact H3
    ·refine qK h11 (qJ (qx (qq ⟨?_,(i:Int),?_⟩)))
     ·rw[iQ h11,iQ h0];rfl
     ·exact H3
  ·obtain rfl:i=bs.length:=by omega
   rw[List.drop_length,show zf V [] bs.length=((bs.length,0),V)from rfl]at hG;subst hG;refine jK (by show¬(bs.length:Int)<_;omega) (qJ (qx (qq ⟨rfl,(bs.length:Int),?_⟩)));have H3:=(JobC.SI (vb:=q.vb) (k:=bs.length) ⟨e1,rfl⟩ (H.sub (.cons e_1 (.cons .here (.cons .here .refl))))).sub (.cons e_1 (.cons .here (.cons .here .refl)));exact H3
theorem GS {st:Int} {t b:Nat} (hn:1≤n) (H:HS g h (qk a (zu x q)::R)):t_w n 120 [.ptr a 0,.int .i64 st,.iface t (.ptr b 0)] h λ_ h'=>HS g h' (qk a (zu { x with state:=st } { q with iv:=.iface t (.ptr b 0) })::R):=by
 refine t_e3 (S:=S120) rfl omQ λk hk=>?_;unfold S120;try simp only[iZ]
 refine qG (qQ (qg H (b:=a) .here ⟨rfl,rfl⟩ (by simp[zu]) λh1 H1=>?_));refine qG (qQ (qg H1 (b:=a) .here ⟨rfl,rfl⟩ (by simp[zu]) λh2 H2=>?_));exact qq H2
theorem qZM {p:Int} (hn:3≤n) (hp:p<4611686018427387904) (H:HS g h (qk a (zu x q)::R)):t_w n 115 [.ptr a 0,.int .i64 p] h λ_ h'=>
  ∃b,HS g h' (qk b (ge (GN x p).f)::qk a (zu (GN x p) { q with iv:=.iface 157 (.ptr b 0),fv:=.ptr b 0 })::R):=by
 refine t_e2 (S:=S115) rfl omQ λk hk=>?_;unfold S115;try simp only[iZ]
 refine qV ?_
 try dsimp only
 refine qG (qQ (qX H (b:=a) .here rfl ?_));refine qG (qQ (qh (qh (qX H (b:=a) .here rfl ?_))));refine qG (qQ (qh (qh (qX H (b:=a) .here rfl ?_))));refine qW (qG2 omQ hp) ?_;rintro _ _ ⟨rfl,rfl⟩;refine qG (qQ (qh (qX H (b:=a) .here rfl ?_)));refine qG (qQ (qX H (b:=a) .here rfl ?_));refine qW (qxl omQ H) ?_;rintro _ h1 ⟨b,rfl,H1⟩;refine qG (qQ ?_);refine qg H1 (b:=a) e_1 (x:=.ptr b 0) ⟨rfl,rfl⟩ (by simp[zu]) λh2 H2=>?_;refine qU H .here rfl H .here rfl (HS.lt H .here) ?_;refine qU H .here rfl H .here rfl (HS.lt H .here) ?_;refine qU H .here rfl H .here rfl (HS.lt H .here) ?_;have H3:HS g h2 (qk a (zu { x with f:=qQ2 x.me p (ofM p x.set.stripes x.set.wide) x.set.spins x.stamp } { q with fv:=.ptr b 0 })::qk b (ge (qQ2 x.me p (ofM p x.set.stripes x.set.wide) x.set.spins x.stamp))::R):=H2;refine qG (qQ (qX H3 (b:=a) .here rfl ?_));refine qW (GS omQ H3) λ_ h4 H4=>qq ⟨b,H4.sub (.cons e_1 (.cons .here .refl))⟩
theorem VU {st:Int} (hn:4≤n) (hr:x.r.length≤16) (H:HS g h (qk a (zu x q)::RdsC q.db x.r::R)):t_w n 117 [.ptr a 0,.int .i64 st] h λ_ h'=>
  ∃b,HS g h' (ExtC b (Qe x st).e::qk a (zu (Qe x st) { q with iv:=.iface 158 (.ptr b 0),ev:=.ptr b 0 })::RdsC q.db x.r::R):=by
 refine t_e2 (S:=S117) rfl omQ λk hk=>?_;unfold S117;try simp only[iZ]
 refine qV ?_
 try dsimp only
 refine qG (qQ (qX H (b:=a) .here rfl ?_));refine qG (qQ (qh (qX H (b:=a) .here rfl ?_)));refine qG (qQ (qX H (b:=a) .here rfl ?_));refine qW (Nd omQ omQ (H.sel e_1)) λv h1 H1=>?_;refine qW (qzU (me:=x.me) (sp:=x.set.spins) (r:=x.r) omQ omQ H1) ?_;rintro _ h2 ⟨b,rfl,H2⟩;refine qG (qQ ?_);refine qg H2 (b:=a) e_2 (x:=.ptr b 0) ⟨rfl,rfl⟩ (by simp[zu]) λh3 H3=>?_;refine qU H .here rfl H1 e_2 rfl (HS.lt H .here) ?_;refine qU H .here rfl H1 e_2 rfl (HS.lt H .here) ?_;have H4:HS g h3 (qk a (zu { x with e:=NC x.me x.set.spins x.r } { q with ev:=.ptr b 0 })::ExtC b (NC x.me x.set.spins x.r)::RdsC q.db x.r::R):=H3;refine qG (qQ (qX H4 (b:=a) .here rfl ?_));refine qW (GS omQ H4) λ_ h5 H5=>qq ⟨b,H5.sub (.cons e_1 (.cons .here .refl))⟩
end
end
section
variable {g h:AH} {L R:List SP}
section
variable {st:Int} {f:QN} {e:JJ} {c:Option zX} {iv fv ev cv:AV} {b:Nat}
theorem InnC.fetI (hst:st=3) (hc:c=none) (q:cv=.nilp∧fv=.ptr b 0∧iv=.iface 157 (.ptr b 0)) (H:HS g h (qk b (ge f)::R)):HS g h (InnC st f e c iv fv ev cv::R):=by subst hst;subst hc;show HS g h (.ex (λb':Nat=>SP.all [.pur (cv=.nilp∧fv=.ptr b' 0∧iv=.iface 157 (.ptr b' 0)),qk b' (ge f)])::R);exact HS.exI b (HS.allI (A:=[_,_]) (HS.purI q H))
theorem InnC.fetE (hst:st=3) (hc:c=none) (H:HS g h (InnC st f e c iv fv ev cv::R)):∃b,(cv=.nilp∧fv=.ptr b 0∧iv=.iface 157 (.ptr b 0))∧HS g h (qk b (ge f)::R):=by subst hst;subst hc;exact InnC.fet H
theorem InnC.extI (hst:st=4∨st=5) (hc:c=none) (q:cv=.nilp∧ev=.ptr b 0∧iv=.iface 158 (.ptr b 0)) (H:HS g h (ExtC b e::R)):HS g h (InnC st f e c iv fv ev cv::R):=by subst hc;unfold InnC;dsimp only;rw[iQ omQ,iJ hst];exact HS.exI b (HS.allI (A:=[_,_]) (HS.purI q H))
theorem InnC.extE (hst:st=4∨st=5) (hc:c=none) (H:HS g h (InnC st f e c iv fv ev cv::R)):∃b,(cv=.nilp∧ev=.ptr b 0∧iv=.iface 158 (.ptr b 0))∧HS g h (ExtC b e::R):=by subst hc;unfold InnC at H;dsimp only at H;rw[iQ omQ,iJ hst]at H;obtain⟨b,H⟩:=H.exE;exact⟨b,H.allE.purE⟩
theorem InnC.noI (hst:st≠3∧st≠4∧st≠5) (hc:c=none) (q:cv=.nilp) (H:HS g h R):HS g h (InnC st f e c iv fv ev cv::R):=by subst hc;unfold InnC;dsimp only;rw[iQ omQ,iQ omQ];exact HS.purI q H
theorem InnC.noE (hc:c=none) (H:HS g h (InnC st f e c iv fv ev cv::R)):cv=.nilp∧HS g h R:=by subst hc;exact InnC.nil H
theorem InnC.comI {d:zX} (hc:c=some d) (q:cv=.ptr b 0∧(st=6→iv=.iface 159 (.ptr b 0))) (H:HS g h (ComC b d::R)):HS g h (InnC st f e c iv fv ev cv::R):=by subst hc;show HS g h (.ex (λb':Nat=>SP.all [.pur (cv=.ptr b' 0∧(st=6→iv=.iface 159 (.ptr b' 0))),ComC b' d])::R);exact HS.exI b (HS.allI (A:=[_,_]) (HS.purI q H))
theorem InnC.comE {d:zX} (hc:c=some d) (H:HS g h (InnC st f e c iv fv ev cv::R)):∃b,(cv=.ptr b 0∧(st=6→iv=.iface 159 (.ptr b 0)))∧HS g h (ComC b d::R):=by subst hc;obtain⟨b,H⟩:=(show HS g h (.ex (λb':Nat=>SP.all [.pur (cv=.ptr b' 0∧(st=6→iv=.iface 159 (.ptr b' 0))),ComC b' d])::R)from H).exE;exact⟨b,H.allE.purE⟩
end
section
variable {n a:Nat} {x:jY} {q:O9}
theorem Zw (hn:18≤n) (B:ku x) (hj:JobOk True x.v x.job) (hc:x.c=none) (hcv:q.cv=.nilp) (H:HS g h (qk a (zu x q)::JobC q.vb x.job q.rv q.bv q.gv::ViewC q.vb x.v::RdsC q.db x.r::R)) :
  t_w n 86 [.ptr a 0] h λ_ h'=>HS g h' (AttC a (wE x)::R):=by
 refine t_e1 (S:=S86) rfl omQ λk hk=>?_;unfold S86;try simp only[iZ]
 have D:=KF B.good B.fr hj;unfold wE;refine qW (qgc omQ B.good B.fr hj H) ?_;rintro _ h1 ⟨rfl,gv,H1⟩;clear H;generalize(yv x).1.1=kd at*;generalize(yv x).1.2=er at*;generalize(yv x).2=y at*;obtain⟨e1,e2,e3,e4,e5⟩:=D.same;have hyc:y.c=none:=by rw[e5,hc]
 have hyr:y.r.length≤16:=by rw[e3];exact B.r
 rw[← e3]at H1;generalize hA:kg y kd er=A;refine qy rfl (qy rfl ?_);refine jd [] (λ_ h'=>HS g h' (AttC a A::R)) (λj hj=>?_) λ_ h' H'=>qx (qq H');unfold kg at hA;have hhi:=D.good.ok.hi;by_cases c1:kd=1
 ·rw[iJ c1]at hA;subst hA;refine qz c1 (qZ ?_);have hnd:=D.need c1;have hk:=D.kept.1;refine qG (qQ (qX H1 (b:=a) .here rfl ?_));refine qW (U5 omQ (H1.sel (P:=ViewC q.vb y.v) e_2)) ?_;rintro _ _ ⟨rfl,rfl⟩;refine qW (qZM omQ omQ H1) ?_;rintro _ h2 ⟨b,H2⟩;refine hj _ _ (AttC.I (q:={ q with gv:=gv,iv:=.iface 157 (.ptr b 0),fv:=.ptr b 0 }) ?_);have H3:=InnC.fetI (st:=3) (e:=y.e) (ev:=q.ev) rfl hyc ⟨hcv,rfl,rfl⟩ H2;exact H3.sub (.cons e_1 (.cons e_1 (.cons e_1 (.cons e_1 (.cons .here .refl)))))
 rw[iQ c1]at hA;refine qK c1 (qJ ?_);by_cases c3:kd=3
 ·rw[iJ c3]at hA;subst hA;refine qz c3 (qZ ?_);refine qG (qQ ?_);refine qg H1 (b:=a) .here ⟨rfl,rfl⟩ (by simp[zu]) λh2 H2=>?_;have H2:HS g h2 (qk a (zu { y with blocking:=true } { q with gv:=gv })::JobC q.vb y.job q.rv q.bv gv::ViewC q.vb y.v::RdsC q.db y.r::R):=H2;refine qW (VU (x:={ y with blocking:=true }) (q:={ q with gv:=gv }) omQ hyr (H2.sub (.cons .here (.cons e_2 .refl)))) ?_;rintro _ h3 ⟨b,H3⟩;refine hj _ _ (AttC.I (q:={ q with gv:=gv,iv:=.iface 158 (.ptr b 0),ev:=.ptr b 0 }) ?_);have H4:=InnC.extI (st:=5) (f:=y.f) (fv:=q.fv) (c:=y.c) (cv:=q.cv) (.inr rfl) hyc ⟨hcv,rfl,rfl⟩ H3;exact H4.sub (.cons e_1 (.cons e_2 (.cons e_2 (.cons e_1 (.cons .here .refl)))))
 rw[iQ c3]at hA;refine qK c3 (qJ ?_);have gone:∀{fin err:Int} {h2:AH},HS g h2 (qk a (zu (yF y fin err (-1)) { q with gv:=gv })::JobC q.vb y.job q.rv q.bv gv::ViewC q.vb y.v::RdsC q.db y.r::R)→HS g h2 (AttC a (yF y fin err (-1))::R):=λ{fin err h2} H2=>by
  refine AttC.I (q:={ q with gv:=gv }) ?_;have H3:=InnC.noI (st:=7) (f:=y.f) (e:=y.e) (c:=y.c) (iv:=q.iv) (fv:=q.fv) (ev:=q.ev) (cv:=q.cv) od hyc hcv H2;exact H3.sub (.cons e_1 (.cons e_1 (.cons e_1 (.cons e_1 (.cons .here .refl)))))
 by_cases c4:kd=4
 ·rw[iJ c4]at hA;subst hA;refine qz c4 (qZ ?_);refine qW (Qz omQ H1) λ_ h2 H2=>?_;exact hj _ _ (gone H2)
 rw[iQ c4]at hA;refine qK c4 (qJ ?_);refine qG (qQ (qX H1 (b:=a) .here rfl ?_));refine qW (Vs omQ (H1.sel (P:=ViewC q.vb y.v) e_2) D.good.ok) λv h2 H2=>?_;have hmo:=Ku D.good.ok;refine qi H2 .here ?_;by_cases c5:jn y.v.lv=[]
 ·rw[iJ c5]at hA;subst hA;refine qz (by rw[c5];rfl) (qZ ?_);refine qW (Qz omQ (H2.sub (.cons e_2 (.cons e_2 (.cons e_1 (.cons e_1 (.drop .refl))))))) λ_ h3 H3=>?_;exact qq (gone H3)
 ·rw[iQ c5]at hA;have hml:0<(jn y.v.lv).length:=List.length_pos_iff.2 c5;refine qK omQ (qJ ?_);refine qV ?_
  try dsimp only
  refine qG (qQ (qX H2 (b:=a) e_2 rfl ?_));refine qG (qQ (qh (qX H2 (b:=a) e_2 rfl ?_)));refine qG (qQ (qX H2 (b:=a) e_2 rfl ?_));refine qG (qQ (qX H2 (b:=a) e_2 rfl ?_));refine qW (Nd omQ omQ (H2.sel (P:=RdsC q.db y.r) e_4)) λv2 h3 H3=>?_;refine qG (qQ (qh (qh (qX H3 (b:=a) e_4 rfl ?_))));refine qG (qQ (qh (qh (qX H3 (b:=a) e_4 rfl ?_))));refine qW (qzh (me:=y.me) (sp:=y.set.spins) (st:=y.stamp) (a:=y.set.stripes) (w:=y.set.wide) (r:=y.r) (cs:=jn y.v.lv) omQ omQ hml omQ (λc h=>by have:=hmo.2 c h;omega) (H3.sub (.cons .here (.cons e_1 .refl)))) ?_;rintro _ h4 ⟨b,rfl,H4⟩;refine qG (qQ ?_);refine qg H4 (b:=a) e_3 (x:=.ptr b 0) ⟨rfl,rfl⟩ (by simp[zu]) λh5 H5=>?_;refine qU H2 e_2 rfl H3 e_4 rfl (HS.lt H2 e_2) ?_;refine qU H2 e_2 rfl H3 e_4 rfl (HS.lt H2 e_2) ?_;refine qU H2 e_2 rfl H3 e_4 rfl (HS.lt H2 e_2) ?_;refine qU H2 e_2 rfl H3 e_4 rfl (HS.lt H2 e_2) ?_;refine qU H2 e_2 rfl H3 e_4 rfl (HS.lt H2 e_2) ?_;have H6:HS g h5 (qk a (zu { y with c:=some (VY y.me y.set.spins y.stamp y.r (jn y.v.lv) y.set.stripes y.set.wide) } { q with gv:=gv,cv:=.ptr b 0 })::ComC b (VY y.me y.set.spins y.stamp y.r (jn y.v.lv) y.set.stripes y.set.wide)::RdsC q.db y.r::ViewC q.vb y.v::JobC q.vb y.job q.rv q.bv gv::R):=H5;refine qG (qQ (qX H6 (b:=a) .here rfl ?_));refine qW (GS omQ H6) λ_ h6 H7=>?_;subst hA;refine hj _ _ (AttC.I (q:={ q with gv:=gv,cv:=.ptr b 0,iv:=.iface 159 (.ptr b 0) }) ?_);have H8:=InnC.comI (st:=6) (f:=y.f) (e:=y.e) (fv:=q.fv) (ev:=q.ev) rfl ⟨rfl,λ_=>rfl⟩ (H7.sel e_1);exact H8.sub (.cons e_1 (.cons e_3 (.cons e_2 (.cons e_1 (.cons .here .refl)))))
theorem qVL (r:List xG) (x:xG):(kz r x).1=0∨(kz r x).2=r:=by
 unfold kz
 split
 ·exact .inr rfl
 ·split
  ·split<;>exact .inr rfl
  ·split
   ·exact .inr rfl
   ·exact .inl rfl
theorem Og (hn:20≤n) (B:ku x) (hj:JobOk True x.v x.job) (hw:0≤x.f.word∧x.f.word<18446744073709551616) (hc:x.c=none) {b:Nat} (hq:q.cv=.nilp∧q.fv=.ptr b 0) (H:HS g h (qk a (zu x q)::JobC q.vb x.job q.rv q.bv q.gv::ViewC q.vb x.v::RdsC q.db x.r::qk b (ge x.f)::R)) :
  t_w n 148 [.ptr a 0] h λ_ h'=>HS g h' (AttC a (xP x)::R):=by
 refine t_e1 (S:=S148) rfl omQ λk hk=>?_;unfold S148;try simp only[iZ]
 generalize hA:xP x=A;unfold xP at hA;refine qG (qQ (qX H (b:=a) .here (x:=.ptr b 0) (by rw[← hq.2];rfl) ?_));refine qW (Kz omQ H (s:=e_4)) ?_;rintro _ _ ⟨rfl,rfl⟩;by_cases c6:x.f.p.fin=6
 ·rw[iJ c6]at hA;subst hA;refine qz c6 (qZ ?_);refine qW (VU (q:=q) omQ B.r (H.sub (.cons .here (.cons e_2 .refl)))) ?_;rintro _ h3 ⟨b',H3⟩;refine qq (AttC.I (q:={ q with iv:=.iface 158 (.ptr b' 0),ev:=.ptr b' 0 }) ?_);have H4:=InnC.extI (st:=4) (f:=x.f) (fv:=q.fv) (c:=x.c) (cv:=q.cv) (.inl rfl) hc ⟨hq.1,rfl,rfl⟩ H3;exact H4.sub (.cons e_1 (.cons e_2 (.cons e_2 (.cons e_1 (.cons .here (.drop .refl))))))
 rw[iQ c6]at hA;refine qK c6 (qJ ?_);refine qV ?_
 try dsimp only
 refine qG (qQ (qX H (b:=a) .here rfl ?_));refine qG (qQ (qX H (b:=a) .here (x:=.ptr b 0) (by rw[← hq.2];rfl) ?_));refine qW (qWT omQ H e_4) ?_;rintro _ h1 ⟨rfl,H1⟩;refine qW (qkC (x:=yW x.f) omQ B.r (H1.sel (P:=RdsC q.db x.r) e_3)) ?_;rintro _ h2 ⟨rfl,H2⟩;refine qU H .here rfl H1 .here rfl (HS.lt H .here) ?_;refine jd [] (λ_ h'=>HS g h' (AttC a A::R)) (λj hj'=>?_) λ_ h' H'=>qx (qq H');have hx:=XD hw;by_cases c0:(kz x.r (yW x.f)).1=0
 ·rw[iJ c0]at hA;subst hA;refine qz c0 (qZ ?_);refine qV ?_
  try dsimp only
  refine qG (qQ (qX H2 (b:=a) e_1 rfl ?_));refine qG (qQ (qX H2 (b:=a) e_1 rfl ?_));refine qW (U5 omQ (H2.sel (P:=ViewC q.vb x.v) e_3)) ?_;rintro _ _ ⟨rfl,rfl⟩;refine qG (qQ (qX H2 (b:=a) e_1 (x:=.ptr b 0) (by rw[← hq.2];rfl) ?_));refine qW (qYP omQ H2 e_4) ?_;rintro _ _ ⟨rfl,rfl⟩;refine qW (qqL (p:=x.v.need) (x:=xn x.f) omQ (H2.sel (P:=ViewC q.vb x.v) e_3) B.good.ok) ?_;rintro _ h3 ⟨rfl,H3⟩;refine qU H2 e_1 (x:=.ptr b 0) (by rw[← hq.2];rfl) H2 e_1 (by rw[← hq.2];rfl) (HS.lt H2 e_1) ?_;refine qU H2 e_1 rfl H2 e_1 rfl (HS.lt H2 e_1) ?_;refine qU H2 e_1 rfl H2 e_1 rfl (HS.lt H2 e_1) ?_;refine qW (Zw (x:={ x with r:=(kz x.r (yW x.f)).2,v:=(yC x.v x.v.need (xn x.f)).2 }) (q:=q) (R:=R) omQ ?_ (hj.know hx) hc hq.1 (H3.sub (.cons e_2 (.cons e_2 (.cons .here (.cons .here (.drop .refl))))))) λ_ h4 H4=>hj' _ _ H4;exact⟨B.set,XK B.good hx,by show((yC x.v x.v.need (xn x.f)).2.sz:Int)=x.set.words;rw[kZ.2];exact B.sz,by show frS (yC x.v x.v.need (xn x.f)).2.lv<9000;rw[kZ.1];exact B.fr,Y0 B.r,(hj.know hx).same λh=>h.elim,B.c⟩
 rw[iQ c0]at hA;refine qK c0 (qJ ?_);have hsame:(kz x.r (yW x.f)).2=x.r:=(qVL x.r (yW x.f)).resolve_left c0;rw[hsame]at H2;have gone:∀{fin err:Int} {h2:AH},HS g h2 (qk a (zu (yF x fin err (-1)) q)::RdsC q.db x.r::JobC q.vb x.job q.rv q.bv q.gv::ViewC q.vb x.v::qk b (ge x.f)::R)→HS g h2 (AttC a (yF x fin err (-1))::R):=λ{fin err h2} H2=>by
  refine AttC.I (q:=q) ?_;have H3:=InnC.noI (st:=7) (f:=x.f) (e:=x.e) (c:=x.c) (iv:=q.iv) (fv:=q.fv) (ev:=q.ev) (cv:=q.cv) od hc hq.1 H2;exact H3.sub (.cons e_1 (.cons e_2 (.cons e_2 (.cons e_1 (.cons .here (.drop .refl))))))
 by_cases c14:(kz x.r (yW x.f)).1=14
 ·rw[iJ c14]at hA;subst hA;refine qz c14 (qZ ?_);refine qW (Qz omQ (H2.sel e_1)) λ_ h3 H3=>?_;exact hj' _ _ (gone H3)
 ·rw[iQ c14]at hA;subst hA;refine qK c14 (qJ ?_);refine qW (Qz omQ (H2.sel e_1)) λ_ h3 H3=>?_;exact hj' _ _ (gone H3)
theorem Jl (hn:4≤n) (O:∀c,x.c=some c→zS c) (H:HS g h (AttC a x::R)):t_w n 69 [.ptr a 0] h λr h'=>r=.bool (yP x)∧HS g h' (AttC a x::R):=by
 refine t_e1 (S:=S69) rfl omQ λk hk=>?_;unfold S69;try simp only[iZ]
 obtain⟨q,H1⟩:=AttC.E H;refine qG (qQ (qX H1 (b:=a) .here rfl ?_));unfold yP;by_cases c8:x.state=8
 ·rw[iV (λh=>h c8),Bool.false_and];refine q8 c8 ?_;refine qV ?_;(try dsimp only);refine qR ?_;(try dsimp only);refine qC (qV ?_);(try dsimp only);refine qR ?_;(try dsimp only);refine qV ?_;(try dsimp only);refine jt ?_;(try dsimp only);refine qV ?_;(try dsimp only);refine qR ?_;(try dsimp only);refine qC ?_
  exact qq ⟨rfl,H⟩
 rw[iG (show x.state≠8 from c8),Bool.true_and];refine qu c8 ?_;cases hc:x.c with
 |none=>
  obtain⟨e,H2⟩:=InnC.noE hc (H1.sel e_4);refine qV ?_;(try dsimp only);refine qa ?_;(try dsimp only);refine qG (qQ (qX ‹_› .here rfl ?_))
  rw[e];refine N0 (qE (qV ?_));(try dsimp only);refine qR ?_;(try dsimp only);refine qV ?_;(try dsimp only);refine jt ?_;(try dsimp only);refine qV ?_;(try dsimp only);refine qR ?_;(try dsimp only);refine qC ?_
  exact qq ⟨rfl,H⟩
 |some c=>
  obtain⟨b,e,H2⟩:=InnC.comE hc (H1.sel e_4);refine qV ?_;(try dsimp only);refine qa ?_;(try dsimp only);refine qG (qQ (qX ‹_› e_1 rfl ?_))
  rw[e.1];refine NV (qE (qV ?_));(try dsimp only);refine qa ?_;(try dsimp only);refine qG (qQ (qX ‹_› e_1 rfl ?_))
  rw[e.1];refine qW (On omQ H2) ?_;rintro _ _ ⟨rfl,rfl⟩;cases hw:Jj c with
  |true=>
   refine qV ?_;(try dsimp only);refine qp ?_;(try dsimp only);refine qV ?_;(try dsimp only);refine qa ?_;(try dsimp only);refine qE (qE ?_)
   exact qq ⟨rfl,H⟩
  |false=>
   refine qV ?_;(try dsimp only);refine qc ?_;(try dsimp only);refine qG (qQ (qX ‹_› e_1 rfl ?_))
   rw[e.1];refine qW (Kv omQ H2) ?_;rintro _ _ ⟨rfl,rfl⟩;by_cases c2:c.p.fin=2
   ·refine qz c2 ?_;rw[iG c2];refine qV ?_;(try dsimp only);refine qa ?_;(try dsimp only);refine qC (qE ?_)
    exact qq ⟨rfl,H⟩
   ·refine qK c2 ?_;rw[iV c2];refine qV ?_;(try dsimp only);refine qa ?_;(try dsimp only);refine qC (qE ?_)
    exact qq ⟨rfl,H⟩
theorem qGA (hn:22≤n) (O:zT x) (h3:3≤x.state) (h6:x.state≤6) (H:HS g h (AttC a x::R)):t_w n 121 [.ptr a 0] h λ_ h'=>HS g h' (AttC a (yg x)::R):=by
 refine t_e1 (S:=S121) rfl omQ λk hk=>?_;unfold S121;try simp only[iZ]
 obtain⟨q,H1⟩:=AttC.E H;clear H;generalize hA:yg x=A;unfold yg at hA;refine qG (qQ (qX H1 (b:=a) .here rfl ?_));refine jd [] (λ_ h'=>HS g h' (AttC a A::R)) (λj hj=>?_) λ_ h' H'=>qx (qq H');by_cases c3:x.state=3
 ·rw[iJ c3]at hA;subst hA;refine qz c3 (qZ ?_);obtain⟨b,e,H2⟩:=InnC.fetE c3 (O.c0 omQ) (H1.sel e_4);refine qW (Og (q:=q) (R:=R) omQ O.b (O.job.same λ_=>by omega) (O.f c3).2 (O.c0 omQ) ⟨e.1,e.2.1⟩ (H2.sub (.cons e_1 (.cons e_1 (.cons e_1 (.cons e_1 (.cons .here .refl))))))) λ_ h3 H3=>hj _ _ H3
 rw[iQ c3]at hA;refine qK c3 (qJ ?_);by_cases c4:x.state=4
 ·rw[iJ c4]at hA;subst hA;refine qz c4 (qZ ?_);have hnd:=O.need omQ omQ;have hhi:=O.good.ok.hi;obtain⟨b,e,H2⟩:=InnC.extE (.inl c4) (O.c0 omQ) (H1.sel e_4);obtain⟨sv,H3⟩:=ExtC.E H2;refine qG (qQ (qX H1 (b:=a) .here (x:=.ptr b 0) (by rw[← e.2.1];rfl) ?_));refine qW (VE omQ H3 .here) ?_;rintro _ _ ⟨rfl,rfl⟩;refine qG (qQ ?_);refine qg H2 (b:=a) e_1 ⟨rfl,rfl⟩ (by simp[zu]) λh4 H4=>?_;have H4:HS g h4 (qk a (zu { x with stamp:=wa x.e } q)::ExtC b x.e::JobC q.vb x.job q.rv q.bv q.gv::ViewC q.vb x.v::RdsC q.db x.r::R):=H4;refine qG (qQ (qX H4 (b:=a) .here rfl ?_));refine qW (U5 omQ (H4.sel (P:=ViewC q.vb x.v) e_3)) ?_;rintro _ _ ⟨rfl,rfl⟩;refine qW (qZM omQ omQ H4) ?_;rintro _ h5 ⟨b',H5⟩;refine hj _ _ (AttC.I (q:={ q with iv:=.iface 157 (.ptr b' 0),fv:=.ptr b' 0 }) ?_);have H6:=InnC.fetI (st:=3) (e:=x.e) (ev:=q.ev) (c:=x.c) (cv:=q.cv) rfl (O.c0 omQ) ⟨e.1,rfl,rfl⟩ H5;exact H6.sub (.cons e_1 (.cons e_2 (.cons e_2 (.cons e_2 (.cons .here (.drop .refl))))))
 rw[iQ c4]at hA;refine qK c4 (qJ ?_);by_cases c5:x.state=5
 ·rw[iJ c5]at hA;subst hA;refine qz c5 (qZ ?_);obtain⟨b,e,H2⟩:=InnC.extE (.inr c5) (O.c0 omQ) (H1.sel e_4);obtain⟨sv,H3⟩:=ExtC.E H2;refine qG (qQ (qX H1 (b:=a) .here (x:=.ptr b 0) (by rw[← e.2.1];rfl) ?_));refine qW (VE omQ H3 .here) ?_;rintro _ _ ⟨rfl,rfl⟩;refine qG (qQ ?_);refine qg H2 (b:=a) e_1 ⟨rfl,rfl⟩ (by simp[zu]) λh4 H4=>?_;have H4:HS g h4 (qk a (zu { x with stamp:=wa x.e } q)::ExtC b x.e::JobC q.vb x.job q.rv q.bv q.gv::ViewC q.vb x.v::RdsC q.db x.r::R):=H4;refine qW (Qz omQ H4) λ_ h5 H5=>?_;refine hj _ _ (AttC.I (q:=q) ?_);have H6:=InnC.noI (st:=7) (f:=x.f) (e:=x.e) (c:=x.c) (iv:=q.iv) (fv:=q.fv) (ev:=q.ev) (cv:=q.cv) od (O.c0 omQ) e.1 H5;exact H6.sub (.cons e_1 (.cons e_2 (.cons e_2 (.cons e_2 (.cons .here (.drop .refl))))))
 rw[iQ c5]at hA;refine qK c5 (qJ ?_);have c6:x.state=6:=by omega
 refine qz c6 (qZ ?_)
 split at hA
 ·rename_i c hc;subst hA;obtain⟨b,e,H2⟩:=InnC.comE hc (H1.sel e_4);refine qV ?_
  try dsimp only
  refine qG (qQ (qX H1 (b:=a) .here (x:=.ptr b 0) (by rw[← e.1];rfl) ?_));refine qW (Kv omQ H2) ?_;rintro _ _ ⟨rfl,rfl⟩;refine qG (qQ (qX H1 (b:=a) .here (x:=.ptr b 0) (by rw[← e.1];rfl) ?_));refine qW (qzH omQ H2) ?_;rintro _ _ ⟨rfl,rfl⟩;refine qW (Qz omQ (H2.sel e_1)) λ_ h5 H5=>?_;refine qU H1 .here (x:=.ptr b 0) (by rw[← e.1];rfl) H1 .here (by rw[← e.1];rfl) (HS.lt H1 .here) ?_;refine hj _ _ (AttC.I (q:=q) ?_);have H6:=InnC.comI (st:=7) (f:=x.f) (e:=x.e) (iv:=q.iv) (fv:=q.fv) (ev:=q.ev) (b:=b) hc ⟨e.1,λh=>by cases h⟩ (H5.sel (P:=ComC b c) e_1);exact H6.sub (.cons e_1 (.cons e_1 (.cons e_1 (.cons e_1 (.cons .here .refl)))))
 ·rename_i hc;exact absurd hc (O.c6 c6)
end
end
end Go.Proofs.YtepfejdhlgoekaaGreatDoor
