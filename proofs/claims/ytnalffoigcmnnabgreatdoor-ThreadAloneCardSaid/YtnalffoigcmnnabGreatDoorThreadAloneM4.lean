/- Lemmas for 'quietus/quietuslaw27.ThreadAlone': Threads: plain: what a step keeps;A run on a view that knows less: it asks for a word, or does the same. Plain;An attempt alone on a memory: plain: its ... No condition. -/
import Derived.Test.YtnalffoigcmnnabGreatDoorThreadAloneM3
import Derived.Test.YtnalffoigcmnnabGreatDoorThreadAloneM2
import Derived.Test.YtnalffoigcmnnabGreatDoorThreadAloneM1
namespace Go.Proofs.YtnalffoigcmnnabGreatDoor
open Go Go.Ae
def qjC:Jx→Bool
 | .prog _=>false
 | .sweep _ _=>true
structure wV (x y:jQ):Prop where
  me:y.me=x.me
  set:y.set=x.set
  sw:qjC y.job=qjC x.job
theorem wV.refl (x:jQ):wV x x:=⟨rfl,rfl,rfl⟩
theorem wV.trans {x y z:jQ} (a:wV x y) (b:wV y z):wV x z:=⟨b.me.trans a.me,b.set.trans a.set,b.sw.trans a.sw⟩
theorem qJ3 (x:jQ):wV x (ye x).2:=by
 unfold ye;cases hx:x.job with
 |prog q=>exact⟨rfl,rfl,by rw[hx];rfl⟩
 |sweep bs k=>exact⟨rfl,rfl,by rw[hx];rfl⟩
theorem OQ (x:jQ) (k e:Int):wV x (vi x k e):=by
 unfold vi
 repeat' split
 all_goals exact⟨rfl,rfl,rfl⟩
theorem GN (x:jQ):wV x (xu x):=(qJ3 x).trans (OQ ..)
theorem KS (x:jQ):wV x (yg x):=by
 unfold yg
 split
 ·exact⟨rfl,rfl,rfl⟩
 ·split
  ·exact(wV.trans (y:={ x with r:=(wo x.r (yu x.f)).2,v:=(z6 x.v x.v.need (yy x.f)).2 }) ⟨rfl,rfl,rfl⟩ (GN _))
  ·split<;>exact⟨rfl,rfl,rfl⟩
theorem JQ (x:jQ):wV x (xe x):=by
 have hs:∀y:jQ,wV y (z8 y):=λy=>by
  unfold z8
  repeat' split
  all_goals exact⟨rfl,rfl,rfl⟩
 unfold xe;refine wV.trans ?_ (hs _)
 split
 ·exact .refl x
 ·split
  ·exact⟨rfl,rfl,rfl⟩
  ·unfold yG
   split
   ·exact KS x
   ·repeat' split
    all_goals exact⟨rfl,rfl,rfl⟩
theorem Yn (x:jQ) (a:AnM):wV x (jb x a):=by
 unfold jb
 split
 ·exact .refl x
 ·split
  ·exact⟨rfl,rfl,rfl⟩
  ·split
   ·exact⟨rfl,rfl,rfl⟩
   ·split
    ·exact⟨rfl,rfl,rfl⟩
    ·split
     ·exact GN x
     ·split
      ·exact⟨rfl,rfl,rfl⟩
      ·split
       ·exact wV.trans (y:={ x with f:=xT x.f a }) ⟨rfl,rfl,rfl⟩ (JQ _)
       ·split
        ·exact wV.trans (y:={ x with c:=x.c.map λc=>zw c a }) ⟨rfl,rfl,rfl⟩ (JQ _)
        ·exact wV.trans (y:={ x with e:=x7 x.e a }) ⟨rfl,rfl,rfl⟩ (JQ _)
structure ThrB (t:jE):Prop where
  set:gr t.set
  me:0≤t.me∧t.me<t.set.threads
  jobs:∀l∈t.jobs,(xB l).2=0∧Quiet l
  jl:t.jobs.length≤6
  job:0≤t.job∧t.job≤t.jobs.length
  rests:t.rests.length+t.giving.length≤9000*t.results.length
  slots:t.slots.length≤6
  tries:0≤t.tries∧t.tries≤t.past.length
  conf:0≤t.conf∧t.conf≤t.tries
  giv:t.sweep=false→t.giving=[]
structure ke (t:jE):Prop extends ThrB t where
  now:∀x,t.now=some x→zl x∧x.me=t.me∧x.set=t.set∧qjC x.job=t.sweep
  lt:t.job<t.jobs.length
  some:t.now≠none
structure gI (t:jE):Prop where
  st:1≤t.state∧t.state≤6
  b:ThrB t
  c:t.state≠6→ke t
  fin:t.state=6→t.job=t.jobs.length∧t.now=none
  res:(t.results.length:Int)≤t.job+(if t.state≠6∧(t.sweep=true∨t.state=5)then 1 else 0)
  slo:t.state=5→(t.slots.length:Int)<t.set.threads∧(t.slots.length:Int)≠t.me
  pau:t.state=3→0<t.pauses∧t.pauses≤8
  byy:t.state=2→0≤t.by_∧t.by_<t.set.threads
  sw5:t.state=5→t.sweep=false
variable {t:jE}
theorem ThrB.len (B:ThrB t) (h:(t.results.length:Int)≤t.job+1):t.rests.length+t.giving.length≤63000:=by have h1:=B.jl;have h2:=B.job;have h3:=B.rests;omega
theorem Jz (B:ThrB t) (hr:(t.results.length:Int)≤t.job+(if t.sweep=true∧t.job≠t.jobs.length then 1 else 0)):gI (zp t):=by
 have hlen:=B.len (by split at hr<;>omega);have hs:=B.set.start.1;have hset:=YG B.set;unfold zp
 split
 ·rename_i hj;refine⟨by show(1:Int)≤6∧(6:Int)≤6;decide,⟨B.set,B.me,B.jobs,B.jl,B.job,B.rests,B.slots,B.tries,B.conf,B.giv⟩,λh=>absurd rfl h,λ_=>⟨hj,rfl⟩,?_,λh=>(by cases h),λh=>(by cases h),λh=>(by cases h),λh=>by cases h⟩;rw[iQ (λh=>h.2 hj)]at hr;show(t.results.length:Int)≤t.job+(if(6:Int)≠6∧_ then 1 else 0);rw[iQ (λh=>h.1 rfl)];exact hr
 ·rename_i hj;have B':ThrB { t with born:=0,alarm:=false,state:=1,now:=some (if t.sweep=true then gB t.me t.set (t.giving.map (·.1))else vh t.me t.set ((t.jobs[t.job.toNat]?).getD [])) }:=⟨B.set,B.me,B.jobs,B.jl,B.job,B.rests,B.slots,B.tries,B.conf,B.giv⟩;refine⟨by show(1:Int)≤1∧(1:Int)≤6;decide,B',λ_=>⟨B',λx hx=>?_,by have:=B.job;show t.job<(t.jobs.length:Int);omega,λh=>by cases h⟩,λh=>(by cases h),?_,λh=>(by cases h),λh=>(by cases h),λh=>(by cases h),λh=>by cases h⟩
  ·cases hx
   split
   ·rename_i hsw;exact⟨Zf hs (by rw[List.length_map];omega),rfl,hset,hsw.symm⟩
   ·rename_i hsw;have hlt:t.job.toNat<t.jobs.length:=by have:=B.job;omega
    rw[iW hlt];have:=B.jobs _ (List.getElem_mem hlt);exact⟨U6 hs this.1 this.2,rfl,hset,by simp only[Bool.not_eq_true]at hsw;exact hsw.symm⟩
  ·show(t.results.length:Int)≤t.job+(if(1:Int)≠6∧(t.sweep=true∨(1:Int)=5)then 1 else 0);by_cases hsw:t.sweep=true
   ·rw[iJ ⟨by decide,.inl hsw⟩];rw[iJ ⟨hsw,hj⟩]at hr;exact hr
   ·rw[iQ (λh=>hsw h.1)]at hr;rw[iQ (λh=>by rcases h.2 with h |h;exact hsw h;cases h)];exact hr
theorem ka (B:ThrB { t with job:=t.job+1,sweep:=false,giving:=[],tries:=0,conf:=0 }) (hr:(t.results.length:Int)≤t.job+1):gI (zY t):=by unfold zY;refine Jz B ?_;show(t.results.length:Int)≤t.job+1+(if false=true∧_ then 1 else 0);rw[iQ (λh=>by cases h.1)];omega
theorem kp (B:ThrB t) (hj:t.job<t.jobs.length) (hr:(t.results.length:Int)≤t.job+1):gI (zY t):=by have:=B.job;have:=B.tries;refine ka ⟨B.set,B.me,B.jobs,B.jl,by show 0≤t.job+1∧t.job+1≤(t.jobs.length:Int);omega,?_,B.slots,by show(0:Int)≤0∧(0:Int)≤(List.length _:Int);omega,by show(0:Int)≤0∧(0:Int)≤0;decide,λ_=>rfl⟩ hr;have:=B.rests;show t.rests.length+0≤9000*t.results.length;omega
theorem OD (c : Int) : 1 ≤ vI c ∧ vI c ≤ 8 := by
 unfold vI
 repeat' split
 all_goals omega
theorem ke.go (C:ke t) {u:jE} (h1:u.set=t.set) (h2:u.me=t.me) (h3:u.jobs=t.jobs) (h4:u.job=t.job) (h5:u.rests=t.rests) (h6:u.giving=t.giving) (h7:u.results=t.results) (h8:u.slots.length≤6) (h9:0≤u.tries∧u.tries≤u.past.length) (h10:0≤u.conf∧u.conf≤u.tries) (h11:u.now=t.now) (h12:u.sweep=t.sweep):ke u:=by have B:=C.toThrB;refine⟨⟨by rw[h1];exact B.set,by rw[h1,h2];exact B.me,by rw[h3];exact B.jobs,by rw[h3];exact B.jl,by rw[h3,h4];exact B.job,by rw[h5,h6,h7];exact B.rests,h8,h9,h10,by rw[h12,h6];exact B.giv⟩,by rw[h11,h1,h2,h12];exact C.now,by rw[h3,h4];exact C.lt,by rw[h11];exact C.some⟩
theorem VC (C:ke t) {draw:Int} (hd:0≤draw) (hr:(t.results.length:Int)≤t.job+(if t.sweep=true then 1 else 0)):gI (xP t draw):=by
 have hm:=OD t.conf;have hlt:=C.lt;unfold xP
 split
 ·refine Jz (C.go (u:={ t with pauses:=0,state:=3 }) rfl rfl rfl rfl rfl rfl rfl C.slots C.tries C.conf rfl rfl).toThrB ?_;show(t.results.length:Int)≤t.job+(if t.sweep=true∧t.job≠t.jobs.length then 1 else 0);by_cases hs:t.sweep=true
  ·rw[iJ ⟨hs,by omega⟩];rw[iJ hs]at hr;exact hr
  ·rw[iQ (λh=>hs h.1)];rw[iQ hs]at hr;exact hr
 ·rename_i hn;have C':ke { t with pauses:=draw%(vI t.conf+1),state:=3 }:=C.go rfl rfl rfl rfl rfl rfl rfl C.slots C.tries C.conf rfl rfl;have h1:=Int.emod_nonneg draw (show vI t.conf+1≠0 by omega);have h2:=Int.emod_lt_of_pos draw (show 0<vI t.conf+1 by omega);refine⟨by show(1:Int)≤3∧(3:Int)≤6;decide,C'.toThrB,λ_=>C',λh=>(by cases h),?_,λh=>(by cases h),λ_=>⟨by show 0<draw%(vI t.conf+1);omega,by show draw%(vI t.conf+1)≤8;omega⟩,λh=>(by cases h),λh=>by cases h⟩;show(t.results.length:Int)≤t.job+(if(3:Int)≠6∧(t.sweep=true∨(3:Int)=5)then 1 else 0);by_cases hs:t.sweep=true
  ·rw[iJ ⟨by decide,.inl hs⟩];rw[iJ hs]at hr;exact hr
  ·rw[iQ (λh=>by rcases h.2 with h |h;exact hs h;cases h)];rw[iQ hs]at hr;exact hr
theorem qQE {α:Type} (p:α→Bool) (l:List α):(l.filter p).length+(l.filter λx=>!p x).length=l.length:=by
 induction l with
 |nil=>rfl
 |cons x r ih=>rw[List.filter_cons,List.filter_cons];cases p x<;>simp<;>omega
theorem Nw (C:ke t) (hr:(t.results.length:Int)≤t.job+1) (h5:t.state=5) (hl:(t.slots.length:Int)≤t.set.threads) (hsw:t.sweep=false):gI (yr t):=by
 have h4:=C.set.threads;have hlt:=C.lt;have hg:=C.giv hsw;have hre:=C.rests;rw[hg]at hre;unfold yr;have key:∀u:jE,u={ t with slots:=u.slots }→(u.slots.length:Int)≤5→(u.slots.length:Int)≠t.me→gI (vK u):=by
  intro u hu hul hme;have C':ke u:=by rw[hu];exact C.go rfl rfl rfl rfl rfl rfl rfl (by show u.slots.length≤6;omega) C.tries C.conf rfl rfl
  have hul':(u.slots.length:Nat)≤6:=by omega
  unfold vK;have e1:u.set=t.set:=by rw[hu]
  have e2:u.rests=t.rests:=by rw[hu]
  have e3:u.results=t.results:=by rw[hu]
  have e4:u.job=t.job:=by rw[hu]
  have e5:u.state=5:=by rw[hu];exact h5
  have e6:u.me=t.me:=by rw[hu]
  have e7:u.jobs=t.jobs:=by rw[hu]
  have e8:u.giving=[]:=by rw[hu];exact hg
  have hf:=qQE (λr:Kv=>q9 u.slots r.2) u.rests
  split
  ·rename_i h;refine⟨by omega,C'.toThrB,λ_=>C',λh=>by omega,?_,λ_=>⟨h,by rw[e6];exact hme⟩,λh=>by omega,λh=>by omega,λ_=>by rw[hu];exact hsw⟩;rw[iJ ⟨by omega,.inr e5⟩,e3,e4];exact hr
  ·split
   ·refine kp (t:={ u with rests:=u.rests.filter λr=>!q9 u.slots r.2 }) ⟨C'.set,C'.me,C'.jobs,C'.jl,C'.job,?_,hul',C'.tries,C'.conf,C'.giv⟩ C'.lt (by show(u.results.length:Int)≤u.job+1;rw[e3,e4];exact hr);show(u.rests.filter λr=>!q9 u.slots r.2).length+u.giving.length≤9000*u.results.length;rw[e8,e3];rw[e2]at hf ⊢;simp at hre ⊢;omega
   ·refine Jz (t:={ u with rests:=u.rests.filter (λr=>!q9 u.slots r.2),sweep:=true,giving:=u.rests.filter (λr=>q9 u.slots r.2),tries:=0,conf:=0 }) ⟨C'.set,C'.me,C'.jobs,C'.jl,C'.job,?_,hul',by show(0:Int)≤0∧(0:Int)≤(List.length _:Int);omega,by show(0:Int)≤0∧(0:Int)≤0;decide,λh=>by cases h⟩ ?_
    ·show(u.rests.filter λr=>!q9 u.slots r.2).length+(u.rests.filter λr=>q9 u.slots r.2).length≤9000*u.results.length;rw[e3];rw[e2]at hf ⊢;simp at hre;omega
    ·show(u.results.length:Int)≤u.job+(if true=true∧u.job≠u.jobs.length then 1 else 0);rw[iJ ⟨rfl,by rw[e4,e7];omega⟩,e3,e4];exact hr
 split
 ·rename_i h;refine key _ rfl ?_ ?_
  ·show((t.slots++[(0:Int)]).length:Int)≤5;rw[List.length_append,List.length_singleton];omega
  ·show((t.slots++[(0:Int)]).length:Int)≠t.me;rw[List.length_append,List.length_singleton];omega
 ·rename_i h;exact key t rfl omQ h
theorem qKU (lv:List LvM):(vo lv).length≤frS lv:=by unfold vo frS;rw[List.length_flatMap,List.map_reverse,List.sum_reverse];exact Nat.le_refl _
theorem kB {x:jQ} (O:zl x) (hp:qjC x.job=false):(zD x).length≤9000:=by
 unfold zD
 split
 ·cases hj:x.job with
  |prog q=>dsimp only;have h1:=O.fr;have h2:=qKU x.v.lv;omega
  |sweep bs k=>rw[hj]at hp;cases hp
 ·simp
theorem qZi (C:ke t) {x:jQ} (hx:t.now=some x) (hs5:t.state=1) {draw pick:Int} (hd:0≤draw) (hr:(t.results.length:Int)≤t.job+(if t.sweep=true then 1 else 0)):gI (xJ t x draw pick):=by
 have ht:=C.tries;have hc:=C.conf;have hlt:=C.lt;have hlen:(t.past++[jP t x pick]).length=t.past.length+1:=by simp
 have hr1:(t.results.length:Int)≤t.job+1:=by split at hr<;>omega
 have hr6:∀s:Int,s≠6→(t.results.length:Int)≤t.job+(if s≠6∧(t.sweep=true∨s=5)then 1 else 0):=λs h6=>by
  by_cases hs:t.sweep=true
  ·rw[iJ ⟨h6,.inl hs⟩];rw[iJ hs]at hr;exact hr
  ·rw[iQ hs]at hr;split<;>omega
 unfold xJ;dsimp only
 split
 ·split
  ·rename_i hb;have C':ke { t with past:=t.past++[jP t x pick],tries:=t.tries+1,conf:=t.conf+1,state:=2,by_:=QQ x,yielding:=false } :=
    C.go rfl rfl rfl rfl rfl rfl rfl C.slots (by show 0≤t.tries+1∧t.tries+1≤((t.past++[jP t x pick]).length:Int);omega) (by show 0≤t.conf+1∧t.conf+1≤t.tries+1;omega) rfl rfl
   exact⟨by show(1:Int)≤2∧(2:Int)≤6;decide,C'.toThrB,λ_=>C',λh=>(by cases h),hr6 2 od,λh=>(by cases h),λh=>(by cases h),λ_=>hb,λh=>by cases h⟩
  ·exact VC (t:={ t with past:=t.past++[jP t x pick],tries:=t.tries+1,conf:=t.conf+1 }) (C.go rfl rfl rfl rfl rfl rfl rfl C.slots (by show 0≤t.tries+1∧t.tries+1≤((t.past++[jP t x pick]).length:Int);omega) (by show 0≤t.conf+1∧t.conf+1≤t.tries+1;omega) rfl rfl) hd hr
 ·have C':∀s:Int,ke { t with past:=t.past++[jP t x pick],tries:=t.tries+1,state:=s }:=λs=>
   C.go rfl rfl rfl rfl rfl rfl rfl C.slots (by show 0≤t.tries+1∧t.tries+1≤((t.past++[jP t x pick]).length:Int);omega) (by show 0≤t.conf∧t.conf≤t.tries+1;omega) rfl rfl
  have CB:=(C' t.state).toThrB
  split
  ·split
   ·refine Jz (t:={ t with past:=t.past++[jP t x pick],tries:=t.tries+1 }) CB ?_;show(t.results.length:Int)≤t.job+(if t.sweep=true∧t.job≠t.jobs.length then 1 else 0);by_cases hs:t.sweep=true
    ·rw[iJ ⟨hs,by omega⟩];rw[iJ hs]at hr;exact hr
    ·rw[iQ (λh=>hs h.1)];rw[iQ hs]at hr;exact hr
   ·exact⟨by show(1:Int)≤4∧(4:Int)≤6;decide,(C' 4).toThrB,λ_=>C' 4,λh=>(by cases h),hr6 4 od,λh=>(by cases h),λh=>(by cases h),λh=>(by cases h),λh=>by cases h⟩
  ·split
   ·rename_i hsw;unfold vL
    split
    ·refine ka (t:={ t with past:=t.past++[jP t x pick],tries:=t.tries+1,rests:=t.rests++t.giving }) ⟨C.set,C.me,C.jobs,C.jl,by have:=C.job;show 0≤t.job+1∧t.job+1≤(t.jobs.length:Int);omega,?_,C.slots,by show(0:Int)≤0∧(0:Int)≤(List.length _:Int);omega,by show(0:Int)≤0∧(0:Int)≤0;decide,λ_=>rfl⟩ hr1;have:=C.rests;show(t.rests++t.giving).length+0≤9000*t.results.length;rw[List.length_append];omega
    ·exact kp (t:={ t with past:=t.past++[jP t x pick],tries:=t.tries+1 }) CB hlt hr1
   ·rename_i hsw;have hsw:t.sweep=false:=by simpa using hsw
    have hn:=C.now x hx;have hfl:=kB hn.1 (hn.2.2.2.trans hsw);rw[hsw,iQ osQ]at hr;have hgl:=C.giv hsw;have hre:=C.rests;rw[hgl]at hre;unfold vy;have e1:(t.results++[(⟨jc x,xc x,zE x,x.stamp⟩:KZ)]).length=t.results.length+1:=by simp
    have e2:(t.rests++(zD x).map λb=>(b,x.stamp)).length=t.rests.length+(zD x).length:=by simp
    have B2:ThrB { t with past:=t.past++[jP t x pick],tries:=t.tries+1,results:=t.results++[⟨jc x,xc x,zE x,x.stamp⟩],rests:=t.rests++(zD x).map λb=>(b,x.stamp) } :=
     ⟨C.set,C.me,C.jobs,C.jl,C.job,by show(t.rests++(zD x).map λb=>(b,x.stamp)).length+t.giving.length≤9000*(t.results++[(⟨jc x,xc x,zE x,x.stamp⟩:KZ)]).length;rw[e1,e2,hgl];rw[List.length_nil]at hre ⊢;omega,
      C.slots,by show 0≤t.tries+1∧t.tries+1≤((t.past++[jP t x pick]).length:Int);omega,by show 0≤t.conf∧t.conf≤t.tries+1;omega,C.giv⟩
    dsimp only
    split
    ·exact kp B2 hlt (by show((t.results++[(⟨jc x,xc x,zE x,x.stamp⟩:KZ)]).length:Int)≤t.job+1;omega)
    ·refine Nw (t:={ t with past:=t.past++[jP t x pick],tries:=t.tries+1,results:=t.results++[⟨jc x,xc x,zE x,x.stamp⟩],rests:=t.rests++(zD x).map λb=>(b,x.stamp),state:=5,slots:=[] })
      ⟨⟨B2.set,B2.me,B2.jobs,B2.jl,B2.job,B2.rests,Nat.zero_le _,B2.tries,B2.conf,B2.giv⟩,C.now,C.lt,C.some⟩ (by show((t.results++[(⟨jc x,xc x,zE x,x.stamp⟩:KZ)]).length:Int)≤t.job+1;omega) rfl (by have:=C.set.threads;show(0:Int)≤t.set.threads;omega) hsw
theorem qGR (O:gI t) {a:AnM} (ha:X8 a) {draw pick:Int} (hd:0≤draw):gI (xH t a draw pick):=by
 have hres:=O.res;unfold xH
 split
 ·rename_i h1;have C:=O.c omQ;cases hn:t.now with
  |none=>exact O
  |some x=>
   dsimp only;have hx:=C.now x hn;have hS:=Yn x a;have hr:(t.results.length:Int)≤t.job+(if t.sweep=true then 1 else 0):=by
    by_cases hs:t.sweep=true
    ·rw[iJ ⟨by omega,.inl hs⟩]at hres;rw[iJ hs];exact hres
    ·rw[iQ (λh=>by rcases h.2 with h |h;exact hs h;omega)]at hres;rw[iQ hs];exact hres
   unfold kz;dsimp only
   have C':∀b:Int,ke { t with now:=some (jb x a),born:=b }:=λb=>⟨⟨C.set,C.me,C.jobs,C.jl,C.job,C.rests,C.slots,C.tries,C.conf,C.giv⟩,λy hy=>by
    cases hy
    exact⟨KV hx.1 ha,hS.me.trans hx.2.1,hS.set.trans hx.2.2.1,hS.sw.trans hx.2.2.2⟩,C.lt,λh=>by cases h⟩
   split
   ·exact⟨O.st,(C' _).toThrB,λ_=>C' _,λh=>absurd h (by show¬t.state=6;omega),O.res,λh=>absurd h (by show¬t.state=5;omega),λh=>absurd h (by show¬t.state=3;omega),λh=>absurd h (by show¬t.state=2;omega),λh=>absurd h (by show¬t.state=5;omega)⟩
   ·exact qZi (t:={ t with now:=some (jb x a),born:=if(jb x a).begun=true∧x.begun=false then pick else t.born }) (C' _) rfl h1 hd hr
 ·split
  ·rename_i h2;have C:=O.c omQ
   split
   ·have C':ke { t with yielding:=true,since:=a.word }:=C.go rfl rfl rfl rfl rfl rfl rfl C.slots C.tries C.conf rfl rfl;exact⟨O.st,C'.toThrB,λ_=>C',λh=>absurd h (by show¬t.state=6;omega),O.res,λh=>absurd h (by show¬t.state=5;omega),λh=>absurd h (by show¬t.state=3;omega),O.byy,λh=>absurd h (by show¬t.state=5;omega)⟩
   ·refine VC C hd ?_;by_cases hs:t.sweep=true
    ·rw[iJ ⟨by omega,.inl hs⟩]at hres;rw[iJ hs];exact hres
    ·rw[iQ (λh=>by rcases h.2 with h |h;exact hs h;omega)]at hres;rw[iQ hs];exact hres
  ·split
   ·rename_i h5';have C:=O.c omQ;have hsl:=O.slo h5';rw[iJ ⟨by omega,.inr h5'⟩]at hres;have h4:=C.set.threads;have e:(t.slots++[if a.err≠0 then 0 else a.word]).length=t.slots.length+1:=by simp
    refine Nw (t:={ t with slots:=t.slots++[if a.err≠0 then 0 else a.word] }) (C.go rfl rfl rfl rfl rfl rfl rfl (by show(t.slots++[if a.err≠0 then 0 else a.word]).length≤6;omega) C.tries C.conf rfl rfl) hres h5' ?_ (O.sw5 h5');show((t.slots++[if a.err≠0 then 0 else a.word]).length:Int)≤t.set.threads;omega
   ·exact O
theorem qyA {me:Int} {s:xw} {jobs:List (List qR)} (hs:0≤s.start) (hj:∀l∈jobs,(xB l).2=0∧Quiet l):gI (UA me s jobs):=by have S:=wG hs;have h4:=S.threads;refine ka ⟨S,by show 0≤max 0 (min me ((jw s).threads-1))∧max 0 (min me ((jw s).threads-1))<(jw s).threads;omega,λl hl=>hj l (List.mem_of_mem_take hl),?_,by show(0:Int)≤ -1+1∧(-1:Int)+1≤_;omega,Nat.le_refl _,Nat.zero_le _,by show(0:Int)≤0∧(0:Int)≤(([]:List KU).length:Int);decide,by show(0:Int)≤0∧(0:Int)≤0;decide,λ_=>rfl⟩ (by show(0:Int)≤ -1+1;decide);show(jobs.take 6).length≤6;rw[List.length_take];omega
end Go.Proofs.YtnalffoigcmnnabGreatDoor
namespace Go.Proofs.YtnalffoigcmnnabGreatDoor
open Go Go.Ae
structure zo (V W:VM):Prop where
  sz:V.sz=W.sz
  most:V.most=W.most
  lv:V.lv=W.lv
  K:∀p x,zj p V.K=some x→zj p W.K=some x
theorem zo.same {V W:VM} (h:zo V W) (lv:List LvM):zo { V with lv:=lv } { W with lv:=lv }:=⟨h.sz,h.most,rfl,h.K⟩
theorem zo.read {V W:VM} (h:zo V W) (p:Int):(qh V p).1.2=11∨((qh V p).1=(qh W p).1∧zo (qh V p).2 (qh W p).2):=by
 unfold qh;rw[← h.sz,← h.lv]
 split
 ·cases hl:Y9 p V.lv with
  |some x=>exact .inr ⟨rfl,h⟩
  |none=>
   dsimp only;cases hk:zj p V.K with
   |some x=>rw[h.K p x hk];exact .inr ⟨rfl,h⟩
   |none=>exact .inl rfl
 ·exact .inr ⟨rfl,h⟩
theorem zo.take {V W:VM} (h:zo V W) (cs:List Cl):(zz V cs).1=(zz W cs).1∧zo (zz V cs).2 (zz W cs).2:=by
 unfold zz;rw[← h.sz,← h.lv,← h.most]
 split
 ·refine⟨rfl,?_⟩;exact⟨rfl,rfl,rfl,h.K⟩
 ·exact⟨rfl,h⟩
theorem zo.ask {V W:VM} (h:zo V W) (b:Int):(zV V b).1.2.2=11∨((zV V b).1=(zV W b).1∧zo (zV V b).2 (zV W b).2):=by
 unfold zV;rw[← h.sz]
 split
 ·exact .inr ⟨rfl,h⟩
 ·rcases h.read (b-1)with e |⟨e,h2⟩
  ·rw[e];exact .inl rfl
  ·rw[← e]
   split
   ·split
    ·exact .inr ⟨rfl,h2⟩
    ·exact .inr ⟨rfl,h2⟩
   ·exact .inr ⟨rfl,h2⟩
theorem zo.again {V W:VM} (h:zo V W) (c b:Int):(yZ V c b).1.2=11∨((yZ V c b).1=(yZ W c b).1∧zo (yZ V c b).2 (yZ W c b).2):=by
 unfold yZ
 split
 ·exact .inr ⟨rfl,h⟩
 ·rcases h.read b with e |⟨e,h2⟩
  ·rw[e];exact .inl rfl
  ·rw[← e];have ht:=h2.take [(c,(qh V b).1.1),(b-1,c+8)];rw[← ht.1]
   split
   ·split
    ·exact .inr ⟨rfl,ht.2⟩
    ·exact .inr ⟨rfl,ht.2⟩
   ·exact .inr ⟨rfl,h2⟩
theorem zo.grown {V W:VM} (h:zo V W) (c:Int):(x9 V c).1.2=11∨((x9 V c).1=(x9 W c).1∧zo (x9 V c).2 (x9 W c).2):=by
 unfold x9;rw[← h.sz];rcases h.read 5 with e |⟨e,h2⟩
 ·rw[e];exact .inl rfl
 ·rw[← e];have ht:=h2.take [(5,(qh V 5).1.1+1+vT c),((qh V 5).1.1,c+8)];rw[← ht.1]
  split
  ·split
   ·exact .inr ⟨rfl,h2⟩
   ·split
    ·exact .inr ⟨rfl,ht.2⟩
    ·exact .inr ⟨rfl,ht.2⟩
  ·exact .inr ⟨rfl,h2⟩
theorem zo.alloc {V W:VM} (h:zo V W) (n:Int):(zu V n).1.2=11∨((zu V n).1=(zu W n).1∧zo (zu V n).2 (zu W n).2):=by
 unfold zu
 split
 ·exact .inr ⟨rfl,h⟩
 ·rcases h.read (xL n)with e |⟨e,h2⟩
  ·rw[e];exact .inl rfl
  ·rw[← e]
   split
   ·split
    ·exact h2.grown _
    ·exact h2.again _ _
   ·exact .inr ⟨rfl,h2⟩
theorem zo.free {V W:VM} (h:zo V W) (b:Int):(vF V b).1=11∨((vF V b).1=(vF W b).1∧zo (vF V b).2 (vF W b).2):=by
 unfold vF;rcases h.ask b with e |⟨e,h2⟩
 ·rw[e];exact .inl rfl
 ·rw[← e];have ht:=h2.take [(b-1,(zV V b).1.1)];rw[← ht.1]
  split
  ·split
   ·split
    ·refine .inr ⟨rfl,?_⟩;unfold freeV;rw[← ht.2.lv];exact⟨ht.2.sz,ht.2.most,rfl,ht.2.K⟩
    ·exact .inr ⟨ht.1,ht.2⟩
   ·exact .inr ⟨rfl,h2⟩
  ·exact .inr ⟨rfl,h2⟩
theorem zo.give {V W:VM} (h:zo V W) (b:Int):(zG V b).1=11∨((zG V b).1=(zG W b).1∧zo (zG V b).2 (zG W b).2):=by
 unfold zG;rcases h.ask b with e |⟨e,h2⟩
 ·rw[e];exact .inl rfl
 ·rw[← e]
  split
  ·split
   ·exact .inr ⟨rfl,h2⟩
   ·rcases h2.read (zV V b).1.1 with e2 |⟨e2,h3⟩
    ·rw[e2];exact .inl rfl
    ·rw[← e2]
     split
     ·exact .inr (h3.take _)
     ·exact .inr ⟨rfl,h3⟩
  ·exact .inr ⟨rfl,h2⟩
theorem zo.open' {V W:VM} (h:zo V W):(y8 V).1=(y8 W).1∧zo (y8 V).2 (y8 W).2:=by unfold y8;rw[← h.lv];exact⟨rfl,h.same _⟩
theorem zo.drop {V W:VM} (h:zo V W):(xO V).1=(xO W).1∧zo (xO V).2 (xO W).2:=by unfold xO;rw[← h.lv];exact⟨rfl,h.same _⟩
theorem zo.keep {V W:VM} (h:zo V W):(vA V).1=(vA W).1∧zo (vA V).2 (vA W).2:=by unfold vA;rw[← h.lv];exact⟨rfl,h.same _⟩
structure KM (a b:SM):Prop where
  e:a.e=b.e
  nx:a.nx=b.nx
  blk:a.blk=b.blk
  s:a.s=b.s
  v:zo a.v b.v
theorem zo.begin_ {V W:VM} (h:zo V W) (op a nx:Int) (s:IM):KM (zB op a nx s V) (zB op a nx s W):=by
 unfold zB;rw[← h.open'.1]
 split
 ·exact⟨rfl,rfl,rfl,rfl,h.open'.2⟩
 ·exact⟨rfl,rfl,rfl,rfl,h.open'.2⟩
theorem zo.retry {mt:List Int} {s:IM}:∀(o:List PtM) {V W:VM},zo V W→KM (yn mt o s V) (yn mt o s W):=by
 intro o
 induction o with
 |nil=>intro V W h;exact⟨rfl,rfl,rfl,rfl,h⟩
 |cons p o ih=>
  intro V W h;unfold yn;rw[← h.drop.1]
  split
  ·split
   ·exact h.drop.2.begin_ ..
   ·exact ih h.drop.2
  ·exact⟨rfl,rfl,rfl,rfl,h.drop.2⟩
theorem zo.turn {V W:VM} (h:zo V W) (mt:List Int) (s:IM) (op:Int):KM (wZ mt s V op) (wZ mt s W op):=by
 unfold wZ
 split
 ·exact h.begin_ ..
 ·split
  ·exact⟨h.keep.1,rfl,rfl,rfl,h.keep.2⟩
  ·split
   ·exact⟨h.keep.1,rfl,rfl,rfl,h.keep.2⟩
   ·split
    ·exact⟨h.drop.1,rfl,rfl,rfl,h.drop.2⟩
    ·exact zo.retry _ h
theorem zo.touch {V W:VM} (h:zo V W) (s:IM) (x:qR):(jS s V x).1=11∨((jS s V x).1=(jS s W x).1∧(jS s V x).2.1=(jS s W x).2.1∧zo (jS s V x).2.2 (jS s W x).2.2):=by
 unfold jS
 split
 ·split
  ·rcases h.read (yP (qM s.regs x.2.2.1) x.2.2.2.1).1 with e |⟨e,h2⟩
   ·rw[e];exact .inl rfl
   ·rw[← e]
    split
    ·exact .inr ⟨rfl,rfl,h2⟩
    ·exact .inr ⟨rfl,rfl,h2⟩
  ·exact .inr ⟨rfl,rfl,h⟩
 ·split
  ·split
   ·have ht:=h.take [((yP (qM s.regs x.2.1) x.2.2.2.1).1,qM s.regs x.2.2.1)];exact .inr ⟨ht.1,rfl,ht.2⟩
   ·exact .inr ⟨rfl,rfl,h⟩
  ·split
   ·split
    ·exact .inr ⟨rfl,rfl,h⟩
    ·rcases h.alloc (qM s.regs x.2.2.1)with e |⟨e,h2⟩
     ·rw[e];exact .inl rfl
     ·rw[← e]
      split
      ·exact .inr ⟨rfl,rfl,h2⟩
      ·exact .inr ⟨rfl,rfl,h2⟩
   ·split
    ·exact .inr ⟨rfl,rfl,h⟩
    ·rcases h.free (qM s.regs x.2.1)with e |⟨e,h2⟩
     ·exact .inl e
     ·exact .inr ⟨e,rfl,h2⟩
theorem yI {c:Prop} [Decidable c] {a b a' b':SM} (ha:a.e=11∨KM a a') (hb:b.e=11∨KM b b'):(if c then a else b).e=11∨KM (if c then a else b) (if c then a' else b'):=by
 split
 ·exact ha
 ·exact hb
theorem zo.do_ {V W:VM} (h:zo V W) (mt:List Int) (s:IM) (x:qR):(doM mt s V x).e=11∨KM (doM mt s V x) (doM mt s W x):=by
 have sm:∀(e nx:Int) (b:Bool) (s':IM),(⟨e,nx,b,s',V⟩:SM).e=11∨KM ⟨e,nx,b,s',V⟩ ⟨e,nx,b,s',W⟩:=λe nx b s'=>.inr ⟨rfl,rfl,rfl,rfl,h⟩;unfold doM;refine yI (sm ..) (yI (sm ..) (yI (sm ..) (yI (sm ..) (yI (sm ..) (yI (sm ..) (yI (sm ..) (yI (sm ..) (yI (sm ..) (yI (yI (sm ..) (sm ..)) (yI (sm ..) (yI ?_ (.inr (h.turn ..)))))))))))));rcases h.touch s x with e |⟨e1,e2,h2⟩
 ·exact .inl e
 ·exact .inr ⟨e1,rfl,rfl,e2,h2⟩
theorem qjI {l:List qR} (F:Fit l) (Q:Quiet l):∀(n:Nat) {s:IM} {V W:VM},GI l s V→GI l s W→frS V.lv+n<9000→zo V W→
  ((jg l (qL l) n s V).kind=1∧∃W',zo (jg l (qL l) n s V).v W'∧W'.K=W.K∧W'.sz=W.sz∧GI l (jg l (qL l) n s V).s W'∧jg l (qL l) n s W=jg l (qL l) (jg l (qL l) n s V).left (jg l (qL l) n s V).s W')∨
  ((jg l (qL l) n s V).kind≠1∧(jg l (qL l) n s W).kind=(jg l (qL l) n s V).kind∧(jg l (qL l) n s W).err=(jg l (qL l) n s V).err∧(jg l (qL l) n s W).left=(jg l (qL l) n s V).left∧
   (jg l (qL l) n s W).s=(jg l (qL l) n s V).s∧zo (jg l (qL l) n s V).v (jg l (qL l) n s W).v):=by
 intro n
 induction n with
 |zero=>
  intro s V W G GW hf h;right;rw[gw,gw]
  split
  ·exact⟨(λh=>by cases h),rfl,rfl,rfl,rfl,h⟩
  ·exact⟨(λh=>by cases h),rfl,rfl,rfl,rfl,h⟩
 |succ n ih=>
  intro s V W G GW hf h;by_cases h0:s.pc=l.length
  ·right;rw[Vv h0,Vv h0];exact⟨(λh=>by cases h),rfl,rfl,rfl,rfl,h⟩
  ·obtain⟨i,hi,hil⟩:=G.pc;have hlt:i<l.length:=by omega
   have hfW:frS W.lv=frS V.lv:=by rw[h.lv]
   have S:=JD F G hi hlt omQ (Q.at hlt).2 (Q.at hlt).1;have SW:=JD F GW hi hlt omQ (Q.at hlt).2 (Q.at hlt).1;have D:=h.do_ (qL l) s (qP l i);have eV:=gu (l:=l) (mt:=qL l) (n:=n) (s:=s) (V:=V);have eW:=gu (l:=l) (mt:=qL l) (n:=n) (s:=s) (V:=W);rw[iQ h0,hi]at eV eW;generalize doM (qL l) s V (qP l i)=A at*;generalize doM (qL l) s W (qP l i)=B at*;rcases D with e11 |D
   ·left;obtain⟨n1,n2,_⟩:=S.need e11;rw[eV,iQ (by rw[e11];decide),iJ e11];refine⟨rfl,W,⟨by rw[← h.sz];exact S.sz,by rw[← h.most];exact S.most,by rw[← h.lv];exact n2,λp x hx=>h.K p x (by rw[← S.K];exact hx)⟩,rfl,rfl,?_,?_⟩
    ·rw[n1];exact GW
    ·rw[n1]
   ·rw[eV,eW,← D.e,← D.nx,← D.blk,← D.s];by_cases h1:A.e=0
    ·rw[iJ h1,iJ h1];by_cases h2:A.blk=true
     ·right;rw[iJ h2,iJ h2];exact⟨(λh=>by cases h),rfl,rfl,rfl,rfl,D.v⟩
     ·rw[iQ h2,iQ h2];have hb:A.blk=false:=by simpa using h2
      have nW:=SW.next (by rw[← D.e];exact h1) (by rw[← D.blk];exact hb);rw[← D.nx,← D.s]at nW;have hfr:=S.fr;rcases ih (S.next h1 hb) nW omQ D.v with⟨k,W',p,hK,hz,g,e⟩ |r
      ·exact .inl ⟨k,W',p,hK.trans SW.K,hz.trans SW.sz,g,e⟩
      ·exact .inr r
    ·rw[iQ h1,iQ h1];by_cases h2:A.e=11
     ·left;obtain⟨n1,n2,_⟩:=S.need h2;obtain⟨m1,m2,_⟩:=SW.need (by rw[← D.e];exact h2);rw[iJ h2,iJ h2];refine⟨rfl,W,⟨by rw[← h.sz];exact S.sz,by rw[← h.most];exact S.most,by rw[← h.lv];exact n2,λp x hx=>h.K p x (by rw[← S.K];exact hx)⟩,rfl,rfl,?_,?_⟩
      ·show GI l A.s W;rw[n1];exact GW
      ·show _=jg l (qL l) (n+1) A.s W;rw[n1,eW,← D.e,← D.nx,← D.blk,← D.s,iQ h1,iJ h2,n1]
     ·right;rw[iQ h2,iQ h2];exact⟨(λh=>by cases h),rfl,rfl,rfl,rfl,D.v⟩
end Go.Proofs.YtnalffoigcmnnabGreatDoor
namespace Go.Proofs.YtnalffoigcmnnabGreatDoor
open Go Go.Ae
inductive Stp:Nat→jQ→jL→jQ→jL→Prop
  |nil {x:jQ} {M:jL}:Stp 0 x M x M
  |cons {k:Nat} {x y:jQ} {M N:jL} {o:OpM} (hn:xq x=some o) (r:Stp k (jb x (jm M o).1) (jm M o).2 y N):Stp (k+1) x M y N
theorem Stp.trans {a b:Nat} {x y z:jQ} {M N O:jL} (s:Stp a x M y N) (t:Stp b y N z O):Stp (a+b) x M z O:=by
 induction s with
 |nil=>rw[Nat.zero_add];exact t
 |cons hn _ ih=>rw[Nat.add_right_comm];exact .cons hn (ih t)
theorem Stp.one {x y:jQ} {M N:jL} {o:OpM} (hn:xq x=some o) (e:jm M o=(⟨0,lk0,false,0⟩,N)) (h:jb x ⟨0,lk0,false,0⟩=y):Stp 1 x M y N:=by refine .cons hn ?_;rw[e];dsimp only;rw[h];exact .nil
theorem Stp.step {x y:jQ} {M N:jL} {o:OpM} {a:AnM} (hn:xq x=some o) (e:jm M o=(a,N)) (h:jb x a=y):Stp 1 x M y N:=by refine .cons hn ?_;rw[e];dsimp only;rw[h];exact .nil
def bump (M:jL) (k:Int):jL:={ M with cnt:=M.cnt+k }
theorem kI (M:jL) (a b:Int):bump (bump M a) b=bump M (a+b):=by unfold bump;dsimp only;rw[Int.add_assoc]
structure yw (S:xw) (M:jL) (me:Int):Prop where
  w:(M.w.length:Int)=S.words
  l:(M.l.length:Int)=S.stripes
  s:(M.s.length:Int)=S.threads
  me:0≤me∧me<S.threads
  lk:∀i:Nat,i<M.l.length→∃v:Int,zq M.l i=(v,false,0)∧0≤v∧v≤M.n
  n:0≤M.n∧M.n<4611686018427387902
  wd:∀z∈M.w,0≤z∧z<18446744073709551616
section
variable {S:xw} {M:jL} {me:Int}
theorem yw.bump (C:yw S M me) (k:Int):yw S (bump M k) me:=⟨C.w,C.l,C.s,C.me,C.lk,C.n,C.wd⟩
theorem Kp (C:yw S M me) {s:Int} (h:0≤s∧s<S.stripes):jm M (op0 3 s 0)=(⟨0,zq M.l s,false,0⟩,bump M 1):=by
 have hl:=C.l;have e:QV M (op0 3 s 0)=(⟨0,zq M.l s,false,0⟩,M):=by unfold QV;rw[iQ (by show¬(s<0∨(M.l.length:Int)≤s);omega),iJ (by rfl)];rfl
 show(if(QV M (op0 3 s 0)).1.err=0 then((QV M (op0 3 s 0)).1,{ (QV M (op0 3 s 0)).2 with cnt:=(QV M (op0 3 s 0)).2.cnt+1 })else QV M (op0 3 s 0))=_;rw[e];rfl
theorem qvU (C:yw S M me) {p:Int} (h:1≤p∧p<S.words):jm M (op0 1 p 0)=(⟨qM M.w p,lk0,false,0⟩,bump M 1):=by
 have hl:=C.w;have e:J0 M (op0 1 p 0)=(⟨qM M.w p,lk0,false,0⟩,M):=by unfold J0;rw[iQ (by show¬(p<1∨(M.w.length:Int)≤p);omega),iJ (by rfl)];rfl
 show(if(J0 M (op0 1 p 0)).1.err=0 then((J0 M (op0 1 p 0)).1,{ (J0 M (op0 1 p 0)).2 with cnt:=(J0 M (op0 1 p 0)).2.cnt+1 })else J0 M (op0 1 p 0))=_;rw[e];rfl
theorem ZY (M:jL):jm M (op0 6 0 0)=(⟨M.n,lk0,false,0⟩,bump M 1):=rfl
theorem UH (C:yw S M me) {w:Int}:jm M (op0 9 me w)=(an0,{ M with s:=M.s.set me.toNat w,cnt:=M.cnt+1 }):=by
 have hl:=C.s;have hm:=C.me;have e:Gx M (op0 9 me w)=(an0,{ M with s:=M.s.set me.toNat w }):=by unfold Gx;rw[iQ (by show¬(me<0∨(M.s.length:Int)≤me);omega),iQ (by show¬(9:Int)=8;decide)];rfl
 show(if(Gx M (op0 9 me w)).1.err=0 then((Gx M (op0 9 me w)).1,{ (Gx M (op0 9 me w)).2 with cnt:=(Gx M (op0 9 me w)).2.cnt+1 })else Gx M (op0 9 me w))=_;rw[e];rfl
theorem yw.at (C:yw S M me) {s:Int} (h:0≤s∧s<S.stripes):∃v:Int,zq M.l s=(v,false,0)∧0≤v∧v≤M.n:=by have hl:=C.l;obtain⟨k,rfl⟩:∃k:Nat,s=k:=⟨s.toNat,by omega⟩;exact C.lk k omQ
theorem qQ8 {S:xw} (O:gr S) {p:Int} (hp:0≤p):0≤ofM p S.stripes S.wide∧ofM p S.stripes S.wide<S.stripes:=by have h:=O.stripes;unfold ofM;rw[iQ omQ,show max 1 (min S.stripes 16)=S.stripes by omega];exact⟨Int.emod_nonneg _ omQ,Int.emod_lt_of_pos _ omQ⟩
structure kQ (S:xw) (M:jL) (r:List xR):Prop where
  at_:∀y∈r,0≤y.1∧y.1<S.stripes∧y.2=(zq M.l y.1).1
  un:(r.map (·.1)).Nodup
theorem kQ.len {r:List xR} (O:gr S) (R:kQ S M r):r.length≤16:=by
 have:=Yr 16 (r.map (·.1)) R.un (λx hx=>by
  obtain⟨y,hy,rfl⟩:=List.mem_map.1 hx;have h1:=R.at_ y hy;have h2:=O.stripes
  omega)
 simpa using this
theorem kQ.add {r:List xR} (O:gr S) (C:yw S M me) (R:kQ S M r) {s:Int} (hs:0≤s∧s<S.stripes):(wo r (s,(zq M.l s).1)).1=0∧kQ S M (wo r (s,(zq M.l s).1)).2:=by
 obtain⟨v,e,h0,h1⟩:=C.at hs;have hst:=O.stripes;have hn:=C.n;unfold wo;rw[iQ (by rw[e];dsimp only;omega)];cases hf:r.find? λy=>decide (y.1=(s,(zq M.l s).1).1)with
 |some y=>
  dsimp only;have hy:=List.find?_some hf;have hm:=List.mem_of_find?_eq_some hf;have h2:=R.at_ y hm;have hys:y.1=s:=by simpa using hy
  rw[iQ (by rw[h2.2.2,hys];exact λh=>h rfl)];exact⟨rfl,R⟩
 |none=>
  dsimp only;have hno:∀y∈r,y.1≠s:=λy hy h=>by
   have:=List.find?_eq_none.1 hf y hy;simp[h]at this
  have hnd:(s::r.map (·.1)).Nodup:=List.nodup_cons.2 ⟨λh=>by obtain⟨y,hy,h2⟩:=List.mem_map.1 h;exact hno y hy h2,R.un⟩
  have hl:=Yr 16 _ hnd (λx hx=>by
   rcases List.mem_cons.1 hx with rfl |hx
   ·omega
   ·obtain⟨y,hy,rfl⟩:=List.mem_map.1 hx;have h1:=R.at_ y hy
    omega)
  simp at hl;rw[iQ omQ];refine⟨rfl,λy hy=>?_,?_⟩
  ·rcases List.mem_append.1 hy with hy |hy
   ·exact R.at_ y hy
   ·rw[List.mem_singleton]at hy;subst hy;exact⟨hs.1,hs.2,rfl⟩
  ·show((r++[(s,(zq M.l s).1)]).map (·.1)).Nodup;rw[List.map_append,List.nodup_append];refine⟨R.un,List.nodup_cons.2 ⟨λh=>(by cases h),List.nodup_nil⟩,λa ha b hb=>?_⟩;obtain⟨y,hy,rfl⟩:=List.mem_map.1 ha;rw[List.map_singleton,List.mem_singleton]at hb;subst hb;exact hno y hy
theorem YE {x:jQ} (h:(xg x).1=0) (hw:zP x=false):xe x=x:=by unfold xe;rw[iJ h];unfold z8;rw[hw];rfl
theorem wn {x:jQ} (h:x.c=none):zP x=false:=by unfold zP;rw[h];exact Bool.and_false _
theorem qY6 {x:jQ} (h:x.c=none):zP (xu x)=false:=by
 have hc:(ye x).2.c=none:=by
  unfold ye
  split<;>exact h
 unfold xu vi;generalize(ye x).2=y at*
 split
 ·exact wn hc
 ·split
  ·exact wn hc
  ·split
   ·exact wn hc
   ·split
    ·exact wn hc
    ·unfold zP;dsimp only;have e:∀(me sp st:Int) (r:List xR) (cs:List Cl) (a w:Int),wB (J2 me sp st r cs a w)=false∧(J2 me sp st r cs a w).p.fin=0:=λ_ _ _ _ _ _ _=>⟨rfl,rfl⟩;rw[(e ..).1,(e ..).2];rfl
theorem YM {x:jQ} {a:AnM} (h3:x.state=3) (ha:a.err=0):jb x a=xe { x with f:=xT x.f a }:=by unfold jb;rw[iQ omQ,iQ (by rw[ha];exact λh=>h rfl),iQ omQ,iQ omQ,iQ omQ,iQ omQ,iJ h3]
theorem qwD (O:gr S) (C:yw S M me) {x:jQ} (h3:x.state=3) (hc:x.c=none) {p:Int} (hf:x.f=kT x.me p (ofM p S.stripes S.wide) S.spins x.stamp) (hs:x.stamp=M.n) (hp:1≤p∧p<S.words) (hR:kQ S M x.r) (hn:x.v.need=p) :
  ∃F:Qb,Stp 3 x M (xu { x with f:=F,r:=(wo x.r (ofM p S.stripes S.wide,(zq M.l (ofM p S.stripes S.wide)).1)).2,v:=(z6 x.v p (qM M.w p)).2 }) (bump M 3):=by
 have hof:=qQ8 O (p:=p) omQ;generalize hst:ofM p S.stripes S.wide=st at*;obtain⟨v,e,h0,h1⟩:=C.at hof;have ha:=(kQ.add O C hR hof).1;rw[e]at ha ⊢;have n1:xq x=some (op0 3 st 0):=by unfold xq;rw[iQ omQ,iQ omQ,iQ omQ,iQ omQ,iQ omQ,iJ h3,hf];rfl
 have s1:Stp 1 x M { x with f:={ kT x.me p st S.spins x.stamp with lk:=(v,false,0),state:=1 } } (bump M 1):=by
  refine .step n1 (Kp C hof) ?_;rw[e,YM h3 rfl,hf];have ef:xT (kT x.me p st S.spins x.stamp) ⟨0,(v,false,0),false,0⟩={ kT x.me p st S.spins x.stamp with lk:=(v,false,0),state:=1 }:=by show(if x.stamp<v then _ else _)=_;rw[iQ omQ]
  rw[ef];refine YE ?_ (wn hc);unfold xg;rw[iJ h3];rfl
 have s2:Stp 1 { x with f:={ kT x.me p st S.spins x.stamp with lk:=(v,false,0),state:=1 } } (bump M 1) { x with f:={ kT x.me p st S.spins x.stamp with lk:=(v,false,0),state:=2,word:=qM M.w p } } (bump (bump M 1) 1):=by
  refine .step (o:=op0 1 p 0) ?_ (qvU (C.bump 1) hp) ?_
  ·unfold xq;rw[iQ (by show¬x.state=0;omega),iQ (by show¬x.state=1;omega),iQ (by show¬x.state=2;omega),iQ (by show¬x.state=7;omega),iQ (by show¬x.state=8;omega),iJ (by exact h3)];rfl
  ·rw[YM (by exact h3) rfl];refine YE ?_ (wn hc);unfold xg;rw[iJ (by exact h3)];rfl
 have s3:Stp 1 { x with f:={ kT x.me p st S.spins x.stamp with lk:=(v,false,0),state:=2,word:=qM M.w p } } (bump (bump M 1) 1)
   (xu { x with f:={ kT x.me p st S.spins x.stamp with lk:=(v,false,0),state:=2,word:=qM M.w p,p:=zx (QP x.me S.spins) 2 0 (-1) },r:=(wo x.r (st,v)).2,v:=(z6 x.v p (qM M.w p)).2 }) (bump (bump (bump M 1) 1) 1):=by
  refine .step (o:=op0 3 st 0) ?_ (Kp ((C.bump 1).bump 1) hof) ?_
  ·unfold xq;rw[iQ (by show¬x.state=0;omega),iQ (by show¬x.state=1;omega),iQ (by show¬x.state=2;omega),iQ (by show¬x.state=7;omega),iQ (by show¬x.state=8;omega),iJ (by exact h3)];rfl
  ·rw[YM (by exact h3) rfl];have ef:xT { kT x.me p st S.spins x.stamp with lk:=(v,false,0),state:=2,word:=qM M.w p } ⟨0,zq (bump (bump M 1) 1).l st,false,0⟩={ kT x.me p st S.spins x.stamp with lk:=(v,false,0),state:=2,word:=qM M.w p,p:=zx (QP x.me S.spins) 2 0 (-1) }:=by
    show xT _ ⟨0,zq M.l st,false,0⟩=_;rw[e];unfold xT;rw[iQ (by exact λh=>by cases h),iQ (by show¬(2:Int)=1;decide),iJ ⟨rfl,rfl⟩];rfl
   dsimp only;rw[ef];unfold xe;have hfin:(xg { x with f:={ kT x.me p st S.spins x.stamp with lk:=(v,false,0),state:=2,word:=qM M.w p,p:=zx (QP x.me S.spins) 2 0 (-1) } }).1=2:=by unfold xg;rw[iJ (by exact h3)];rfl
   rw[hfin,iQ od,iQ od];have hend:yG { x with f:={ kT x.me p st S.spins x.stamp with lk:=(v,false,0),state:=2,word:=qM M.w p,p:=zx (QP x.me S.spins) 2 0 (-1) } }=xu { x with f:={ kT x.me p st S.spins x.stamp with lk:=(v,false,0),state:=2,word:=qM M.w p,p:=zx (QP x.me S.spins) 2 0 (-1) },r:=(wo x.r (st,v)).2,v:=(z6 x.v p (qM M.w p)).2 }:=by unfold yG;rw[iJ (by exact h3)];unfold yg;rw[iQ (by show¬(2:Int)=6;decide)];have es:yu { kT x.me p st S.spins x.stamp with lk:=(v,false,0),state:=2,word:=qM M.w p,p:=zx (QP x.me S.spins) 2 0 (-1) }=(st,v):=rfl;have ew:yy { kT x.me p st S.spins x.stamp with lk:=(v,false,0),state:=2,word:=qM M.w p,p:=zx (QP x.me S.spins) 2 0 (-1) }=qM M.w p:=rfl;dsimp only;rw[es,ew,iJ ha,hn]
   rw[hend];unfold z8;rw[qY6 (by exact hc)];rfl
 have:=(s1.trans s2).trans s3;rw[kI,kI]at this;exact⟨_,this⟩
end
end Go.Proofs.YtnalffoigcmnnabGreatDoor
namespace Go.Proofs.YtnalffoigcmnnabGreatDoor
open Go Go.Ae
theorem Xv {l t:List qR} {j:Nat} (h:j<l.length):qP (l++t) (j:Int)=qP l (j:Int):=by unfold qP;rw[Int.toNat_natCast,List.getElem?_append_left h]
theorem Q8 {l t:List qR} {k:Nat} {x:qR} (h:t[k]? =some x):qP (l++t) ((l.length+k:Nat):Int)=x:=by unfold qP;rw[Int.toNat_natCast,List.getElem?_append_right omQ,show l.length+k-l.length=k by omega,h];rfl
theorem wY {l t:List qR}:∀i,i≤l.length→qE (l++t) i=qE l i:=by
 intro i
 induction i with
 |zero=>intro _;rfl
 |succ i ih=>intro h;rw[jz,jz,ih omQ,Xv omQ]
theorem qxN {l t:List qR} {st:List Int} (h:StOk l.length st):opM (l++t) st=opM l st:=by
 unfold opM;by_cases h0:st=[]
 ·rw[iJ h0,iJ h0]
 ·rw[iQ h0,iQ h0];have hb:=h.inmost h0;obtain⟨p,hp⟩:∃p:Nat,qt st=p:=⟨(qt st).toNat,by omega⟩;rw[hp,Xv omQ]
theorem Vr {l t:List qR} {st:List Int} {x:qR} (h:StOk l.length st):zc (l++t) st x=zc l st x:=by unfold zc;rw[qxN h]
theorem StOk.mono {i j:Nat} {st:List Int} (h:StOk i st) (hij:i≤j):StOk j st:=λy hy=>by have:=h y hy;omega
def qjH (l:List qR) (calm:Bool) (j:Nat) (x:qR):Prop:=(x.1=12∨x.1=13)→∃c:Nat,x.2.2.2.1=c∧c≤l.length∧qE l c=qE l j∧(calm=true→j<c)
structure Gw (calm:Bool) (x:qR):Prop where
  may:vR x=true
  no:x.1≠23
  n:0≤x.2.2.2.2∧x.2.2.2.2<18446744073709551616
  cal:calm=true→x.1≠20∧x.1≠22∧x.1≠12
structure Bld (calm:Bool) (l:List qR) (st:List Int):Prop where
  ok:∀x∈l,Gw calm x
  wr:∀j,j<l.length→zc l (qE l j) (qP l j)=0
  top:qE l l.length=st
  jp:∀j,j<l.length→qjH l calm j (qP l j)
  five:st.length≤5
def jU (l:List qR) (st:List Int):List Int:=st.map λp=>(qP l p).1
theorem Xf {l t:List qR} {st:List Int} (h:StOk l.length st):jU (l++t) st=jU l st:=by unfold jU;refine List.map_congr_left λp hp=>?_;have:=h p hp;obtain⟨q,rfl⟩:∃q:Nat,p=q:=⟨p.toNat,by omega⟩;rw[Xv omQ]
theorem Bld.stok {calm:Bool} {l:List qR} {st:List Int} (B:Bld calm l st):StOk l.length st:=by rw[← B.top];exact(KP l.length).1
theorem Bld.nil (calm:Bool):Bld calm [] []:=⟨λx hx=>(by cases hx),λj hj=>(by simp at hj),rfl,λj hj=>(by simp at hj),osQ⟩
theorem Bld.ext {calm:Bool} {l t:List qR} {st:List Int} (B:Bld calm l st) (h1:∀x∈t,Gw calm x) (h2:∀k,k<t.length→zc (l++t) (qE (l++t) (l.length+k)) (qP (l++t) ((l.length+k:Nat):Int))=0)
  (h3:∀k,k<t.length→qjH (l++t) calm (l.length+k) (qP (l++t) ((l.length+k:Nat):Int))) (h5:(qE (l++t) (l++t).length).length≤5):Bld calm (l++t) (qE (l++t) (l++t).length):=by
 refine⟨?_,?_,rfl,?_,h5⟩
 ·intro x hx;rcases List.mem_append.1 hx with hx |hx
  ·exact B.ok x hx
  ·exact h1 x hx
 ·intro j hj;by_cases hjl:j<l.length
  ·rw[wY j omQ,Xv hjl,Vr ((KP j).1.mono omQ)];exact B.wr j hjl
  ·have:=h2 (j-l.length) (by simp at hj;omega)
   rwa [show l.length+(j-l.length)=j by omega]at this
 ·intro j hj;by_cases hjl:j<l.length
  ·intro ho;rw[Xv hjl]at ho ⊢;obtain⟨c,c1,c2,c3,c4⟩:=B.jp j hjl ho;exact⟨c,c1,by simp;omega,by rw[wY c c2,wY j omQ];exact c3,c4⟩
  ·have:=h3 (j-l.length) (by simp at hj;omega)
   rwa [show l.length+(j-l.length)=j by omega]at this
theorem qGF {l:List qR} {x:qR}:qE (l++[x]) (l.length+1)=jZ (qE l l.length) l.length x.1:=by have e:=Q8 (l:=l) (t:=[x]) (k:=0) (x:=x) rfl;rw[Nat.add_zero]at e;rw[jz,wY _ (Nat.le_refl _),e]
theorem Bld.app {calm:Bool} {l:List qR} {st:List Int} (B:Bld calm l st) {x:qR} (h1:Gw calm x) (h2:zc l st x=0) (h3:x.1≠12∧x.1≠13) (h5:(jZ st l.length x.1).length≤5):Bld calm (l++[x]) (jZ st l.length x.1):=by
 have e:=Q8 (l:=l) (t:=[x]) (k:=0) (x:=x) rfl;rw[Nat.add_zero]at e;have hs:qE (l++[x]) (l++[x]).length=jZ st l.length x.1:=by rw[List.length_append,List.length_singleton,qGF,B.top]
 rw[← hs]at h5 ⊢;refine B.ext (by intro y hy;rw[List.mem_singleton]at hy;subst hy;exact h1) ?_ ?_ h5
 ·intro k hk;obtain rfl:k=0:=by simpa using hk
  rw[Nat.add_zero,e,wY _ (Nat.le_refl _),B.top,Vr B.stok];exact h2
 ·intro k hk;obtain rfl:k=0:=by simpa using hk
  rw[Nat.add_zero,e];intro ho;omega
def Flat (op:Int):Prop:=op≠14∧op≠15∧op≠16∧op≠17∧op≠18∧op≠19
theorem Flat.behind {op:Int} (h:Flat op) (st:List Int) (i:Int):jZ st i op=st:=by obtain⟨h1,h2,h3,h4,h5,h6⟩:=h;unfold jZ;rw[iQ (by unfold z7;simp;omega),iQ (by unfold jr;rw[iQ h2,iQ h5,iQ h6];omega)]
theorem Flat.wrong {x:qR} (h:Flat x.1) (hm:vR x=true) (l:List qR) (st:List Int):zc l st x=0:=by
 obtain⟨h1,h2,h3,h4,h5,h6⟩:=h;unfold zc
 rw[iQ (by rw[hm];simp),iQ (λhh=>by have:=hh.1;unfold jr at this;rw[iQ h2,iQ h5,iQ h6]at this;omega),iQ (λhh=>h3 hh.1),
  iQ (λhh=>by have:=hh.1;unfold z7 at this;simp at this;omega)]
theorem Bld.flat {calm:Bool} {l:List qR} {st:List Int} (B:Bld calm l st) {x:qR} (h1:Gw calm x) (hf:Flat x.1) (h3:x.1≠12∧x.1≠13):Bld calm (l++[x]) st:=by
 have:=B.app h1 (hf.wrong h1.may l st) h3 (by rw[hf.behind];exact B.five)
 rwa [hf.behind]at this
theorem Bld.two {calm:Bool} {l:List qR} {st:List Int} (B:Bld calm l st) {x y:qR} (hx:Gw calm x) (hy:Gw calm y) (fx:Flat x.1) (fy:Flat y.1)
  (jx:(x.1=12∨x.1=13)→x.2.2.2.1=((l.length+2:Nat):Int)) (jy:(y.1=12∨y.1=13)→y.2.2.2.1=(l.length:Int)∧calm=false):Bld calm (l++[x,y]) st:=by
 have e0:=Q8 (l:=l) (t:=[x,y]) (k:=0) (x:=x) rfl;have e1:=Q8 (l:=l) (t:=[x,y]) (k:=1) (x:=y) rfl;rw[Nat.add_zero]at e0;have s0:qE (l++[x,y]) l.length=st:=by rw[wY _ (Nat.le_refl _),B.top]
 have s1:qE (l++[x,y]) (l.length+1)=st:=by rw[jz,s0,e0,fx.behind]
 have s2:qE (l++[x,y]) (l.length+2)=st:=by rw[show l.length+2=l.length+1+1 from rfl,jz,s1,e1,fy.behind]
 have hs:qE (l++[x,y]) (l++[x,y]).length=st:=by rw[List.length_append];exact s2
 have:=B.ext (t:=[x,y]) (by intro z hz;simp at hz;rcases hz with rfl |rfl;exact hx;exact hy) (λk hk=>by
  have hk:k=0∨k=1:=by simp at hk;omega
  rcases hk with rfl |rfl
  ·rw[Nat.add_zero,e0];exact fx.wrong hx.may _ _
  ·rw[e1];exact fy.wrong hy.may _ _) (λk hk=>by
  have hk:k=0∨k=1:=by simp at hk;omega
  rcases hk with rfl |rfl
  ·rw[Nat.add_zero,e0];intro ho;exact⟨l.length+2,jx ho,by simp,by rw[s2,s0],λ_=>by omega⟩
  ·rw[e1];intro ho;obtain⟨a,b⟩:=jy ho
   exact⟨l.length,a,by simp,by rw[s0,s1],λh=>by rw[b]at h;cases h⟩) (by rw[hs];exact B.five)
 rwa [hs]at this
abbrev one (op:Int):qR:=(op,0,0,0,0)
theorem qJ8 (calm:Bool) {op:Int} (h:op=14∨op=15∨op=16∨op=17∨op=18∨op=19):Gw calm (one op):=by refine⟨?_,by dsimp only;omega,by dsimp only;omega,λ_=>by dsimp only;omega⟩;rcases h with rfl |rfl |rfl |rfl |rfl |rfl<;>decide
theorem Bld.begin {calm:Bool} {l:List qR} {st:List Int} (B:Bld calm l st) {op:Int} (h:op=14∨op=17) (h5:st.length<5):Bld calm (l++[one op]) (st++[(l.length:Int)])∧jU (l++[one op]) (st++[(l.length:Int)])=jU l st++[op]:=by
 have hb:jZ st l.length op=st++[(l.length:Int)]:=by unfold jZ;rw[iJ (.inl (by unfold z7;exact iG h)),iQ (by rcases h with rfl |rfl<;>decide)]
 have hw:zc l st (one op)=0:=by unfold zc;rw[iQ (by rcases h with rfl |rfl<;>decide),iQ (λhh=>by have:=hh.1;rcases h with rfl |rfl<;>exact absurd this od),iQ (λhh=>by have:=hh.1;dsimp only at this;omega),iQ omQ]
 have:=B.app (x:=one op) (qJ8 calm omQ) hw (by dsimp only;omega) (by rw[hb];simp;omega);rw[hb]at this;refine⟨this,?_⟩;unfold jU;rw[List.map_append]
 congr 1
 ·exact Xf B.stok
 ·have e:=Q8 (l:=l) (t:=[one op]) (k:=0) (x:=one op) rfl;rw[Nat.add_zero]at e;rw[List.map_singleton,e]
theorem Bld.undo {calm:Bool} {l:List qR} {st:List Int} (B:Bld calm l st) (h:opM l st=14):Bld calm (l++[one 16]) st:=by
 have hb:jZ st l.length 16=st:=by unfold jZ;rw[iQ od,iQ od]
 have hw:zc l st (one 16)=0:=by unfold zc;rw[iQ od,iQ (λhh=>absurd hh.1 od),iQ (λhh=>hh.2 h),iQ (λhh=>absurd hh.1 od)]
 have:=B.app (x:=one 16) (qJ8 calm omQ) hw od (by rw[hb];exact B.five)
 rwa [hb]at this
def vE (o:Int):Int:=if o=14 then 15 else if o=17 then 18 else 19
def Q4 (l:List qR) (st:List Int):List qR:=l++[one (vE (opM l st))]
def X0 (l:List qR) (st:List Int):List Int:=if opM l st=17 then st.dropLast++[(l.length:Int)]else st.dropLast
theorem Bld.shut {calm:Bool} {l:List qR} {st:List Int} (B:Bld calm l st) (hn:st≠[]) (ho:opM l st=14∨opM l st=17∨opM l st=18):Bld calm (Q4 l st) (X0 l st)∧
  jU (Q4 l st) (X0 l st)=(jU l st).dropLast++(if opM l st=17 then[18]else[]):=by
 have hs:jr (vE (opM l st))=opM l st:=by rcases ho with h |h |h<;>rw[h]<;>decide
 have hso:vE (opM l st)=15∨vE (opM l st)=18∨vE (opM l st)=19:=by
  unfold vE
  repeat' split
  all_goals omega
 have he:0<jr (vE (opM l st)):=by rw[hs];omega
 have hlen:=List.length_pos_iff.2 hn;have hb:jZ st l.length (vE (opM l st))=X0 l st:=by
  unfold jZ X0;rw[iJ he];by_cases h17:opM l st=17
  ·rw[iJ h17,iJ (.inr (by rw[h17];decide))]
  ·rw[iQ h17,iQ];rcases ho with h |h |h
   ·rw[h];decide
   ·exact absurd h h17
   ·rw[h];decide
 have hw:zc l st (one (vE (opM l st)))=0:=by
  unfold zc
  rw[iQ (by rcases hso with h |h |h<;>rw[h]<;>decide),iQ (λhh=>hh.2 hs.symm),iQ (λhh=>by have:=hh.1;dsimp only at this;omega),iQ (λhh=>by
   have:=hh.1
   rcases hso with h |h |h<;>rw[h]at this<;>exact absurd this od)]
 have h5:=B.five;have:=B.app (x:=one (vE (opM l st))) (qJ8 calm omQ) hw (by dsimp only;omega) (by rw[hb];unfold X0;split<;>simp<;>omega);rw[hb]at this;refine⟨this,?_⟩;unfold Q4 X0 jU;have hd:(st.dropLast.map λp=>(qP (l++[one (vE (opM l st))]) p).1)=(jU l st).dropLast:=by have:=Xf (t:=[one (vE (opM l st))]) B.stok.dropLast;unfold jU at this ⊢;rw[this,List.map_dropLast]
 split
 ·rename_i h17;have e:=Q8 (l:=l) (t:=[one (vE (opM l st))]) (k:=0) (x:=one (vE (opM l st))) rfl;rw[Nat.add_zero]at e;rw[List.map_append,hd,List.map_singleton,e,h17];rfl
 ·rw[hd,List.append_nil];rfl
theorem qQs {l:List qR} {st:List Int} (hn:st≠[]):opM l st=(jU l st).getLast?.getD 0:=by unfold opM jU qt;rw[iQ hn,List.getLast?_map,List.getLast?_eq_some_getLast hn];rfl
theorem Bld.fit {calm:Bool} {l:List qR} (B:Bld calm l []) (h0:0<l.length) (h40:l.length≤40):xB l=(0,0):=by
 have key:∀d i,i+d=l.length→goM l (l.drop i) i (qE l i)=.inr []:=by
  intro d
  induction d with
  |zero=>
   intro i hi;obtain rfl:i=l.length:=by omega
   rw[List.drop_length,B.top];rfl
  |succ d ih=>
   intro i hi;have hlt:i<l.length:=by omega
   rw[Gq hlt];have hw:=B.wr i hlt;rw[xi hlt]at hw;rw[iJ hw];have:=ih (i+1) omQ;rw[jz,xi hlt]at this;exact this
 have hg:=key l.length 0 omQ;have hreg:∀j,j<l.length→(vC l 0 [])[j]? =some (qt (qE l j)):=λj hj=>by
  have:=MQ (l:=l) l.length 0 omQ j omQ;rw[Nat.zero_add]at this;exact this
 have hnum:∀j:Nat,j<l.length→qM (vC l 0 []) (j:Int)=qt (qE l j):=λj hj=>by
  unfold qM;rw[Int.toNat_natCast,hreg j hj];rfl
 have hj:∀d i,i+d=l.length→Js l (vC l 0 []) (l.drop i) i=(0,0):=by
  intro d
  induction d with
  |zero=>
   intro i hi;obtain rfl:i=l.length:=by omega
   rw[List.drop_length];rfl
  |succ d ih=>
   intro i hi;have hlt:i<l.length:=by omega
   rw[Yj hlt,iQ,ih (i+1) omQ];rintro⟨ho,hc⟩;have hB:=B.jp i hlt;rw[xi hlt]at hB;obtain⟨c,c1,c2,c3,_⟩:=hB ho;rw[c1]at hc;rcases hc with hc |⟨hc,hc2⟩ |⟨hc,hc2⟩
   ·omega
   ·have:c=l.length:=by omega
    subst this;rw[B.top]at c3;rw[hnum i hlt,← c3]at hc2;exact hc2 rfl
   ·rw[hnum c omQ,hnum i hlt,c3]at hc2;exact hc2 rfl
 unfold xB;rw[iQ omQ];have hg2:goM l l 0 []=.inr []:=hg;rw[hg2];dsimp only;rw[iJ rfl];exact hj l.length 0 omQ
end Go.Proofs.YtnalffoigcmnnabGreatDoor
namespace Go.Proofs.YtnalffoigcmnnabGreatDoor
open Go Go.Ae
set_option maxRecDepth 100000
variable {g h:AH} {L R:List SP}
def OkN (zs:List Int):Prop:=∀z∈zs,0≤z∧z<18446744073709551616
theorem OkN.set {zs:List Int} {i:Nat} {x:Int} (h:OkN zs) (hx:0≤x∧x<18446744073709551616):OkN (zs.set i x):=by
 intro z hz;rcases List.mem_or_eq_of_mem_set hz with h1 |rfl
 ·exact h z h1
 ·exact hx
theorem Q2 {x lo hi:Int} (h:lo≤hi):lo≤jo x lo hi∧jo x lo hi≤hi:=by
 unfold jo;have:=Ja x (show 0<hi-lo+1 by omega)
 split<;>omega
def OkZ (zs:List Int):Prop:=OkN zs∧zs[0]? =some 0
theorem OkZ.set {zs:List Int} {i:Nat} {x:Int} (h:OkZ zs) (hx:0≤x∧x<18446744073709551616) (hi:0<i):OkZ (zs.set i x):=⟨h.1.set hx,by rw[List.getElem?_set_ne omQ];exact h.2⟩
end Go.Proofs.YtnalffoigcmnnabGreatDoor
namespace Go.Proofs.YtnalffoigcmnnabGreatDoor
open Go Go.Ae
set_option maxRecDepth 100000
variable {g h:AH} {L R:List SP}
def zb (lv:AV) (l:List qR):SP:=qy 70 5 l.length lv (l.flatMap jK)
def YR (ov:AV) (o:List Int):SP:=qy 3 1 o.length ov (o.map (.int .i64))
theorem XT {n:Nat} (hn:2≤n) {x:Int}:t_w n 28 [.int .i64 x] h λv h'=>v=.int .i64 (jo x 0 6)∧h'=h:=by
 refine t_e1 (S:=S28) rfl omQ λk hk=>?_;unfold S28;try simp only[iZ]
 refine qG (xh omQ omQ omQ omQ) ?_;rintro _ _ ⟨rfl,rfl⟩;exact qj ⟨rfl,rfl⟩
theorem kD {l:List qR} {lv:AV} {t:List qR} {tv:AV} {K2:AV→AH→Go.Ae.R} {Q:AV→AH→Prop} {D':Nat→Prop} (H:HS g h (zb lv l::R)) (S:Sl D' h 5 t.length tv (t.flatMap jK)) (hl:l.length+t.length≤100000)
  (w:∀v' h',HS g h' (zb v' (l++t)::R)→wp (K2 v' h') Q):wp (xY h 70 5 lv tv K2) Q:=by
 refine jf H S omQ omQ (KA t) λv' h' H'=>w v' h' ?_;unfold zb;rw[List.length_append,List.flatMap_append];exact H'
theorem qY1 {a n:Int} (h:0≤a∧a≤7):vR (1,a,0,0,n)=true:=by simp[vR,jF,vP];omega
theorem may_2 {a b:Int} (h:0≤a∧a≤7) (h2:0≤b∧b≤7):vR (2,a,b,0,0)=true:=by simp[vR,jF,vP];omega
theorem may_3 {o a b c:Int} (ho:3≤o∧o≤7) (h:0≤a∧a≤7) (h2:0≤b∧b≤7) (h3:0≤c∧c≤7):vR (o,a,b,c,0)=true:=by
 rcases(show o=3∨o=4∨o=5∨o=6∨o=7 by omega)with rfl |rfl |rfl |rfl |rfl<;>(simp[vR,jF,vP];omega)
theorem Y4 {o a b c:Int} (ho:o=8∨o=9) (h:0≤a∧a≤7) (h2:0≤b∧b≤7) (h3:0≤c∧c≤15):vR (o,a,b,c,0)=true:=by
 rcases ho with rfl |rfl<;>(simp[vR,jF,vP];omega)
theorem qY0 {a b:Int} (h:0≤a∧a≤7) (h2:0≤b∧b≤7):vR (10,a,b,0,0)=true:=by simp[vR,jF,vP];omega
theorem qjc {o a:Int} (ho:o=11∨o=21) (h:0≤a∧a≤7):vR (o,a,0,0,0)=true:=by
 rcases ho with rfl |rfl<;>(simp[vR,jF,vP];omega)
theorem qYB {a c:Int} (h:0≤a∧a≤7) (h3:0≤c∧c≤40):vR (13,a,0,c,0)=true:=by simp[vR,jF,vP];omega
structure VY (x:qR):Prop where
  flat:Flat x.1
  nj:x.1≠12∧x.1≠13
  ok:∀calm,Gw calm x
theorem VY.of {x:qR} (h1:vR x=true) (h2:(1≤x.1∧x.1≤11)∨x.1=21) (h3:0≤x.2.2.2.2∧x.2.2.2.2<18446744073709551616):VY x :=
 ⟨⟨by omega,by omega,by omega,by omega,by omega,by omega⟩,by omega,λ_=>⟨h1,by omega,h3,λ_=>by omega⟩⟩
set_option maxHeartbeats 4000000 in
theorem YK {n:Nat} (hn:3≤n) {kx:qR} (hN:0≤kx.2.2.2.2∧kx.2.2.2.2<18446744073709551616) (H:HS g h R) :
  t_w n 29 [.agg (jK kx)] h λr h'=>∃x,r=.agg (jK x)∧VY x∧HS g h' R:=by
 refine t_e1 (S:=S29) rfl omQ λk hk=>?_;unfold S29;try simp only[iZ]
 refine qO H rfl λb0 h1 H1=>?_;refine qO H1 rfl λb2 h2 H2=>?_;have H2:HS g h2 (qg b2 [.int .i64 ((0:Nat):Int),.int .i64 ((0:Nat):Int),.int .i64 ((0:Nat):Int),.int .i64 ((0:Nat):Int),.int .u64 ((0:Nat):Int)]::qg b0 (jK kx)::R):=H2;clear H H1;refine qV ?_
 try dsimp only
 refine qQ (qK H2 (b:=b0) e_1 rfl ?_);refine qG (XT omQ) ?_;rintro _ _ ⟨rfl,rfl⟩;refine qQ (qK H2 (b:=b0) e_1 rfl ?_);refine qG (XT omQ) ?_;rintro _ _ ⟨rfl,rfl⟩;refine qQ (qK H2 (b:=b0) e_1 rfl ?_);refine qG (XT omQ) ?_;rintro _ _ ⟨rfl,rfl⟩;refine qb H2 (b:=b0) e_1 rfl H2 e_1 rfl (HS.lt H2 e_1) ?_;refine qb H2 (b:=b0) e_1 rfl H2 e_1 rfl (HS.lt H2 e_1) ?_;refine qb H2 (b:=b0) e_1 rfl H2 e_1 rfl (HS.lt H2 e_1) ?_;refine qQ (qK H2 (b:=b0) e_1 rfl ?_);refine qG (xh omQ omQ omQ omQ) ?_;rintro _ _ ⟨rfl,rfl⟩;refine qQ (qK H2 (b:=b0) e_1 rfl ?_);refine qG (xh omQ omQ omQ omQ) ?_;rintro _ _ ⟨rfl,rfl⟩;have ha:=zF kx.2.1 (show(0:Int)≤6 by omega);have hb:=zF kx.2.2.1 (show(0:Int)≤6 by omega);have hc:=zF kx.2.2.2.1 (show(0:Int)≤6 by omega);have hat:=zF kx.2.2.2.1 (show(((6:Nat):Int))≤((15:Nat):Int) by omega);have hw:=zF kx.1 (show(((0:Nat):Int))≤((19:Nat):Int) by omega);generalize jo kx.2.1 0 6=a at*;generalize jo kx.2.2.1 0 6=b at*;generalize jo kx.2.2.2.1 0 6=c at*;generalize jo kx.2.2.2.1 ((6:Nat):Int) ((15:Nat):Int)=at_ at*;generalize jo kx.1 ((0:Nat):Int) ((19:Nat):Int)=w at*;have fin:∀(x:qR) (h0:AH),VY x→HS g h0 (qg b2 [.int .i64 ((0:Nat):Int),.int .i64 ((0:Nat):Int),.int .i64 ((0:Nat):Int),.int .i64 ((0:Nat):Int),.int .u64 ((0:Nat):Int)]::qg b0 (jK kx)::R)→
   wp (jC h0 (.ptr b2 0) (.agg (jK x)) 5 λh22=>ze [] h22 λh23=>zW h23 (.ptr b2 0) 5 λv24=>some (v24,h23)) λr h'=>∃x,r=.agg (jK x)∧VY x∧HS g h' R:=by
  intro x h0 hx H0;refine qe H0 (b:=b2) .here rfl (by show 0+5≤5;omega) rfl λh6 H6=>?_;have H6:HS g h6 (qg b2 (jK x)::qg b0 (jK kx)::R):=H6;refine qk (qD H6 (b:=b2) (off:=0) .here rfl omQ (l:=jK x) rfl ?_);exact qj ⟨x,rfl,hx,H6.drop.drop⟩
 have z0:(0:Int)≤0∧(0:Int)<18446744073709551616:=by omega
 have hd:w=0∨w=1∨w=2∨w=3∨w=4∨w=5∨w=6∨w=7∨w=8∨w=9∨w=10∨w=11∨w=12∨w=13∨w=14∨w=15∨w=16∨17≤w:=by omega
 rcases hd with h0 |h0 |h0 |h0 |h0 |h0 |h0 |h0 |h0 |h0 |h0 |h0 |h0 |h0 |h0 |h0 |h0 |h0
 all_goals (first |with_reducible (refine qV ?_;(try dsimp only);refine qX omQ ?_;refine qJ ?_;refine qX omQ ?_;refine qJ ?_;refine qX omQ ?_;refine qJ ?_;refine qX omQ ?_;refine qJ ?_;refine qX omQ ?_;refine qJ ?_;refine qV ?_;(try dsimp only);refine qX omQ ?_;refine qJ ?_;refine qX omQ ?_;refine qJ ?_;refine qX omQ ?_;refine qJ ?_;refine qV ?_;(try dsimp only);refine qX omQ ?_;refine qJ ?_;refine qX omQ ?_;refine qJ ?_;refine qX omQ ?_;refine qJ ?_;refine qX omQ ?_;refine qJ ?_;refine qX omQ ?_;refine qJ ?_;refine qV ?_;(try dsimp only);refine qX omQ ?_;refine qJ ?_;refine qX omQ ?_;refine qJ ?_;refine qX omQ ?_;refine qJ ?_;refine qx omQ ?_;refine qZ ?_;refine qH rfl ?_) |with_reducible (refine qV ?_;(try dsimp only);refine qX omQ ?_;refine qJ ?_;refine qX omQ ?_;refine qJ ?_;refine qX omQ ?_;refine qJ ?_;refine qX omQ ?_;refine qJ ?_;refine qX omQ ?_;refine qJ ?_;refine qV ?_;(try dsimp only);refine qX omQ ?_;refine qJ ?_;refine qX omQ ?_;refine qJ ?_;refine qX omQ ?_;refine qJ ?_;refine qV ?_;(try dsimp only);refine qX omQ ?_;refine qJ ?_;refine qX omQ ?_;refine qJ ?_;refine qX omQ ?_;refine qJ ?_;refine qX omQ ?_;refine qJ ?_;refine qX omQ ?_;refine qJ ?_;refine qV ?_;(try dsimp only);refine qX omQ ?_;refine qJ ?_;refine qX omQ ?_;refine qJ ?_;refine qX omQ ?_;refine qJ ?_;refine qX omQ ?_;refine qJ ?_;refine qH rfl ?_) |with_reducible (refine qV ?_;(try dsimp only);refine qX omQ ?_;refine qJ ?_;refine qX omQ ?_;refine qJ ?_;refine qX omQ ?_;refine qJ ?_;refine qX omQ ?_;refine qJ ?_;refine qX omQ ?_;refine qJ ?_;refine qV ?_;(try dsimp only);refine qX omQ ?_;refine qJ ?_;refine qX omQ ?_;refine qJ ?_;refine qX omQ ?_;refine qJ ?_;refine qV ?_;(try dsimp only);refine qX omQ ?_;refine qJ ?_;refine qX omQ ?_;refine qJ ?_;refine qX omQ ?_;refine qJ ?_;refine qX omQ ?_;refine qJ ?_;refine qX omQ ?_;refine qJ ?_;refine qV ?_;(try dsimp only);refine qX omQ ?_;refine qJ ?_;refine qX omQ ?_;refine qJ ?_;refine qx omQ ?_;refine qZ ?_;refine qH rfl ?_) |with_reducible (refine qV ?_;(try dsimp only);refine qX omQ ?_;refine qJ ?_;refine qX omQ ?_;refine qJ ?_;refine qX omQ ?_;refine qJ ?_;refine qX omQ ?_;refine qJ ?_;refine qX omQ ?_;refine qJ ?_;refine qV ?_;(try dsimp only);refine qX omQ ?_;refine qJ ?_;refine qX omQ ?_;refine qJ ?_;refine qX omQ ?_;refine qJ ?_;refine qV ?_;(try dsimp only);refine qX omQ ?_;refine qJ ?_;refine qX omQ ?_;refine qJ ?_;refine qX omQ ?_;refine qJ ?_;refine qX omQ ?_;refine qJ ?_;refine qX omQ ?_;refine qJ ?_;refine qV ?_;(try dsimp only);refine qX omQ ?_;refine qJ ?_;refine qx omQ ?_;refine qZ ?_;refine qH rfl ?_) |with_reducible (refine qV ?_;(try dsimp only);refine qX omQ ?_;refine qJ ?_;refine qX omQ ?_;refine qJ ?_;refine qX omQ ?_;refine qJ ?_;refine qX omQ ?_;refine qJ ?_;refine qX omQ ?_;refine qJ ?_;refine qV ?_;(try dsimp only);refine qX omQ ?_;refine qJ ?_;refine qX omQ ?_;refine qJ ?_;refine qX omQ ?_;refine qJ ?_;refine qV ?_;(try dsimp only);refine qX omQ ?_;refine qJ ?_;refine qX omQ ?_;refine qJ ?_;refine qX omQ ?_;refine qJ ?_;refine qX omQ ?_;refine qJ ?_;refine qX omQ ?_;refine qJ ?_;refine qV ?_;(try dsimp only);refine qx omQ ?_;refine qZ ?_;refine qZ ?_;refine qH rfl ?_) |with_reducible (refine qV ?_;(try dsimp only);refine qX omQ ?_;refine qJ ?_;refine qX omQ ?_;refine qJ ?_;refine qX omQ ?_;refine qJ ?_;refine qX omQ ?_;refine qJ ?_;refine qX omQ ?_;refine qJ ?_;refine qV ?_;(try dsimp only);refine qX omQ ?_;refine qJ ?_;refine qX omQ ?_;refine qJ ?_;refine qX omQ ?_;refine qJ ?_;refine qV ?_;(try dsimp only);refine qX omQ ?_;refine qJ ?_;refine qX omQ ?_;refine qJ ?_;refine qX omQ ?_;refine qJ ?_;refine qX omQ ?_;refine qJ ?_;refine qx omQ ?_;refine qZ ?_;refine qQ ?_;refine qK ‹_› e_1 rfl ?_) |with_reducible (refine qV ?_;(try dsimp only);refine qX omQ ?_;refine qJ ?_;refine qX omQ ?_;refine qJ ?_;refine qX omQ ?_;refine qJ ?_;refine qX omQ ?_;refine qJ ?_;refine qX omQ ?_;refine qJ ?_;refine qV ?_;(try dsimp only);refine qX omQ ?_;refine qJ ?_;refine qX omQ ?_;refine qJ ?_;refine qX omQ ?_;refine qJ ?_;refine qV ?_;(try dsimp only);refine qX omQ ?_;refine qJ ?_;refine qX omQ ?_;refine qJ ?_;refine qX omQ ?_;refine qJ ?_;refine qx omQ ?_;refine qZ ?_;refine qQ ?_;refine qK ‹_› e_1 rfl ?_) |with_reducible (refine qV ?_;(try dsimp only);refine qX omQ ?_;refine qJ ?_;refine qX omQ ?_;refine qJ ?_;refine qX omQ ?_;refine qJ ?_;refine qX omQ ?_;refine qJ ?_;refine qX omQ ?_;refine qJ ?_;refine qV ?_;(try dsimp only);refine qX omQ ?_;refine qJ ?_;refine qX omQ ?_;refine qJ ?_;refine qX omQ ?_;refine qJ ?_;refine qV ?_;(try dsimp only);refine qX omQ ?_;refine qJ ?_;refine qX omQ ?_;refine qJ ?_;refine qx omQ ?_;refine qZ ?_;refine qH rfl ?_) |with_reducible (refine qV ?_;(try dsimp only);refine qX omQ ?_;refine qJ ?_;refine qX omQ ?_;refine qJ ?_;refine qX omQ ?_;refine qJ ?_;refine qX omQ ?_;refine qJ ?_;refine qX omQ ?_;refine qJ ?_;refine qV ?_;(try dsimp only);refine qX omQ ?_;refine qJ ?_;refine qX omQ ?_;refine qJ ?_;refine qX omQ ?_;refine qJ ?_;refine qV ?_;(try dsimp only);refine qX omQ ?_;refine qJ ?_;refine qx omQ ?_;refine qZ ?_;refine qZ ?_;refine qH rfl ?_) |with_reducible (refine qV ?_;(try dsimp only);refine qX omQ ?_;refine qJ ?_;refine qX omQ ?_;refine qJ ?_;refine qX omQ ?_;refine qJ ?_;refine qX omQ ?_;refine qJ ?_;refine qX omQ ?_;refine qJ ?_;refine qV ?_;(try dsimp only);refine qX omQ ?_;refine qJ ?_;refine qX omQ ?_;refine qJ ?_;refine qX omQ ?_;refine qJ ?_;refine qV ?_;(try dsimp only);refine qx omQ ?_;refine qZ ?_;refine qZ ?_;refine qH rfl ?_) |with_reducible (refine qV ?_;(try dsimp only);refine qX omQ ?_;refine qJ ?_;refine qX omQ ?_;refine qJ ?_;refine qX omQ ?_;refine qJ ?_;refine qX omQ ?_;refine qJ ?_;refine qX omQ ?_;refine qJ ?_;refine qV ?_;(try dsimp only);refine qX omQ ?_;refine qJ ?_;refine qX omQ ?_;refine qJ ?_;refine qx omQ ?_;refine qZ ?_;refine qH rfl ?_) |with_reducible (refine qV ?_;(try dsimp only);refine qX omQ ?_;refine qJ ?_;refine qX omQ ?_;refine qJ ?_;refine qX omQ ?_;refine qJ ?_;refine qX omQ ?_;refine qJ ?_;refine qX omQ ?_;refine qJ ?_;refine qV ?_;(try dsimp only);refine qX omQ ?_;refine qJ ?_;refine qx omQ ?_;refine qZ ?_;refine qZ ?_;refine qH rfl ?_) |with_reducible (refine qV ?_;(try dsimp only);refine qX omQ ?_;refine qJ ?_;refine qX omQ ?_;refine qJ ?_;refine qX omQ ?_;refine qJ ?_;refine qX omQ ?_;refine qJ ?_;refine qX omQ ?_;refine qJ ?_;refine qV ?_;(try dsimp only);refine qx omQ ?_;refine qZ ?_;refine qZ ?_;refine qH rfl ?_) |with_reducible (refine qV ?_;(try dsimp only);refine qX omQ ?_;refine qJ ?_;refine qX omQ ?_;refine qJ ?_;refine qX omQ ?_;refine qJ ?_;refine qX omQ ?_;refine qJ ?_;refine qx omQ ?_;refine qZ ?_;refine qQ ?_;refine qK ‹_› e_1 rfl ?_) |with_reducible (refine qV ?_;(try dsimp only);refine qX omQ ?_;refine qJ ?_;refine qx omQ ?_;refine qZ ?_;refine qQ ?_;refine qK ‹_› e_1 rfl ?_;refine qH rfl ?_) |with_reducible (refine qV ?_;(try dsimp only);refine qX omQ ?_;refine qJ ?_;refine qX omQ ?_;refine qJ ?_;refine qx omQ ?_;refine qZ ?_;refine qQ ?_;refine qK ‹_› e_1 rfl ?_) |with_reducible (refine qV ?_;(try dsimp only);refine qX omQ ?_;refine qJ ?_;refine qX omQ ?_;refine qJ ?_;refine qX omQ ?_;refine qJ ?_;refine qx omQ ?_;refine qZ ?_;refine qH rfl ?_) |with_reducible (refine qV ?_;(try dsimp only);refine qx omQ ?_;refine qZ ?_;refine qZ ?_;refine qQ ?_;refine qK ‹_› e_1 rfl ?_;refine qH rfl ?_))
 ·exact fin (1,a,0,0,kx.2.2.2.2) _ (.of (qY1 omQ) (by dsimp only;omega) hN) H2
 ·exact fin (1,a,0,0,kx.2.2.2.2) _ (.of (qY1 omQ) (by dsimp only;omega) hN) H2
 ·refine JZ od ?_;obtain⟨m,hm⟩:∃m:Nat,kx.2.2.2.2=m:=⟨kx.2.2.2.2.toNat,by omega⟩;have ht:kx.2.2.2.2.tmod ((20:Nat):Int)=((m%20:Nat):Int):=by rw[hm];rfl
  rw[ht];refine qH rfl ?_;exact fin (1,a,0,0,((m%20:Nat):Int)) _ (.of (qY1 omQ) (by dsimp only;omega) (by dsimp only;omega)) H2
 ·exact fin (2,a,b,0,0) _ (.of (may_2 omQ omQ) (by dsimp only;omega) z0) H2
 ·refine JZ od ?_;obtain⟨m,hm⟩:∃m:Nat,kx.2.2.2.2=m:=⟨kx.2.2.2.2.toNat,by omega⟩;have ht:kx.2.2.2.2.tmod ((64:Nat):Int)=((m%64:Nat):Int):=by rw[hm];rfl
  rw[ht];refine xF omQ ?_;refine qG (xh omQ omQ omQ omQ) ?_;rintro _ _ ⟨rfl,rfl⟩;have ho:=zF ((m%64:Nat):Int) (show(((0:Nat):Int))≤((4:Nat):Int) by omega);generalize jo ((m%64:Nat):Int) ((0:Nat):Int) ((4:Nat):Int)=o at*;refine qc omQ ?_;refine qH rfl ?_;exact fin (((3:Nat):Int)+o,a,b,c,0) _ (.of (may_3 omQ omQ omQ omQ) (by dsimp only;omega) z0) H2
 ·exact fin (8,a,7,at_,0) _ (.of (Y4 (.inl rfl) omQ omQ omQ) (by dsimp only;omega) z0) H2
 ·exact fin (8,a,7,at_,0) _ (.of (Y4 (.inl rfl) omQ omQ omQ) (by dsimp only;omega) z0) H2
 ·exact fin (8,a,7,at_,0) _ (.of (Y4 (.inl rfl) omQ omQ omQ) (by dsimp only;omega) z0) H2
 ·exact fin (9,7,b,at_,0) _ (.of (Y4 (.inr rfl) omQ omQ omQ) (by dsimp only;omega) z0) H2
 ·exact fin (9,7,b,at_,0) _ (.of (Y4 (.inr rfl) omQ omQ omQ) (by dsimp only;omega) z0) H2
 ·exact fin (9,7,b,at_,0) _ (.of (Y4 (.inr rfl) omQ omQ omQ) (by dsimp only;omega) z0) H2
 ·refine qG (xh omQ omQ omQ omQ) ?_;rintro _ _ ⟨rfl,rfl⟩;have ho:=zF kx.2.2.2.1 (show(((0:Nat):Int))≤((3:Nat):Int) by omega);generalize jo kx.2.2.2.1 ((0:Nat):Int) ((3:Nat):Int)=o at*;refine qH rfl ?_;exact fin (8,a,b,o,0) _ (.of (Y4 (.inl rfl) omQ omQ omQ) (by dsimp only;omega) z0) H2
 ·refine qG (xh omQ omQ omQ omQ) ?_;rintro _ _ ⟨rfl,rfl⟩;have ho:=zF kx.2.2.2.1 (show(((0:Nat):Int))≤((3:Nat):Int) by omega);generalize jo kx.2.2.2.1 ((0:Nat):Int) ((3:Nat):Int)=o at*;refine qH rfl ?_;exact fin (9,a,b,o,0) _ (.of (Y4 (.inr rfl) omQ omQ omQ) (by dsimp only;omega) z0) H2
 ·exact fin (10,a,b,0,0) _ (.of (qY0 omQ omQ) (by dsimp only;omega) z0) H2
 ·exact fin (10,a,b,0,0) _ (.of (qY0 omQ omQ) (by dsimp only;omega) z0) H2
 ·exact fin (11,a,0,0,0) _ (.of (qjc (.inl rfl) omQ) (by dsimp only;omega) z0) H2
 ·exact fin (8,a,7,at_,0) _ (.of (Y4 (.inl rfl) omQ omQ omQ) (by dsimp only;omega) z0) H2
 ·exact fin (21,a,0,0,0) _ (.of (qjc (.inr rfl) omQ) (by dsimp only;omega) z0) H2
end Go.Proofs.YtnalffoigcmnnabGreatDoor
namespace Go.Proofs.YtnalffoigcmnnabGreatDoor
open Go Go.Ae
set_option maxRecDepth 100000
variable {g h:AH} {L R:List SP}
theorem qJm (l:List Int):qm (l.map (AV.int .i64))=true:=by unfold qm;rw[List.all_eq_true];intro y hy;obtain⟨z,_,rfl⟩:=List.mem_map.1 hy;rfl
theorem wA (l:List qR) (st:List Int):(jU l st).length=st.length:=by simp[jU]
theorem qQ1 {l:List qR} {st:List Int} (hn:st≠[]):(jU l st)[st.length-1]? =some (opM l st):=by have hl:=List.length_pos_iff.2 hn;rw[qQs hn,List.getLast?_eq_getElem?,wA,iW (by rw[wA];omega)];rfl
theorem Ve {l:List qR} {st:List Int}:(Q4 l st).length=l.length+1:=by simp[Q4]
theorem O1 {n:Nat} (hn:1≤n) {calm:Bool} {l:List qR} {st:List Int} {lv ov:AV} (B:Bld calm l st) (hne:st≠[]) (ho:opM l st=14∨opM l st=17∨opM l st=18) (hl:l.length≤1000)
  (H:HS g h (zb lv l::YR ov (jU l st)::R)) :
  t_w n 27 [lv,ov] h λr h'=>∃lv' ov',r=.tup [lv',ov']∧HS g h' (zb lv' (Q4 l st)::YR ov' (jU (Q4 l st) (X0 l st))::R):=by
 refine t_e2 (S:=S27) rfl omQ λk hk=>?_;unfold S27;try simp only[iZ]
 have hp:=List.length_pos_iff.2 hne;have h5:=B.five;have hol:=wA l st;have hat:=qQ1 (l:=l) hne;obtain⟨B2,hops⟩:=B.shut hne ho;rw[hops];have H0:HS g h (qy 70 5 l.length lv (l.flatMap jK)::qy 3 1 (jU l st).length ov ((jU l st).map (.int .i64))::R):=H;refine qi H0 e_1 ?_;rw[hol];refine zQ omQ ?_;rw[show(st.length:Int)-((1:Nat):Int)=((st.length-1:Nat):Int) by omega];refine zJ (H0.sl e_1) (x:=.int .i64 (opM l st)) (by rw[List.getElem?_map,hat];rfl) ?_;have hdl:(jU l st).dropLast=(jU l st).take (st.length-1):=by rw[List.dropLast_eq_take,hol]
 have tail:∀(op:Int),(opM l st=14∧op=15∨opM l st=18∧op=19)→
   wp (xQ (α:=AV×AV×Unit→AH→Go.Ae.R) (λs5 h6=>some ((.tup [s5.2.1,s5.1]),h6)) λj7=>xC [(.int .i64 ((0:Nat):Int)),(.int .i64 ((0:Nat):Int)),(.int .i64 ((0:Nat):Int)),(.int .i64 ((0:Nat):Int)),(.int .u64 ((0:Nat):Int))] [(0,1,(.int .i64 op))] λv8=>
    zh h 70 [(.int .i64 ((0:Nat):Int)),(.int .i64 ((0:Nat):Int)),(.int .i64 ((0:Nat):Int)),(.int .i64 ((0:Nat):Int)),(.int .u64 ((0:Nat):Int))] 1 [(0,5,v8)] λv9 h10=>
    xY h10 70 5 lv v9 λv11 h12=>xV h12 3 1 ov none (some (.int .i64 ((st.length-1:Nat):Int))) λv13=>
    JX ov (some (3*65536+1)) v13 h10 h12 h.nx<| j7 (v13,v11,()) h12)
   λr h'=>∃lv' ov',r=.tup [lv',ov']∧HS g h' (zb lv' (Q4 l st)::YR ov' ((jU l st).dropLast++(if opM l st=17 then[18]else[]))::R):=by
  intro op hop;refine qV ?_
  try dsimp only
  refine qH (l:=jK (one op)) rfl ?_;refine qf (n:=1) (l:=jK (one op)) (sz:=5) H0 rfl rfl rfl rfl λv9 h10 H10=>?_;have S:Sl (λ_=>True) h10 5 [one op].length v9 ([one op].flatMap jK):=H10.sl .here;refine kD (H10.sel (P:=zb lv l) e_1) S (by simp;omega) λv11 h12 H12=>?_;refine XC (hi:=st.length-1) (H12.sel (P:=qy 3 1 (jU l st).length ov ((jU l st).map (.int .i64))) e_2) omQ omQ λv13 H13=>?_;refine qqp H10 (s:=e_2) H12 e_2 H0 e_1 omQ omQ rfl ?_;rw[Nat.mul_one,← List.map_take,← hdl]at H13;have h17:¬opM l st=17:=by omega
  rw[iQ h17,List.append_nil];refine qj ⟨v11,v13,rfl,?_⟩;have e:Q4 l st=l++[one op]:=by
   unfold Q4 vE;rcases hop with⟨h1,h2⟩ |⟨h1,h2⟩
   ·rw[h1,h2];rfl
   ·rw[h1,h2];rfl
  rw[e];unfold YR;rw[show(jU l st).dropLast.length=st.length-1 by rw[List.length_dropLast,hol]];exact H13.sub (.cons e_1 (.cons .here (.drop .refl)))
 by_cases c14:opM l st=14
 ·refine qx c14 (qZ ?_);exact tail 15 (.inl ⟨c14,rfl⟩)
 refine qX c14 (qJ ?_);by_cases c17:opM l st=17
 ·refine qx c17 (qZ ?_);refine XC (hi:=st.length-1) (H0.sel (P:=qy 3 1 (jU l st).length ov ((jU l st).map (.int .i64))) e_1) omQ omQ λv15 H2=>?_;rw[Nat.mul_one,← List.map_take,← hdl]at H2;have hdn:(jU l st).dropLast.length=st.length-1:=by rw[List.length_dropLast,hol]
  have S:Sl (λ_=>True) h 1 (st.length-1) v15 ((jU l st).dropLast.map (.int .i64)):=H2.sl .here;refine jf (H2.nils (e:=3) (sz:=1)) S omQ omQ (qJm _) λv16 h3 H3=>?_;rw[List.nil_append,Nat.zero_add]at H3;refine qf (n:=1) (l:=[.int .i64 ((18:Nat):Int)]) (sz:=1) H3 rfl rfl rfl rfl λv18 h4 H4=>?_;refine jf (H4.sel e_1) (H4.sl .here) omQ omQ rfl λv20 h5 H5=>?_;refine qH (l:=jK (one 18)) rfl ?_;refine qf (n:=1) (l:=jK (one 18)) (sz:=5) H5 rfl rfl rfl rfl λv23 h6 H6=>?_;have S6:Sl (λ_=>True) h6 5 [one 18].length v23 ([one 18].flatMap jK):=H6.sl .here;refine kD (H6.sel (P:=zb lv l) e_4) S6 (by simp;omega) λv25 h7 H7=>?_;rw[iJ c17];refine qj ⟨v25,v20,rfl,?_⟩;have e:Q4 l st=l++[one 18]:=by unfold Q4 vE;rw[c17];rfl
  rw[e];unfold YR;rw[List.length_append,hdn,List.map_append];exact H7.sub (.cons .here (.cons e_1 (.drop (.drop (.drop .refl)))))
 ·refine qX c17 (qJ ?_);exact tail 19 (.inr ⟨by omega,rfl⟩)
def JH (o:List Int):Nat:=(o.map λx=>if x=17 then 2 else 1).sum
theorem ZL (a b:List Int):JH (a++b)=JH a+JH b:=by simp[JH]
theorem qvB (o:List Int):JH o≤2*o.length:=by
 induction o with
 |nil=>simp[JH]
 |cons x o ih=>simp only[JH,List.map_cons,List.sum_cons,List.length_cons]at*;split<;>omega
theorem qGA {l:List qR} {st:List Int} (hne:st≠[]):JH ((jU l st).dropLast++(if opM l st=17 then[18]else[]))+1=JH (jU l st):=by
 have h1:jU l st≠[]:=by intro h;have:=congrArg List.length h;rw[wA]at this;exact hne (iA this)
 have h2:=List.dropLast_concat_getLast h1;have h3:(jU l st).getLast h1=opM l st:=by rw[qQs hne,List.getLast?_eq_some_getLast h1];rfl
 rw[h3]at h2;have h4:JH (jU l st)=JH (jU l st).dropLast+(if opM l st=17 then 2 else 1):=by
  conv=>lhs;rw[← h2]
  rw[ZL];simp[JH]
 rw[ZL,h4]
 split
 ·simp[JH]
 ·simp[JH]
def OpsK (l:List qR) (st:List Int):Prop:=∀o∈jU l st,o=14∨o=17∨o=18
theorem OpsK.at {l:List qR} {st:List Int} (h:OpsK l st) (hne:st≠[]):opM l st=14∨opM l st=17∨opM l st=18:=h _ (List.mem_of_getElem? (qQ1 hne))
set_option maxHeartbeats 8000000 in
theorem qqB {n:Nat} (hn:5≤n) {calm:Bool} {ks:List qR} {kv:AV} {most:Int} (hN:∀x∈ks,0≤x.2.2.2.2∧x.2.2.2.2<18446744073709551616) (hm:1≤most∧most≤40) (H:HS g h R) (S:Rd g R 5 ks.length kv (ks.flatMap jK)) :
  t_w n 7 [kv,.int .i64 most,.bool calm] h λr h'=>∃lv l,r=.agg [lv]∧Bld calm l []∧0<l.length∧(l.length:Int)≤most∧HS g h' (zb lv l::R):=by
 refine t_e3 (S:=S7) rfl omQ λk hk=>?_;unfold S7;try simp only[iZ]
 refine qO H rfl λb0 h1 H1=>?_;clear H;have H1:=(H1.nils (e:=3) (sz:=1)).nils (e:=70) (sz:=5);refine jT [] (λs h'=>∃(l:List qR) (st:List Int) (lv ov:AV),s=(ov,lv,.ptr b0 0,())∧Bld calm l st∧OpsK l st∧(l.length:Int)+2*st.length≤most∧HS g h' (zb lv l::YR ov (jU l st)::qg b0 [.nils]::R)) ?_ ?_
 rotate_left
 ·rintro s h2 ⟨l,st,lv,ov,rfl,B,OK,hle,H2⟩;dsimp only;have hW:(l.length:Int)+JH (jU l st)≤most:=by
   have:=qvB (jU l st);rw[wA]at this;omega
  refine jN (λm s h'=>∃(l:List qR) (st:List Int) (lv ov:AV),s=(ov,lv,.ptr b0 0,())∧m=JH (jU l st)∧Bld calm l st∧OpsK l st∧(l.length:Int)+JH (jU l st)≤most∧HS g h' (zb lv l::YR ov (jU l st)::qg b0 [.nils]::R))
   ?_ (m:=JH (jU l st)) (by show _<1000000000;omega) ⟨l,st,lv,ov,rfl,rfl,B,OK,hW,H2⟩
  clear H2 hW hle OK B st lv ov l;rintro m ih s h3 hih ⟨l,st,lv,ov,rfl,rfl,B,OK,hW,H⟩;dsimp only;have hol:=wA l st;refine qi (n:=(jU l st).length) (H:HS g h3 (zb lv l::qy 3 1 (jU l st).length ov ((jU l st).map (.int .i64))::qg b0 [.nils]::R)) e_1 ?_;rw[hol];by_cases h0:st=[]
  ·subst h0;refine yV osQ (qJ ?_);refine jT [] (λs h'=>∃(l:List qR) (lv:AV),s=(lv,.ptr b0 0,())∧Bld calm l []∧0<l.length∧(l.length:Int)≤most∧HS g h' (zb lv l::qg b0 [.nils]::R)) ?_ ?_
   ·intro j hj;refine qi (n:=l.length) (H:HS g h3 (qy 70 5 l.length lv (l.flatMap jK)::YR ov (jU l [])::qg b0 [.nils]::R)) .here ?_;by_cases hl0:l.length=0
    ·refine qx omQ (qZ ?_);obtain rfl:=iA hl0;refine qH (l:=jK (1,0,0,0,1)) rfl ?_;refine qf (n:=1) (l:=jK (1,0,0,0,1)) (sz:=5) H rfl rfl rfl rfl λv27 h4 H4=>?_;have S1:Sl (λ_=>True) h4 5 [((1,0,0,0,1):qR)].length v27 ([((1,0,0,0,1):qR)].flatMap jK):=H4.sl .here;refine kD (H4.sel (P:=zb lv []) e_1) S1 osQ λv29 h5 H5=>?_;refine hj _ _ ⟨_,v29,rfl,B.flat (x:=(1,0,0,0,1)) ⟨by decide,by decide,by decide,λ_=>by decide⟩ (by unfold Flat;decide) od,by simp,by simp;omega,H5.sub (.cons .here (.drop (.drop (.cons .here .refl))))⟩
    ·refine qX omQ (qJ ?_);exact hj _ _ ⟨l,lv,rfl,B,by omega,by omega,H.sub (.cons .here (.drop (.cons .here .refl)))⟩
   ·rintro s h5 ⟨l,lv,rfl,B,hl0,hlm,H5⟩;dsimp only;have ol:=H5.one (e:=70) (sz:=5) (n:=l.length) .here;refine qH (l:=[lv]) (by simp only[yF,ol.1];rfl) ?_;refine qe H5 (b:=b0) e_1 rfl osQ (by show qm [lv]=true;simp[qm,ol.2]) λh6 H6=>?_;have H6:HS g h6 (qg b0 [lv]::zb lv l::R):=H6;refine qk (qD H6 (b:=b0) (off:=0) .here rfl omQ (l:=[lv]) rfl ?_);exact qj ⟨lv,l,rfl,B,hl0,hlm,H6.drop⟩
  ·have hp:=List.length_pos_iff.2 h0;refine yB omQ (qZ ?_);refine qG (O1 omQ B h0 (OK.at h0) omQ H) ?_;rintro _ h4 ⟨lv',ov',rfl,H4⟩;obtain⟨B2,hops⟩:=B.shut h0 (OK.at h0);have hw:=qGA (l:=l) h0;rw[← hops]at hw;refine qA rfl (qA rfl ?_);refine hih (JH (jU (Q4 l st) (X0 l st))) _ _ omQ ⟨_,_,lv',ov',rfl,rfl,B2,?_,by rw[Ve];omega,H4⟩;intro o ho;rw[hops]at ho;rcases List.mem_append.1 ho with ho |ho
   ·exact OK o ((List.dropLast_sublist _).subset ho)
   ·split at ho
    ·rw[List.mem_singleton]at ho;omega
    ·cases ho
 intro j5 hj5;refine jN (λm s h'=>∃(i:Nat) (l:List qR) (st:List Int) (lv ov:AV),s=(.int .i64 (i:Int),ov,lv,.ptr b0 0,.bool calm,.int .i64 most,kv,())∧m=41-l.length∧i≤l.length∧Bld calm l st∧OpsK l st∧(l.length:Int)+2*st.length≤most∧HS g h' (zb lv l::YR ov (jU l st)::qg b0 [.nils]::R))
  ?_ (m:=41) (by show _<1000000000;omega) ⟨0,[],[],.nils,.nils,rfl,rfl,by simp,Bld.nil calm,(λo ho=>by cases ho),by simp;omega,H1⟩
 clear H1;rintro m ih s h2 hih ⟨i,l,st,lv,ov,rfl,rfl,hil,B,OK,hle,H⟩;dsimp only;refine xW (S.sl H.drop.drop.drop) ?_;refine zy (λhlt=>qZ ?_) λhge=>qJ (hj5 _ _ ⟨l,st,lv,ov,rfl,B,OK,hle,H⟩);have hlt:i<ks.length:=by omega
 refine zU (l:=jK ks[i]) (S.sl H.drop.drop.drop) hlt omQ (gF (sz:=5) (λ_=>rfl) (iW hlt)) ?_;have hNi:=hN ks[i] (List.getElem_mem hlt);generalize ks[i]=kx at*;refine qO H rfl λb3 h3 H3=>qe H3 .here rfl (by show 0+5≤5;omega) rfl λh5 H5=>?_;have H5:HS g h5 (qg b3 (jK kx)::zb lv l::YR ov (jU l st)::qg b0 [.nils]::R):=H5;have H6:HS g h5 (qg b3 (jK kx)::qy 70 5 l.length lv (l.flatMap jK)::qy 3 1 (jU l st).length ov ((jU l st).map (.int .i64))::qg b0 [.nils]::R):=H5;clear H H3;have hol:=wA l st;refine qi H6 e_2 ?_;rw[hol];refine qi H6 e_1 ?_;refine Kn omQ (qc omQ (qc omQ ?_));refine wR (λhg=>qZ (hj5 _ _ ⟨l,st,lv,ov,rfl,B,OK,hle,H5.drop⟩)) λhg=>qJ ?_;refine qQ (qK H5 (b:=b3) .here rfl ?_);refine qG (xh omQ omQ omQ omQ) ?_;rintro _ h5 ⟨rfl,rfl⟩;have hwb:=zF kx.1 (show(((0:Nat):Int))≤((40:Nat):Int) by omega);generalize jo kx.1 ((0:Nat):Int) ((40:Nat):Int)=w at*;refine jT [] (λs h'=>∃(l':List qR) (st':List Int) (lv' ov':AV),s=(.int .i64 (i:Int),ov',lv',.ptr b0 0,.bool calm,.int .i64 most,kv,())∧Bld calm l' st'∧OpsK l' st'∧(l'.length:Int)+2*st'.length≤most∧l.length<l'.length∧HS g h' (zb lv' l'::YR ov' (jU l' st')::qg b0 [.nils]::R)) ?_ ?_
 rotate_left
 ·rintro s h7 ⟨l',st',lv',ov',rfl,B',OK',hle',hlt',H7⟩;dsimp only;refine qc omQ ?_;exact hih (41-l'.length) _ _ omQ ⟨i+1,l',st',lv',ov',rfl,rfl,by omega,B',OK',hle',H7⟩
 intro j hj;have hfive:=B.five;have hll:l.length≤100:=by omega
 have same:∀{t:List qR},OpsK (l++t) st:=λ{t} o ho=>OK o (by rw[Xf B.stok]at ho;exact ho);have hsame:∀{t:List qR},jU (l++t) st=jU l st:=Xf B.stok
 have dflt:wp (zW h5 (.ptr b3 0) 5 λv218=>jO (callT tab qz k) (.fn 29 [] []) [v218] h5 λv219 h220=>zh h220 70 [(.int .i64 ((0:Nat):Int)),(.int .i64 ((0:Nat):Int)),(.int .i64 ((0:Nat):Int)),(.int .i64 ((0:Nat):Int)),(.int .u64 ((0:Nat):Int))] 1 [(0,5,v219)] λv221 h222=>
   xY h222 70 5 lv v221 λv223 h224=>j (.int .i64 (i:Int),ov,v223,.ptr b0 0,.bool calm,.int .i64 most,kv,()) h224 []) (λr h'=>∃lv l,r=.agg [lv]∧Bld calm l []∧0<l.length∧(l.length:Int)≤most∧HS g h' (zb lv l::R)):=by
  refine qD H5 (b:=b3) (off:=0) .here rfl omQ (l:=jK kx) rfl ?_;refine qG (YK omQ hNi H5) ?_;rintro _ h7 ⟨x,rfl,hx,H7⟩;refine qf (n:=1) (l:=jK x) (sz:=5) H7 rfl rfl rfl rfl λv8 h8 H8=>?_;have S1:Sl (λ_=>True) h8 5 [x].length v8 ([x].flatMap jK):=by simpa using H8.sl .here
  refine kD (H8.sel (P:=zb lv l) e_2) S1 (by simp;omega) λv9 h9 H9=>?_;refine hj _ _ ⟨l++[x],st,v9,ov,rfl,B.flat (hx.ok calm) hx.flat hx.nj,same,by simp;omega,by simp,?_⟩;rw[hsame];exact H9.sub (.cons .here (.drop (.drop (.cons .here (.cons .here .refl)))))
 have beg:∀op:Int,op=14∨op=17→st.length<5→wp (zh h5 70 [(.int .i64 ((0:Nat):Int)),(.int .i64 ((0:Nat):Int)),(.int .i64 ((0:Nat):Int)),(.int .i64 ((0:Nat):Int)),(.int .u64 ((0:Nat):Int))] 1 [(0,5,.agg (jK (one op)))] λv63 h64=>xY h64 70 5 lv v63 λv65 h66=>
   zh h66 3 [(.int .i64 ((0:Nat):Int))] 1 [(0,1,(.int .i64 op))] λv67 h68=>xY h68 3 1 ov v67 λv69 h70=>j (.int .i64 (i:Int),v69,v65,.ptr b0 0,.bool calm,.int .i64 most,kv,()) h70 []) (λr h'=>∃lv l,r=.agg [lv]∧Bld calm l []∧0<l.length∧(l.length:Int)≤most∧HS g h' (zb lv l::R)):=by
  intro op hop hs5;refine qf (n:=1) (l:=jK (one op)) (sz:=5) H5 rfl rfl rfl rfl λv8 h8 H8=>?_;have S1:Sl (λ_=>True) h8 5 [one op].length v8 ([one op].flatMap jK):=by simpa using H8.sl .here
  refine kD (H8.sel (P:=zb lv l) e_2) S1 (by simp;omega) λv9 h9 H9=>?_;refine qf (n:=1) (l:=[.int .i64 op]) (sz:=1) H9 rfl rfl rfl rfl λv10 h10 H10=>?_;refine jf (H10.sel (P:=qy 3 1 (jU l st).length ov ((jU l st).map (.int .i64))) e_4) (H10.sl .here) omQ omQ rfl λv11 h11 H11=>?_;obtain⟨B2,ho2⟩:=B.begin hop hs5;refine hj _ _ ⟨l++[one op],st++[(l.length:Int)],v9,v11,rfl,B2,?_,by simp;omega,by simp,?_⟩
  ·intro o ho;rw[ho2]at ho;rcases List.mem_append.1 ho with ho |ho
   ·exact OK o ho
   ·rw[List.mem_singleton]at ho;omega
  ·rw[ho2];unfold YR;rw[List.length_append,List.map_append];exact H11.sub (.cons e_2 (.cons .here (.drop (.drop (.drop (.cons .here .refl))))))
 have shu:0<st.length→wp (jO (callT tab qz k) (.fn 27 [] []) [lv,ov] h5 λv98 h99=>zA v98 0 λv100=>zA v98 1 λv101=>j (.int .i64 (i:Int),v101,v100,.ptr b0 0,.bool calm,.int .i64 most,kv,()) h99 []) (λr h'=>∃lv l,r=.agg [lv]∧Bld calm l []∧0<l.length∧(l.length:Int)≤most∧HS g h' (zb lv l::R)):=by
  intro hp;have hne:=List.length_pos_iff.1 hp;refine qG (O1 omQ B hne (OK.at hne) omQ (H5.sub (L':=zb lv l::YR ov (jU l st)::qg b3 (jK kx)::qg b0 [.nils]::R) (.cons e_1 (.cons e_1 (.cons .here (.cons .here .refl)))))) ?_;rintro _ h7 ⟨lv',ov',rfl,H7⟩;obtain⟨B2,hops⟩:=B.shut hne (OK.at hne);have hsl:(X0 l st).length≤st.length:=by unfold X0;split<;>simp<;>omega
  refine qA rfl (qA rfl ?_);refine hj _ _ ⟨_,_,lv',ov',rfl,B2,?_,by rw[Ve];omega,by rw[Ve];omega,H7.sub (.cons .here (.cons .here (.drop (.cons .here .refl))))⟩;intro o ho;rw[hops]at ho;rcases List.mem_append.1 ho with ho |ho
  ·exact OK o ((List.dropLast_sublist _).subset ho)
  ·split at ho
   ·rw[List.mem_singleton]at ho;omega
   ·cases ho
 have und:opM l st=14→wp (zh h5 70 [(.int .i64 ((0:Nat):Int)),(.int .i64 ((0:Nat):Int)),(.int .i64 ((0:Nat):Int)),(.int .i64 ((0:Nat):Int)),(.int .u64 ((0:Nat):Int))] 1 [(0,5,.agg (jK (one 16)))] λv8 h8=>xY h8 70 5 lv v8 λv9 h9=>j (.int .i64 (i:Int),ov,v9,.ptr b0 0,.bool calm,.int .i64 most,kv,()) h9 []) (λr h'=>∃lv l,r=.agg [lv]∧Bld calm l []∧0<l.length∧(l.length:Int)≤most∧HS g h' (zb lv l::R)):=by
  intro h14;refine qf (n:=1) (l:=jK (one 16)) (sz:=5) H5 rfl rfl rfl rfl λv8 h8 H8=>?_;have S1:Sl (λ_=>True) h8 5 [one 16].length v8 ([one 16].flatMap jK):=by simpa using H8.sl .here
  refine kD (H8.sel (P:=zb lv l) e_2) S1 (by simp;omega) λv9 h9 H9=>?_;refine hj _ _ ⟨l++[one 16],st,v9,ov,rfl,B.undo h14,same,by simp;omega,by simp,?_⟩;rw[hsame];exact H9.sub (.cons .here (.drop (.drop (.cons .here (.cons .here .refl)))))
 have pair:∀(x y:qR) (h7:AH),HS g h7 (qg b3 (jK kx)::zb lv l::YR ov (jU l st)::qg b0 [.nils]::R)→Bld calm (l++[x,y]) st→(l.length:Int)+2*st.length+5≤most→wp (zh h7 70 [(.int .i64 ((0:Nat):Int)),(.int .i64 ((0:Nat):Int)),(.int .i64 ((0:Nat):Int)),(.int .i64 ((0:Nat):Int)),(.int .u64 ((0:Nat):Int))] 2 [(0,5,.agg (jK x)),(5,5,.agg (jK y))] λv8 h8=>
   xY h8 70 5 lv v8 λv9 h9=>j (.int .i64 (i:Int),ov,v9,.ptr b0 0,.bool calm,.int .i64 most,kv,()) h9 []) (λr h'=>∃lv l,r=.agg [lv]∧Bld calm l []∧0<l.length∧(l.length:Int)≤most∧HS g h' (zb lv l::R)):=by
  intro x y h7 H7 B7 hm7;refine qf (n:=2) (l:=jK x++jK y) (sz:=5) H7 rfl rfl rfl rfl λv8 h8 H8=>?_;have S1:Sl (λ_=>True) h8 5 [x,y].length v8 ([x,y].flatMap jK):=by simpa using H8.sl .here
  refine kD (H8.sel (P:=zb lv l) e_2) S1 (by simp;omega) λv9 h9 H9=>?_;refine hj _ _ ⟨l++[x,y],st,v9,ov,rfl,B7,same,by simp;omega,by simp,?_⟩;rw[hsame];exact H9.sub (.cons .here (.drop (.drop (.cons .here (.cons .here .refl)))))
 have zer:∀r:Int,0≤r∧r≤6→Gw calm (13,r,0,((l.length:Int)+((2:Nat):Int)),0):=λr hr=>⟨qYB omQ omQ,by show(13:Int)≠23;decide,by show(0:Int)≤0∧(0:Int)<18446744073709551616;decide,λ_=>by show(13:Int)≠20∧(13:Int)≠22∧(13:Int)≠12;decide⟩
 have two:∀op:Int,op=20∨op=22→calm=false→wp (jO (callT tab qz k) (.fn 28 [] []) [.int .i64 kx.2.1] h5 λv131 h132=>gU lv λv133=>jR .add v133 (.int .i64 ((2:Nat):Int)) λv134=>
   xC [(.int .i64 ((0:Nat):Int)),(.int .i64 ((0:Nat):Int)),(.int .i64 ((0:Nat):Int)),(.int .i64 ((0:Nat):Int)),(.int .u64 ((0:Nat):Int))] [(0,1,(.int .i64 ((13:Nat):Int))),(1,1,v131),(3,1,v134)] λv135=>xC [(.int .i64 ((0:Nat):Int)),(.int .i64 ((0:Nat):Int)),(.int .i64 ((0:Nat):Int)),(.int .i64 ((0:Nat):Int)),(.int .u64 ((0:Nat):Int))] [(0,1,(.int .i64 op))] λv136=>
   zh h132 70 [(.int .i64 ((0:Nat):Int)),(.int .i64 ((0:Nat):Int)),(.int .i64 ((0:Nat):Int)),(.int .i64 ((0:Nat):Int)),(.int .u64 ((0:Nat):Int))] 2 [(0,5,v135),(5,5,v136)] λv8 h8=>xY h8 70 5 lv v8 λv9 h9=>j (.int .i64 (i:Int),ov,v9,.ptr b0 0,.bool calm,.int .i64 most,kv,()) h9 []) (λr h'=>∃lv l,r=.agg [lv]∧Bld calm l []∧0<l.length∧(l.length:Int)≤most∧HS g h' (zb lv l::R)):=by
  intro op hop hcal;refine qG (XT omQ) ?_;rintro _ h5 ⟨rfl,rfl⟩;have hr:=zF kx.2.1 (show(0:Int)≤6 by omega);refine qi (n:=l.length) H6 e_1 (qc omQ ?_);refine qH (l:=jK (13,jo kx.2.1 0 6,0,((l.length:Int)+((2:Nat):Int)),0)) rfl ?_;refine qH (l:=jK (one op)) rfl ?_;refine pair _ _ _ H5 (B.two (zer _ hr) ⟨by rcases hop with rfl |rfl<;>decide,by dsimp only;omega,by show(0:Int)≤0∧(0:Int)<18446744073709551616;decide,λhh=>by rw[hcal]at hh;cases hh⟩ (by show Flat 13;unfold Flat;decide) (by unfold Flat;dsimp only;omega) (λ_=>rfl) (λhh=>by dsimp only at hh;omega)) omQ
 have ovr:wp (xQ (α:=AV×AV×AV×AV×AV×AV×AV×Unit→AH→Go.Ae.R) (λs180 h181=>j (s180.1,s180.2.1,s180.2.2.1,s180.2.2.2.1,s180.2.2.2.2.1,s180.2.2.2.2.2.1,s180.2.2.2.2.2.2.1,()) h181 []) λj182=>
   jO (callT tab qz k) (.fn 28 [] []) [.int .i64 kx.2.2.1] h5 λv185 h186=>gU lv λv187=>jR .add v187 (.int .i64 ((2:Nat):Int)) λv188=>
   xC [(.int .i64 ((0:Nat):Int)),(.int .i64 ((0:Nat):Int)),(.int .i64 ((0:Nat):Int)),(.int .i64 ((0:Nat):Int)),(.int .u64 ((0:Nat):Int))] [(0,1,(.int .i64 ((13:Nat):Int))),(1,1,v185),(3,1,v188)] λv189=>zW h186 (.ptr b3 0) 5 λv190=>jO (callT tab qz k) (.fn 29 [] []) [v190] h186 λv191 h192=>
   zh h192 70 [(.int .i64 ((0:Nat):Int)),(.int .i64 ((0:Nat):Int)),(.int .i64 ((0:Nat):Int)),(.int .i64 ((0:Nat):Int)),(.int .u64 ((0:Nat):Int))] 2 [(0,5,v189),(5,5,v191)] λv193 h194=>xY h194 70 5 lv v193 λv195 h196=>
   JX (.ptr b3 0) (some 5) v190 h5 h186 h5.nx<| j182 (.int .i64 (i:Int),ov,v195,.ptr b0 0,.bool calm,.int .i64 most,kv,()) h196) (λr h'=>∃lv l,r=.agg [lv]∧Bld calm l []∧0<l.length∧(l.length:Int)≤most∧HS g h' (zb lv l::R)):=by
  refine qV ?_
  try dsimp only
  refine qG (XT omQ) ?_;rintro _ h5 ⟨rfl,rfl⟩;have hr:=zF kx.2.2.1 (show(0:Int)≤6 by omega);refine qi (n:=l.length) H6 e_1 (qc omQ ?_);refine qH (l:=jK (13,jo kx.2.2.1 0 6,0,((l.length:Int)+((2:Nat):Int)),0)) rfl ?_;refine qD H5 (b:=b3) (off:=0) .here rfl omQ (l:=jK kx) rfl ?_;refine qG (YK omQ hNi H5) ?_;rintro _ h7 ⟨x,rfl,hx,H7⟩;refine qf (n:=2) (l:=jK (13,jo kx.2.2.1 0 6,0,((l.length:Int)+((2:Nat):Int)),0)++jK x) (sz:=5) H7 rfl rfl rfl rfl λv8 h8 H8=>?_;have S1:Sl (λ_=>True) h8 5 [((13,jo kx.2.2.1 0 6,0,((l.length:Int)+((2:Nat):Int)),0):qR),x].length v8 ([((13,jo kx.2.2.1 0 6,0,((l.length:Int)+((2:Nat):Int)),0):qR),x].flatMap jK):=by simpa using H8.sl .here
  refine kD (H8.sel (P:=zb lv l) e_2) S1 (by simp;omega) λv9 h9 H9=>?_;refine zn H5 (b:=b3) .here rfl H5 .here rfl rfl omQ (HS.lt H5 .here) ?_;refine hj _ _ ⟨_,st,v9,ov,rfl,B.two (zer _ hr) (hx.ok calm) (by show Flat 13;unfold Flat;decide) hx.flat (λ_=>rfl) (λhh=>by have:=hx.nj;omega),same,by simp;omega,by simp,?_⟩;rw[hsame];exact H9.sub (.cons .here (.drop (.drop (.cons .here (.cons .here .refl)))))
 have bak:calm=false→wp (xQ (α:=AV×AV×AV×AV×AV×AV×AV×Unit→AH→Go.Ae.R) (λs180 h181=>j (s180.1,s180.2.1,s180.2.2.1,s180.2.2.2.1,s180.2.2.2.2.1,s180.2.2.2.2.2.1,s180.2.2.2.2.2.2.1,()) h181 []) λj182=>
   zW h5 (.ptr b3 0) 5 λv205=>jO (callT tab qz k) (.fn 29 [] []) [v205] h5 λv206 h207=>ql (.ptr b3 0) 2 λv208=>jq h207 v208 λv209=>
   jO (callT tab qz k) (.fn 28 [] []) [v209] h207 λv210 h211=>gU lv λv212=>
   xC [(.int .i64 ((0:Nat):Int)),(.int .i64 ((0:Nat):Int)),(.int .i64 ((0:Nat):Int)),(.int .i64 ((0:Nat):Int)),(.int .u64 ((0:Nat):Int))] [(0,1,(.int .i64 ((13:Nat):Int))),(1,1,v210),(3,1,v212)] λv213=>
   zh h211 70 [(.int .i64 ((0:Nat):Int)),(.int .i64 ((0:Nat):Int)),(.int .i64 ((0:Nat):Int)),(.int .i64 ((0:Nat):Int)),(.int .u64 ((0:Nat):Int))] 2 [(0,5,v206),(5,5,v213)] λv214 h215=>xY h215 70 5 lv v214 λv216 h217=>
   JX v208 none v209 h5 h207 h5.nx<| j182 (.int .i64 (i:Int),ov,v216,.ptr b0 0,.bool calm,.int .i64 most,kv,()) h217) (λr h'=>∃lv l,r=.agg [lv]∧Bld calm l []∧0<l.length∧(l.length:Int)≤most∧HS g h' (zb lv l::R)):=by
  intro hcal;refine qV ?_
  try dsimp only
  refine qD H5 (b:=b3) (off:=0) .here rfl omQ (l:=jK kx) rfl ?_;refine qG (YK omQ hNi H5) ?_;rintro _ h7 ⟨x,rfl,hx,H7⟩;refine qQ (qK H7 (b:=b3) .here rfl ?_);refine qG (XT omQ) ?_;rintro _ h7 ⟨rfl,rfl⟩;have hr:=zF kx.2.2.1 (show(0:Int)≤6 by omega);have H7':HS g h7 (qg b3 (jK kx)::qy 70 5 l.length lv (l.flatMap jK)::YR ov (jU l st)::qg b0 [.nils]::R):=H7;refine qi (n:=l.length) H7' e_1 ?_;refine qH (l:=jK (13,jo kx.2.2.1 0 6,0,(l.length:Int),0)) rfl ?_;refine qf (n:=2) (l:=jK x++jK (13,jo kx.2.2.1 0 6,0,(l.length:Int),0)) (sz:=5) H7 rfl rfl rfl rfl λv8 h8 H8=>?_;have S1:Sl (λ_=>True) h8 5 [x,((13,jo kx.2.2.1 0 6,0,(l.length:Int),0):qR)].length v8 ([x,((13,jo kx.2.2.1 0 6,0,(l.length:Int),0):qR)].flatMap jK):=by simpa using H8.sl .here
  refine kD (H8.sel (P:=zb lv l) e_2) S1 (by simp;omega) λv9 h9 H9=>?_;refine qb H5 (b:=b3) .here rfl H7 .here rfl (HS.lt H5 .here) ?_;refine hj _ _ ⟨l++[x,(13,jo kx.2.2.1 0 6,0,(l.length:Int),0)],st,v9,ov,rfl,B.two (hx.ok calm) ⟨qYB omQ omQ,by show(13:Int)≠23;decide,by show(0:Int)≤0∧(0:Int)<18446744073709551616;decide,λ_=>by show(13:Int)≠20∧(13:Int)≠22∧(13:Int)≠12;decide⟩ hx.flat (by show Flat 13;unfold Flat;decide) (λhh=>by have:=hx.nj;omega) (λ_=>⟨rfl,hcal⟩),same,by simp;omega,by simp,?_⟩;rw[hsame];exact H9.sub (.cons .here (.drop (.drop (.cons .here (.cons .here .refl)))))
 have hd:(w=20∧st.length<5)∨(w=20∧¬st.length<5)∨(w=21∧st.length<5)∨(w=21∧¬st.length<5)∨(w=22∧st.length<5)∨(w=22∧¬st.length<5)∨(w=23∧0<st.length)∨(w=23∧¬0<st.length)∨(w=24∧0<st.length)∨(w=24∧¬0<st.length)∨(w=25∧0<st.length)∨(w=25∧¬0<st.length)∨(w=26∧calm=true)∨(w=26∧calm=false∧0<st.length)∨(w=26∧calm=false∧¬0<st.length)∨(w=27∧calm=true)∨(w=27∧calm=false∧0<st.length)∨(w=27∧calm=false∧¬0<st.length)∨(w=28∧calm=true)∨(w=28∧calm=false)∨(w=29∧calm=true)∨(w=29∧calm=false)∨(w=30)∨(w=31)∨(w=32∧calm=true)∨(w=32∧calm=false)∨(w<20∨32<w):=by
  cases calm<;>simp only[reduceCtorEq,and_true,true_and,and_false,false_and,or_false,false_or]<;>omega
 rcases hd with⟨hw1,hs1⟩ |⟨hw1,hs1⟩ |⟨hw1,hs1⟩ |⟨hw1,hs1⟩ |⟨hw1,hs1⟩ |⟨hw1,hs1⟩ |⟨hw1,hs1⟩ |⟨hw1,hs1⟩ |⟨hw1,hs1⟩ |⟨hw1,hs1⟩ |⟨hw1,hs1⟩ |⟨hw1,hs1⟩ |⟨hw1,rfl⟩ |⟨hw1,rfl,hs1⟩ |⟨hw1,rfl,hs1⟩ |⟨hw1,rfl⟩ |⟨hw1,rfl,hs1⟩ |⟨hw1,rfl,hs1⟩ |⟨hw1,rfl⟩ |⟨hw1,rfl⟩ |⟨hw1,rfl⟩ |⟨hw1,rfl⟩ |hw1 |hw1 |⟨hw1,rfl⟩ |⟨hw1,rfl⟩ |hw1
 all_goals repeat (first |with_reducible refine qX omQ ?_ |with_reducible refine qx omQ ?_ |(with_reducible refine qV ?_;try dsimp only) |(with_reducible refine qa ?_;try dsimp only) |(with_reducible refine qo ?_;try dsimp only) |(with_reducible refine qS ?_;try dsimp only) |(with_reducible refine qd ?_;try dsimp only) |with_reducible refine qF ?_ |with_reducible refine qI ?_ |with_reducible refine qZ ?_ |with_reducible refine qJ ?_ |with_reducible refine jd omQ ?_ |with_reducible refine jH omQ ?_ |with_reducible refine yB omQ ?_ |with_reducible refine yV omQ ?_ |with_reducible refine jX ?_ |with_reducible refine jV ?_ |with_reducible refine zQ omQ ?_ |with_reducible refine qQ ?_ |(with_reducible refine jt ?_;try dsimp only) |with_reducible refine qK H6 .here rfl ?_ |with_reducible refine qH rfl ?_)
 ·exact beg 14 (.inl rfl) omQ
 ·exact dflt
 ·exact beg 17 (.inr rfl) omQ
 ·exact dflt
 ·exact beg 17 (.inr rfl) omQ
 ·exact dflt
 ·exact shu omQ
 ·exact dflt
 ·exact shu omQ
 ·exact dflt
 ·rw[show(st.length:Int)-((1:Nat):Int)=((st.length-1:Nat):Int) by omega];refine zJ (H6.sl e_2) (x:=.int .i64 (opM l st)) (by rw[List.getElem?_map,qQ1 (List.length_pos_iff.1 hs1)];rfl) ?_;by_cases h14:opM l st=14
  ·refine qx h14 ?_;refine qF (qZ (qH rfl ?_));exact und h14
  ·refine qX h14 ?_;refine qF (qJ (qX omQ ?_));refine qV ?_;(try dsimp only);refine qd ?_;(try dsimp only);refine qX omQ ?_;refine qI (qV ?_);(try dsimp only);refine qS ?_;(try dsimp only);refine qI (qV ?_);(try dsimp only);refine qS ?_;(try dsimp only);refine qI (qJ (qX omQ ?_));refine qV ?_;(try dsimp only);refine qS ?_;(try dsimp only);refine qI (qJ (qX omQ ?_));refine qV ?_;(try dsimp only);refine qS ?_;(try dsimp only);refine qI (qJ (qX omQ ?_));refine qV ?_;(try dsimp only);refine qd ?_;(try dsimp only);refine qX omQ ?_;refine qI (qJ (qX omQ ?_));refine qV ?_;(try dsimp only);refine qS ?_;(try dsimp only);refine qI (qJ ?_)
   exact dflt
 ·exact dflt
 ·exact dflt
 ·exact two 20 (.inl rfl) rfl
 ·exact dflt
 ·exact dflt
 ·exact two 20 (.inl rfl) rfl
 ·exact dflt
 ·exact dflt
 ·exact two 20 (.inl rfl) rfl
 ·exact dflt
 ·exact two 22 (.inr rfl) rfl
 ·exact ovr
 ·exact ovr
 ·exact dflt
 ·exact bak rfl
 ·exact dflt
end Go.Proofs.YtnalffoigcmnnabGreatDoor
namespace Go.Proofs.YtnalffoigcmnnabGreatDoor
open Go Go.Ae
set_option maxRecDepth 100000
variable {g h:AH} {L R:List SP}
theorem Yf {p:Int} {c:Cl} {l:List Cl}:zj p (c::l)=if c.1=p then some c.2 else zj p l:=rfl
theorem qXN (zs:List Int) {i:Nat} (h0:0<i) (h:i<szZ zs.length):zj (i:Int) (kW zs)=some (xN zs i):=by
 have e:kW zs=(kW zs).take (i-1)++[((i:Int),xN zs i)]++(kW zs).drop i:=by have hk:=Ni zs (show i-1+1<szZ zs.length by omega);rw[show i-1+1=i by omega]at hk;have:=List.take_add_one (l:=kW zs) (i:=i-1);rw[show i-1+1=i by omega,hk,Option.toList_some]at this;rw[← this,List.take_append_drop]
 have hg:∀(l1 l2:List Cl),zj (i:Int) l1=none→zj (i:Int) (l1++l2)=zj (i:Int) l2:=by
  intro l1 l2
  induction l1 with
  |nil=>intro _;rfl
  |cons c l ih=>
   intro hn;rw[Yf]at hn
   split at hn
   ·cases hn
   ·rename_i hc;show zj (i:Int) (c::(l++l2))=_;rw[Yf,iQ hc];exact ih hn
 rw[e,List.append_assoc,hg _ _ (qZ6 zs omQ)];show zj (i:Int) (((i:Int),xN zs i)::_)=_;rw[Yf,iJ rfl]
theorem Qk {zs:List Int} {m:Int} (hz:∀z∈zs,0≤z∧z<18446744073709551616):jk (jM zs m):=by
 refine⟨M5 zs m,?_,?_⟩
 ·intro c hc;obtain⟨i,_,rfl⟩:=List.mem_map.1 hc;show 0≤xN zs (i+1)∧xN zs (i+1)<18446744073709551616;unfold xN;cases hzi:zs[i+1]? with
  |none=>simp
  |some z=>exact hz z (List.mem_of_getElem? hzi)
 ·intro x hx;simp[jM]at hx;subst hx;intro c hc;cases hc
theorem Kd {b o:Nat} {K:AV→Go.Ae.R} {Q:AV→AH→Prop} (w:wp (K (.bool false)) Q):wp (pEq .ptr false (.ptr b o) .nilp K) Q:=w
theorem qXO {b o:Nat} {K:AV→Go.Ae.R} {Q:AV→AH→Prop} (w:wp (K (.bool true)) Q):wp (pEq .ptr true (.ptr b o) .nilp K) Q:=w
theorem qGo (op a n:Int) (s:IM) (V:VM):(zB op a n s V).blk=false:=by unfold zB;split<;>rfl
theorem qQP {mt:List Int} {s:IM} {V:VM} {x:qR} (h:1≤x.1∧x.1≤23) (h1:x.1≠20) (h3:x.1≠23):(doM mt s V x).blk=false:=by
 unfold doM;by_cases c1:x.1=1
 ·rw[iJ c1]
 rw[iQ c1];by_cases c2:x.1=2
 ·rw[iJ c2]
 rw[iQ c2];by_cases c3:x.1=3
 ·rw[iJ c3]
 rw[iQ c3];by_cases c4:x.1=4
 ·rw[iJ c4]
 rw[iQ c4];by_cases c5:x.1=5
 ·rw[iJ c5]
 rw[iQ c5];by_cases c6:x.1=6
 ·rw[iJ c6]
 rw[iQ c6];by_cases c7:x.1=7
 ·rw[iJ c7]
 rw[iQ c7];by_cases c12:x.1=12
 ·rw[iJ c12]
 rw[iQ c12];by_cases c13:x.1=13
 ·rw[iJ c13]
 rw[iQ c13];by_cases c21:x.1=21
 ·rw[iJ c21];split<;>rfl
 rw[iQ c21];by_cases c22:x.1=22
 ·rw[iJ c22]
 rw[iQ c22];by_cases c8:x.1=8∨x.1=9∨x.1=10∨x.1=11
 ·rw[iJ c8]
 rw[iQ c8];unfold wZ;by_cases t1:x.1=14∨x.1=17
 ·rw[iJ t1];exact qGo ..
 rw[iQ t1];by_cases t2:x.1=15∨x.1=19
 ·rw[iJ t2]
 rw[iQ t2];by_cases t3:x.1=18
 ·rw[iJ t3]
 rw[iQ t3];by_cases t4:x.1=16
 ·rw[iJ t4]
 omega
def Calm (l:List qR):Prop:=∀x∈l,x.1≠20
theorem qzo {l:List qR} (F:Fit l) (Q:Quiet l) (C:Calm l):∀(n:Nat) {s:IM} {V:VM},GI l s V→frS V.lv+n<9000→(jg l (qL l) n s V).kind≠3:=by
 intro n
 induction n with
 |zero=>
  intro s V G hf;rw[gw]
  split
  ·show(2:Int)≠3;decide
  ·show(4:Int)≠3;decide
 |succ n ih=>
  intro s V G hf;rw[gu]
  split
  ·show(2:Int)≠3;decide
  ·rename_i h0;obtain⟨i,hi,hil⟩:=G.pc;have hlt:i<l.length:=by omega
   rw[hi];have S:=JD F G hi hlt omQ (Q.at hlt).2 (Q.at hlt).1;have hb:(doM (qL l) s V (qP l i)).blk=false:=by have hw:=yz (F.ok i hlt);have hb:=qXa hw.1 (Q.at hlt).1;refine qQP omQ ?_ (Q.at hlt).1;rw[xi hlt];exact C _ (List.getElem_mem hlt)
   generalize doM (qL l) s V (qP l i)=D at*;rw[hb]
   split
   ·rename_i h1;rw[iQ osQ];have hfr:=S.fr;exact ih (S.next h1 hb) omQ
   ·split
    ·show(1:Int)≠3;decide
    ·show(4:Int)≠3;decide
theorem qVO {l:List qR} (F:Fit l) (Q:Quiet l) {zs:List Int} {m:Int} {n:Nat} {s:IM} {V:VM} (G:GI l s V) (hK:V.K=kW zs) (hs:V.sz=szZ zs.length) (hf:frS V.lv+n<9000):(jg l (qL l) n s V).kind≠1:=by intro h;obtain⟨_,_,_,d,_⟩:=Gs F Q n G hf;obtain⟨_,d1,d2,d3⟩:=d h;generalize(jg l (qL l) n s V).v.need=p at*;obtain⟨i,rfl⟩:∃i:Nat,p=i:=⟨p.toNat,by omega⟩;rw[hK,qXN zs omQ omQ]at d3;cases d3
theorem Kr {l:List qR} {zs:List Int} {m:Int} (hz:OkN zs):GI l YX (jM zs m):=JA rfl (Qk hz)
theorem Xe (zs:List Int) (m:Int):frS (jM zs m).lv=0:=by simp[jM,frS]
section
variable {x y v u:Nat} {l l':List qR} {b b':Int} {mt mt':List Int} {s s':IM} {e e' f f' n1 n2 nx nx':Int} {V W:VM}
end
end Go.Proofs.YtnalffoigcmnnabGreatDoor
namespace Go.Proofs.YtnalffoigcmnnabGreatDoor
open Go Go.Ae
def jD:Jx→VM→(Int×Int)×Jx×VM
 | .prog q,V=>(((jg q.l (qL q.l) q.left q.s V).kind,(jg q.l (qL q.l) q.left q.s V).err),
   .prog ⟨q.l,(jg q.l (qL q.l) q.left q.s V).s,if(jg q.l (qL q.l) q.left q.s V).kind=1 then 0 else(jg q.l (qL q.l) q.left q.s V).kind,(jg q.l (qL q.l) q.left q.s V).err,(jg q.l (qL q.l) q.left q.s V).left⟩,
   (jg q.l (qL q.l) q.left q.s V).v)
 | .sweep bs k,V=>(if(jB V (bs.drop k) k).1.2=11 then(1,0)else if(jB V (bs.drop k) k).1.2=0 then(2,0)else(4,(jB V (bs.drop k) k).1.2),.sweep bs (jB V (bs.drop k) k).1.1,(jB V (bs.drop k) k).2)
theorem UD (x:jQ):ye x=((jD x.job x.v).1,{ x with job:=(jD x.job x.v).2.1,v:=(jD x.job x.v).2.2 }):=by unfold ye jD;cases x.job<;>rfl
theorem qZH:∀(bs:List Int) (k:Nat) {V W:VM},zo V W→jk V→jk W→
  ((jB V bs k).1.2=11∧∃(j:Nat) (W':VM),(jB V bs k).1.1=k+j∧zo (jB V bs k).2 W'∧jk W'∧W'.K=W.K∧W'.sz=W.sz∧jB W bs k=jB W' (bs.drop j) (k+j))∨
  ((jB V bs k).1.2≠11∧(jB W bs k).1=(jB V bs k).1∧zo (jB V bs k).2 (jB W bs k).2):=by
 intro bs
 induction bs with
 |nil=>intro k V W h _ _;exact .inr ⟨by show(0:Int)≠11;decide,rfl,h⟩
 |cons b r ih=>
  intro k V W h GV GW;have hk:=Ga (b:=b) GV.ok;rcases h.give b with h11 |⟨e,hp⟩
  ·left;have e0:jB V (b::r) k=((k,(zG V b).1),(zG V b).2):=iQ (by rw[h11];decide);have hn:=G5 h11;rw[e0];refine⟨h11,0,W,rfl,⟨hk.sz.trans h.sz,hk.most.trans h.most,hn.1.trans h.lv,λp x hx=>h.K p x (by rw[← hk.K];exact hx)⟩,GW,rfl,rfl,rfl⟩
  ·have kW:=Ga (b:=b) GW.ok;by_cases h0:(zG V b).1=0
   ·have e1:jB V (b::r) k=jB (zG V b).2 r (k+1):=iJ h0;have e2:jB W (b::r) k=jB (zG W b).2 r (k+1):=iJ (by rw[← e];exact h0);rw[e1,e2];rcases ih (k+1) hp GV.give.1 GW.give.1 with⟨a,j,W',b1,b2,b3,b4,b5,b6⟩ |a
    ·refine .inl ⟨a,j+1,W',by omega,b2,b3,b4.trans kW.K,b5.trans kW.sz,?_⟩;rw[b6,List.drop_succ_cons,show k+1+j=k+(j+1) by omega]
    ·exact .inr a
   ·have e1:jB V (b::r) k=((k,(zG V b).1),(zG V b).2):=iQ h0;have e2:jB W (b::r) k=((k,(zG W b).1),(zG W b).2):=iQ (by rw[← e];exact h0);rw[e1,e2];by_cases h11:(zG V b).1=11
    ·left;have hn:=G5 h11;refine⟨h11,0,W,rfl,⟨hk.sz.trans h.sz,hk.most.trans h.most,hn.1.trans h.lv,λp x hx=>h.K p x (by rw[← hk.K];exact hx)⟩,GW,rfl,rfl,?_⟩;rw[List.drop_zero,Nat.add_zero,e2]
    ·exact .inr ⟨h11,by rw[← e],hp⟩
theorem qka {j:Jx} {V W:VM} (h:zo V W) (GV:jk V) (GW:jk W) (hV:JobOk True V j) (hW:JobOk True W j) :
  ((jD j V).1.1=1∧∃W',zo (jD j V).2.2 W'∧jk W'∧W'.K=W.K∧W'.sz=W.sz∧JobOk True W' (jD j V).2.1∧jD j W=jD (jD j V).2.1 W')∨
  ((jD j V).1.1≠1∧(jD j W).1=(jD j V).1∧(jD j W).2.1=(jD j V).2.1∧zo (jD j V).2.2 (jD j W).2.2):=by
 cases j with
 |prog q=>
  obtain⟨F,Q,gb,hr,hl⟩:=hV;obtain⟨G,h0,h1,h2⟩:=hr trivial;obtain⟨GWi,_,_,h3⟩:=hW.2.2.2.1 trivial;rcases qjI F Q q.left G GWi h2 h with⟨k1,W',p,eK,eS,g,e⟩ |⟨k1,e1,e2,e3,e4,p⟩
  ·left;refine⟨k1,W',p,g.good,eK,eS,⟨F,Q,g.gb,λ_=>⟨g,iJ k1,qqm _ k1,?_⟩,?_⟩,?_⟩
   ·have:=qqI F Q q.left G h2 k1;show frS W'.lv+(jg q.l (qL q.l) q.left q.s V).left<9000;rw[← p.lv];omega
   ·have:=qjS (l:=q.l) (mt:=qL q.l) q.left (s:=q.s) (V:=V);show(jg q.l (qL q.l) q.left q.s V).left≤400;omega
   ·unfold jD;dsimp only;rw[← e]
  ·right;refine⟨k1,?_,?_,p⟩
   ·show((jg q.l (qL q.l) q.left q.s W).kind,(jg q.l (qL q.l) q.left q.s W).err)=_;rw[e1,e2];rfl
   ·show Jx.prog ⟨q.l,(jg q.l (qL q.l) q.left q.s W).s,if(jg q.l (qL q.l) q.left q.s W).kind=1 then 0 else(jg q.l (qL q.l) q.left q.s W).kind,(jg q.l (qL q.l) q.left q.s W).err,(jg q.l (qL q.l) q.left q.s W).left⟩=_;rw[e1,e2,e3,e4];rfl
 |sweep bs k=>
  have hbk:=hV.1;rcases qZH (bs.drop k) k h GV GW with⟨a,j,W',b1,b2,b3,b4,b5,b6⟩ |⟨a,e,p⟩
  ·left;have a4:=(VE (bs.drop k) k GV).2.2.2.1;rw[List.length_drop]at a4;refine⟨by unfold jD;dsimp only;rw[iJ a],W',b2,b3,b4,b5,⟨by show(jB V (bs.drop k) k).1.1≤bs.length;omega,hV.2⟩,?_⟩;unfold jD;dsimp only;rw[b6,b1,List.drop_drop]
  ·right;refine⟨?_,?_,?_,p⟩
   ·unfold jD;dsimp only;rw[iQ a]
    split
    ·decide
    ·exact(by decide:(4:Int)≠1)
   ·unfold jD;dsimp only;rw[e]
   ·unfold jD;dsimp only;rw[e]
section
variable {S:xw} {M:jL} {me:Int}
structure KnM (M:jL) (V:VM):Prop where
  sz:(V.sz:Int)=M.w.length
  K:∀p x,zj p V.K=some x→x=qM M.w p
theorem qg8 {zs:List Int} {p:Int} (hp:1≤p) (h:p<szZ zs.length):zj p (kW zs)=some (qM zs p):=by obtain⟨i,rfl⟩:∃i:Nat,p=i:=⟨p.toNat,by omega⟩;rw[qXN zs omQ omQ];unfold xN qM;rw[Int.toNat_natCast]
theorem qJ0 (O:gr S):∀(n:Nat) {M:jL} {x:jQ} {W:VM},yw S M me→x.v.sz≤x.v.K.length+1+n→x.me=me→x.set=S→x.c=none→x.stamp=M.n→kQ S M x.r→kK x→JobOk True x.v x.job→zo x.v W→jk W→W.K=kW M.w→W.sz=szZ M.w.length→JobOk True W x.job→
  ∃(m:Nat) (y:jQ),m≤3*n∧Stp m (xu x) M (vi y (jD x.job W).1.1 (jD x.job W).1.2) (bump M m)∧(jD x.job W).1.1≠1∧y.job=(jD x.job W).2.1∧zo y.v (jD x.job W).2.2∧
   y.me=me∧y.set=S∧y.c=none∧y.stamp=M.n∧kQ S M y.r∧kK y∧y.begun=x.begun∧y.begin_=x.begin_∧y.blocking=x.blocking:=by
 intro n
 induction n using Nat.strongRecOn with
 |ind n ih=>
 intro M x W C hn hme hset hc hs hR B hj P GW hK hsz hjW;have D:=K8 B.good B.fr hj;rw[UD]at D;have hsame:=D.same;have hkept:=D.kept;rcases qka P B.good GW hj hjW with⟨k1,W',p,gW,eK,eS,jW,e⟩ |⟨k1,e1,e2,p⟩
 ·obtain⟨n1,n2,n3⟩:=D.need k1;dsimp only at n1 n2 n3 hkept;generalize hp0:(jD x.job x.v).2.2.need=p0 at*;have hsz':(x.v.sz:Int)=M.w.length:=by
   have h1:=B.sz;have h2:=C.w;rw[h1,hset,h2]
  have hszN:szZ M.w.length=x.v.sz:=by rw[← hsz];exact P.sz.symm
  have hwS:p0<S.words:=by rw[← C.w,← hsz'];exact n2
  have ew:xu x=JW { x with job:=(jD x.job x.v).2.1,v:=(jD x.job x.v).2.2 } p0:=by unfold xu;rw[UD];unfold vi;rw[iJ k1];dsimp only;rw[hp0]
  have hgV':jk (jD x.job x.v).2.2:=D.good;obtain⟨F,hF⟩:=qwD O C (x:=JW { x with job:=(jD x.job x.v).2.1,v:=(jD x.job x.v).2.2 } p0) rfl hc (p:=p0) (by show kT x.me p0 (ofM p0 x.set.stripes x.set.wide) x.set.spins x.stamp=_;rw[hset];rfl) hs ⟨n1,hwS⟩ hR hp0;have hof:=qQ8 O (p:=p0) omQ;have hadd:=kQ.add O C hR hof;have hw:0≤qM M.w p0∧qM M.w p0<18446744073709551616:=by
   have:=C.w;obtain⟨i,rfl⟩:∃i:Nat,p0=i:=⟨p0.toNat,by omega⟩;have hi:i<M.w.length:=by omega
   have e:=gC (a:=M.w) hi;exact C.wd _ (List.mem_of_getElem? e)
  have hkn:z6 (jD x.job x.v).2.2 p0 (qM M.w p0)=(0,{ (jD x.job x.v).2.2 with K:=(jD x.job x.v).2.2.K++[(p0,qM M.w p0)] }):=qYI n1 (by rw[hkept.1];exact n2) (by rw[hkept.2.1];exact n3);have hK2:(z6 (jD x.job x.v).2.2 p0 (qM M.w p0)).2.K.length=x.v.K.length+1:=by rw[hkn];dsimp only;rw[hkept.2.1];simp
  have hroom:=qwb (VT (p:=p0) (x:=qM M.w p0) hgV'.ok);have hks:=(wN (V:=(jD x.job x.v).2.2) (p:=p0) (x:=qM M.w p0)).2;rw[hK2,hks,hkept.1]at hroom;have hlo:=B.good.ok.lo;obtain⟨n',rfl⟩:∃n',n=n'+1:=⟨n-1,by omega⟩;have B2:kK { JW { x with job:=(jD x.job x.v).2.1,v:=(jD x.job x.v).2.2 } p0 with f:=F,r:=(wo x.r (ofM p0 S.stripes S.wide,(zq M.l (ofM p0 S.stripes S.wide)).1)).2,v:=(z6 (jD x.job x.v).2.2 p0 (qM M.w p0)).2 } :=
   ⟨B.set,Xw hgV' hw,by show((z6 (jD x.job x.v).2.2 p0 (qM M.w p0)).2.sz:Int)=_;rw[hks,hkept.1];exact B.sz,by show frS (z6 (jD x.job x.v).2.2 p0 (qM M.w p0)).2.lv<9000;rw[wN.1];exact D.fr,Gv B.r,((D.job.same λ_=>k1).know hw).same λh=>h.elim,λc h=>B.c c h⟩
  have P2:zo (z6 (jD x.job x.v).2.2 p0 (qM M.w p0)).2 W':=by
   refine⟨hks.trans p.sz,?_,wN.1.trans p.lv,λq z hz=>?_⟩
   ·rw[hkn];exact p.most
   ·rw[hkn]at hz;dsimp only at hz;have hpn:zj p0 (jD x.job x.v).2.2.K=none:=by rw[hkept.2.1];exact n3
    rw[← Qi (v:=qM M.w p0) hpn,UI]at hz;by_cases hq:q=p0
    ·rw[iJ hq]at hz;cases hz;rw[eK,hK,hq];exact qg8 n1 (by rw[hszN];exact n2)
    ·rw[iQ hq]at hz;exact p.K q z hz
  obtain⟨m,y,m1,m2,m3,m4,m5,m6,m7,m8,m9,m10,m11,m12⟩:=ih n' omQ (M:=bump M 3) (x:={ JW { x with job:=(jD x.job x.v).2.1,v:=(jD x.job x.v).2.2 } p0 with f:=F,r:=(wo x.r (ofM p0 S.stripes S.wide,(zq M.l (ofM p0 S.stripes S.wide)).1)).2,v:=(z6 (jD x.job x.v).2.2 p0 (qM M.w p0)).2 })
   (W:=W') (C.bump 3) (by show(z6 (jD x.job x.v).2.2 p0 (qM M.w p0)).2.sz≤(z6 (jD x.job x.v).2.2 p0 (qM M.w p0)).2.K.length+1+n';rw[hK2,hks,hkept.1];omega) hme hset hc hs ⟨hadd.2.at_,hadd.2.un⟩ B2 ((D.job.same λ_=>k1).know hw) P2 gW (eK.trans hK) (eS.trans hsz) jW
  refine⟨3+m,y,by omega,?_,?_⟩
  ·rw[ew,e];have:=hF.trans m2;rw[kI]at this;rw[Int.natCast_add];exact this
  ·rw[e];exact⟨m3,m4,m5,m6,m7,m8,m9,⟨m10.at_,m10.un⟩,m11,m12⟩
 ·refine⟨0,{ x with job:=(jD x.job x.v).2.1,v:=(jD x.job x.v).2.2 },Nat.zero_le _,?_,by rw[e1];exact k1,e2.symm,p,hme,hset,hc,hs,hR,?_,rfl,rfl,rfl⟩
  ·unfold xu;rw[UD,e1,show bump M ((0:Nat):Int)=M by unfold bump;simp];exact .nil
  ·exact⟨B.set,D.good,by show((jD x.job x.v).2.2.sz:Int)=_;rw[hkept.1];exact B.sz,D.fr,B.r,D.job.same λh=>h.elim,B.c⟩
end
end Go.Proofs.YtnalffoigcmnnabGreatDoor
namespace Go.Proofs.YtnalffoigcmnnabGreatDoor
open Go Go.Ae
section
variable {S:xw} {M:jL} {me:Int}
theorem GR {x:jQ} {a:AnM} (h5:x.state=5) (ha:a.err=0):jb x a=xe { x with e:=x7 x.e a }:=by unfold jb;rw[iQ omQ,iQ (by rw[ha];exact λh=>h rfl),iQ omQ,iQ omQ,iQ omQ,iQ omQ,iQ omQ,iQ omQ]
theorem Ua {x:jQ} (h5:x.state=5):xq x=Jw x.e:=by unfold xq;rw[iQ omQ,iQ omQ,iQ omQ,iQ omQ,iQ omQ,iQ omQ,iQ omQ]
theorem ME {x:jQ} (h5:x.state=5) (hc:x.c=none) (hf:x.e.p.fin=2):xe x=xI { x with stamp:=x.e.stamp } 3 0 (-1):=by
 unfold xe;have h1:(xg x).1=2:=by unfold xg;rw[iQ omQ,iQ omQ];exact hf
 rw[h1,iQ od,iQ od];unfold yG;rw[iQ omQ,iQ omQ,iJ h5];unfold gP;rw[iQ (λh=>h hf)];unfold z8;rw[wn (by exact hc)];rfl
theorem Mt {x:jQ} (h5:x.state=5) (hc:x.c=none) (hf:x.e.p.fin=0):xe x=x :=
 YE (by unfold xg;rw[iQ omQ,iQ omQ];exact hf) (wn hc)
theorem qjF {r:List xR} {n:Int}:∀(k:Nat) {M:jL} {x:jQ} {i:Nat} {p:Jj},yw S M me→kQ S M r→x.state=5→x.c=none→x.e=⟨p,r,true,i,n⟩→p.fin=0→r.length=i+k+1→
  ∃E:QI,Stp (k+1) x M (xI { x with e:=E,stamp:=n } 3 0 (-1)) (bump M (k+1:Nat)):=by
 intro k
 induction k with
 |zero=>
  intro M x i p C R h5 hc he hp hl;have hi:i<r.length:=by omega
  have hm:=R.at_ _ (List.getElem_mem hi);have hat:zm r (i:Int)=r[i]:=by unfold zm;rw[Int.toNat_natCast,iW hi];rfl
  obtain⟨v,e,_,_⟩:=C.at ⟨hm.1,hm.2.1⟩;refine⟨{ x.e with at_:=(i:Int)+1,p:=zx p 2 0 (-1) },.step (o:=op0 3 r[i].1 0) ?_ (Kp C ⟨hm.1,hm.2.1⟩) ?_⟩
  ·rw[Ua h5,he];unfold Jw;dsimp only;rw[iQ (λh=>h hp),iQ od,hat]
  ·rw[GR h5 rfl,he];have ex:x7 ⟨p,r,true,i,n⟩ ⟨0,zq M.l r[i].1,false,0⟩=⟨zx p 2 0 (-1),r,true,(i:Int)+1,n⟩:=by
    unfold x7;have:(qu p ⟨0,zq M.l r[i].1,false,0⟩)=(decide (p.fin≠0),p):=by unfold qu;rw[iQ (λh=>h.2 rfl)]
    dsimp only;rw[this,e];dsimp only;rw[iQ (by rw[hp];decide),iQ od,iQ od,iQ (by rw[hat,hm.2.2,e];exact λh=>h rfl)];unfold JM;dsimp only;rw[iJ omQ]
   rw[ex];exact ME h5 hc rfl
 |succ k ih=>
  intro M x i p C R h5 hc he hp hl;have hi:i<r.length:=by omega
  have hm:=R.at_ _ (List.getElem_mem hi);have hat:zm r (i:Int)=r[i]:=by unfold zm;rw[Int.toNat_natCast,iW hi];rfl
  obtain⟨v,e,_,_⟩:=C.at ⟨hm.1,hm.2.1⟩;have s1:Stp 1 x M { x with e:=⟨p,r,true,((i+1:Nat):Int),n⟩ } (bump M 1):=by
   refine .step (o:=op0 3 r[i].1 0) ?_ (Kp C ⟨hm.1,hm.2.1⟩) ?_
   ·rw[Ua h5,he];unfold Jw;dsimp only;rw[iQ (λh=>h hp),iQ od,hat]
   ·rw[GR h5 rfl,he];have ex:x7 ⟨p,r,true,i,n⟩ ⟨0,zq M.l r[i].1,false,0⟩=⟨p,r,true,((i+1:Nat):Int),n⟩:=by
     unfold x7;have:(qu p ⟨0,zq M.l r[i].1,false,0⟩)=(decide (p.fin≠0),p):=by unfold qu;rw[iQ (λh=>h.2 rfl)]
     dsimp only;rw[this,e];dsimp only;rw[iQ (by rw[hp];decide),iQ od,iQ od,iQ (by rw[hat,hm.2.2,e];exact λh=>h rfl)];unfold JM;dsimp only;rw[iQ omQ];rfl
    rw[ex];exact Mt h5 hc hp
  obtain⟨E,t⟩:=ih (M:=bump M 1) (x:={ x with e:=⟨p,r,true,((i+1:Nat):Int),n⟩ }) (i:=i+1) (p:=p) (C.bump 1) ⟨R.at_,R.un⟩ h5 hc rfl hp omQ;have:=s1.trans t;rw[kI,show(1:Int)+((k+1:Nat):Int)=((k+1+1:Nat):Int) by omega,show 1+(k+1)=k+1+1 by omega]at this;exact⟨E,this⟩
theorem qVb (C:yw S M me) {y:jQ} (hc:y.c=none) (R:kQ S M y.r) (hs:y.set.spins=y.set.spins):∃(m:Nat) (E:QI),m≤y.r.length+1∧Stp m (yd y 5) M (xI { y with e:=E,stamp:=M.n } 3 0 (-1)) (bump M m):=by
 have hn1:xq (yd y 5)=some (op0 6 0 0):=by rw[Ua rfl];rfl
 by_cases h0:y.r.length=0
 ·refine⟨1,{ VV y.me y.set.spins y.r with loaded:=true,stamp:=M.n,p:=zx (QP y.me y.set.spins) 2 0 (-1) },by omega,.step hn1 (ZY M) ?_⟩;rw[GR rfl rfl];have ex:x7 (yd y 5).e ⟨M.n,lk0,false,0⟩={ VV y.me y.set.spins y.r with loaded:=true,stamp:=M.n,p:=zx (QP y.me y.set.spins) 2 0 (-1) }:=by
   show JM _=_;unfold JM;rw[iJ (by show(0:Int)=(y.r.length:Int);omega)];rfl
  rw[ex];exact ME rfl hc rfl
 ·have s1:Stp 1 (yd y 5) M { yd y 5 with e:=⟨QP y.me y.set.spins,y.r,true,((0:Nat):Int),M.n⟩ } (bump M 1):=by
   refine .step hn1 (ZY M) ?_;rw[GR rfl rfl];have ex:x7 (yd y 5).e ⟨M.n,lk0,false,0⟩=⟨QP y.me y.set.spins,y.r,true,((0:Nat):Int),M.n⟩:=by show JM _=_;unfold JM;rw[iQ (by show¬(0:Int)=(y.r.length:Int);omega)];rfl
   rw[ex];exact Mt rfl hc rfl
  obtain⟨E,t⟩:=qjF (y.r.length-1) (M:=bump M 1) (x:={ yd y 5 with e:=⟨QP y.me y.set.spins,y.r,true,((0:Nat):Int),M.n⟩ }) (i:=0) (C.bump 1) ⟨R.at_,R.un⟩ rfl hc rfl rfl omQ;have:=s1.trans t;rw[kI,show(1:Int)+((y.r.length-1+1:Nat):Int)=((1+(y.r.length-1+1):Nat):Int) by omega]at this;exact⟨_,E,by omega,this⟩
inductive Ju:Nat→zg→jL→zg→jL→Prop
  |nil {c:zg} {M:jL}:Ju 0 c M c M
  |cons {k:Nat} {c d:zg} {M N:jL} {o:OpM} {a:AnM} {M1:jL} {c1:zg} (hn:xo c=some o) (e:jm M o=(a,M1)) (h0:a.err=0) (h1:zw c a=c1) (h2:c1.p.fin=0) (r:Ju k c1 M1 d N):Ju (k+1) c M d N
theorem Ju.trans {a b:Nat} {x y z:zg} {M N O:jL} (s:Ju a x M y N) (t:Ju b y N z O):Ju (a+b) x M z O:=by
 induction s with
 |nil=>rw[Nat.zero_add];exact t
 |cons hn e h0 h1 h2 _ ih=>rw[Nat.add_right_comm];exact .cons hn e h0 h1 h2 (ih t)
theorem Z8 {x:jQ} {c:zg} (h6:x.state=6) (hc:x.c=some c):xq x=xo c:=by unfold xq;rw[iQ omQ,iQ omQ,iQ omQ,iQ omQ,iQ omQ,iQ omQ,iJ h6,hc];rfl
theorem Zk {x:jQ} {a:AnM} {c:zg} (h6:x.state=6) (ha:a.err=0) (hc:x.c=some c):jb x a=xe { x with c:=some (zw c a) }:=by unfold jb;rw[iQ omQ,iQ (by rw[ha];exact λh=>h rfl),iQ omQ,iQ omQ,iQ omQ,iQ omQ,iQ omQ,iJ h6,hc];rfl
theorem qWm {k:Nat} {c d:zg} {N:jL} (s:Ju k c M d N):∀{x:jQ},x.state=6→x.c=some c→∃z,Stp k x M { x with c:=some d,stamp:=z } N:=by
 induction s with
 |nil=>intro x h6 hc;refine⟨x.stamp,?_⟩;have:x={ x with c:=x.c,stamp:=x.stamp }:=rfl;rw[← hc];exact .nil
 | @cons k c d M N o a M1 c1 hn e h0 h1 h2 _ ih=>
  intro x h6 hc;have ht:∃z,jb x a={ x with c:=some c1,stamp:=z }:=by
   rw[Zk h6 h0 hc,h1];unfold xe;have hf:(xg { x with c:=some c1 }).1=0:=by unfold xg;rw[iQ (by show¬x.state=3;omega),iJ (by exact h6)];exact h2
   rw[iJ hf];unfold z8
   split
   ·exact⟨wQ c1,rfl⟩
   ·exact⟨x.stamp,rfl⟩
  obtain⟨z,hz⟩:=ht;obtain⟨z',hz'⟩:=ih (x:={ x with c:=some c1,stamp:=z }) h6 rfl;refine⟨z',.cons (o:=o) (by rw[Z8 h6 hc];exact hn) ?_⟩;rw[e];dsimp only;rw[hz];exact hz'
theorem qjo {x:jQ} {c c1:zg} {o:OpM} {a:AnM} {N:jL} (h6:x.state=6) (hc:x.c=some c) (hn:xo c=some o) (e:jm M o=(a,N)) (h0:a.err=0) (h1:zw c a=c1) (h2:c1.p.fin=2) (he:c1.p.err=0):Stp 1 x M { xI { x with c:=some c1 } 2 0 (-1)with stamp:=wQ c1 } N:=by
 refine .step (by rw[Z8 h6 hc];exact hn) e ?_;rw[Zk h6 h0 hc,h1];unfold xe;have hf:(xg { x with c:=some c1 }).1=2:=by unfold xg;rw[iQ (by show¬x.state=3;omega),iJ (by exact h6)];exact h2
 rw[hf,iQ od,iQ od];unfold yG;rw[iQ (by show¬x.state=3;omega),iQ (by show¬x.state=4;omega),iQ (by show¬x.state=5;omega)];dsimp only;rw[h2,he];unfold z8;rw[iJ (by show(decide ((7:Int)≠8)&&(wB c1||decide (c1.p.fin=2)))=true;rw[h2];simp)];rfl
end
end Go.Proofs.YtnalffoigcmnnabGreatDoor
namespace Go.Proofs.YtnalffoigcmnnabGreatDoor
open Go Go.Ae
theorem qWB {l:List LkM} {a b:Int} {x:LkM} (ha:0≤a) (hb:0≤b) (hl:a<l.length):zq (l.set a.toNat x) b=if a=b then x else zq l b:=by
 unfold zq;rw[List.getElem?_set];by_cases h:a=b
 ·rw[iJ (by rw[h]),iJ omQ,iJ h];rfl
 ·rw[iQ omQ,iQ h]
def yq (me:Int) (l:List LkM) (ss:List Int):List LkM:=ss.foldl (λl s=>l.set s.toNat ((zq l s).1,true,me)) l
def wK (n:Int) (l:List LkM) (ss:List Int):List LkM:=ss.foldl (λl s=>l.set s.toNat (n,false,0)) l
def JE (w:List Int) (cs:List Cl):List Int:=cs.foldl (λw c=>w.set c.1.toNat c.2) w
theorem kF {me:Int}:∀{ss:List Int} {l:List LkM},(yq me l ss).length=l.length:=by
 intro ss
 induction ss with
 |nil=>intro l;rfl
 |cons s r ih=>intro l;exact ih.trans (List.length_set ..)
theorem KW {n:Int}:∀{ss:List Int} {l:List LkM},(wK n l ss).length=l.length:=by
 intro ss
 induction ss with
 |nil=>intro l;rfl
 |cons s r ih=>intro l;exact ih.trans (List.length_set ..)
theorem Zx:∀{cs:List Cl} {w:List Int},(JE w cs).length=w.length:=by
 intro cs
 induction cs with
 |nil=>intro l;rfl
 |cons s r ih=>intro l;exact ih.trans (List.length_set ..)
theorem ZZ {me:Int} {b:Int} (hb:0≤b):∀{ss:List Int} {l:List LkM},(∀s∈ss,0≤s∧s<l.length)→b∉ss→zq (yq me l ss) b=zq l b:=by
 intro ss
 induction ss with
 |nil=>intro l _ _;rfl
 |cons s r ih=>intro l h hn;have hs:=h s (iK ..);show zq (yq me (l.set s.toNat ((zq l s).1,true,me)) r) b=_;rw[ih (λt ht=>by rw[List.length_set];exact h t (iX _ ht)) (λht=>hn (iX _ ht)),qWB hs.1 hb hs.2,iQ (λe=>hn (by rw[e];exact iK ..))]
theorem qkC {n:Int} {b:Int} (hb:0≤b):∀{ss:List Int} {l:List LkM},(∀s∈ss,0≤s∧s<l.length)→zq (wK n l ss) b=if b∈ss then(n,false,0)else zq l b:=by
 intro ss
 induction ss with
 |nil=>intro l _;rfl
 |cons s r ih=>
  intro l h;have hs:=h s (iK ..);show zq (wK n (l.set s.toNat (n,false,0)) r) b=_;rw[ih (λt ht=>by rw[List.length_set];exact h t (iX _ ht)),qWB hs.1 hb hs.2];by_cases h1:b∈r
  ·rw[iJ h1,iJ (iX _ h1)]
  ·rw[iQ h1];by_cases h2:s=b
   ·rw[iJ h2,iJ (by rw[h2];exact iK ..)]
   ·rw[iQ h2,iQ (λh=>by rcases List.mem_cons.1 h with h |h;exact h2 h.symm;exact h1 h)]
theorem qKa {me:Int} {l:List LkM} {a:List Int} {s:Int}:yq me l (a++[s])=(yq me l a).set s.toNat ((zq (yq me l a) s).1,true,me):=by unfold yq;rw[List.foldl_append];rfl
theorem qG6 {n:Int} {l:List LkM} {a:List Int} {s:Int}:wK n l (a++[s])=(wK n l a).set s.toNat (n,false,0):=by unfold wK;rw[List.foldl_append];rfl
theorem qYU {w:List Int} {a:List Cl} {c:Cl}:JE w (a++[c])=(JE w a).set c.1.toNat c.2:=by unfold JE;rw[List.foldl_append];rfl
section
variable {S:xw} {M:jL} {me:Int}
theorem qY3 {p:Jj} {a:AnM} (hp:p.fin=0) (ha:a.err=0):qu p a=(false,p):=by
 unfold qu;rw[iQ (λh=>h.2 ha)]
 congr 1
 exact iV (λh=>h hp)
theorem wL {c:zg} {a:AnM} (hp:c.p.fin=0) (ha:a.err=0):zw c a=if c.state=0∨c.state=1 then kC c a
 else if c.state=2∨c.state=3 then gM c a
 else if c.state=4 then wx c a.lk
 else if c.state=5 then vJ { c with at_:=c.at_+1 }
 else if c.state=6 then vq { c with at_:=c.at_+1 }
 else gk { c with at_:=c.at_+1 }:=by
 unfold zw;rw[qY3 hp ha];rfl
theorem qgS {M N:jL} {o:OpM} {a:AnM} (hk:o.kind=1∨o.kind=2) (e:J0 M o=(a,N)) (h0:a.err=0):jm M o=(a,{ N with cnt:=N.cnt+1 }):=by
 have e':y9 M o=(a,N):=by unfold y9;rw[iJ hk,e]
 rw[wS,e'];exact iJ h0
theorem OI {M N:jL} {o:OpM} {a:AnM} (hk:o.kind=3∨o.kind=4∨o.kind=5) (e:QV M o=(a,N)) (h0:a.err=0):jm M o=(a,{ N with cnt:=N.cnt+1 }):=by
 have e':y9 M o=(a,N):=by unfold y9;rw[iQ omQ,iJ hk,e]
 rw[wS,e'];exact iJ h0
theorem qvn {M N:jL} {o:OpM} {a:AnM} (hk:o.kind=6∨o.kind=7) (e:Jb M o=(a,N)) (h0:a.err=0):jm M o=(a,{ N with cnt:=N.cnt+1 }):=by
 have e':y9 M o=(a,N):=by unfold y9;rw[iQ omQ,iQ omQ,iJ hk,e]
 rw[wS,e'];exact iJ h0
theorem XI {α:Type} {l:List α} {i:Nat} (h:i<l.length):l.take (i+1)=l.take i++[l[i]]:=by rw[List.take_add_one,iW h];rfl
theorem qKc (C:yw S M me) (h4:S.threads≤4) {c:zg} (hme:c.me=me) (hp:c.p.fin=0) (hss:∀s∈c.s,0≤s∧s<S.stripes) (hr:c.s.Pairwise (· < ·)):∀(k:Nat) {i:Nat} {L:LkM} {z:Int},c.s.length=i+k→0<k→
  ∃L',Ju (2*k) { c with was:=(c.s.take i).map (zq M.l),lk:=L,state:=0 } { M with l:=yq me M.l (c.s.take i),cnt:=z } { c with was:=c.s.map (zq M.l),lk:=L',state:=2 } { M with l:=yq me M.l c.s,cnt:=z+(2*k:Nat) }:=by
 intro k
 induction k with
 |zero=>intro _ _ _ _ h;omega
 |succ k ih=>
  intro i L z hl _;have hi:i<c.s.length:=by omega
  have hmem:=List.getElem_mem hi;have hsi:=hss _ hmem;have hlen:=C.l;have hwl:((c.s.take i).map (zq M.l)).length=i:=by simp;omega
  have hnum:qM c.s (i:Int)=c.s[i]:=by unfold qM;rw[Int.toNat_natCast,iW hi];rfl
  have hnot:c.s[i]∉c.s.take i:=λh=>by
   obtain⟨j,hj⟩:=List.getElem?_of_mem h;have hjl:=(List.getElem?_eq_some_iff.1 hj).1;simp at hjl;rw[List.getElem?_take_of_lt omQ,iW omQ]at hj;have:=List.pairwise_iff_getElem.1 hr j i omQ hi omQ;have:=Option.some.inj hj;omega
  obtain⟨v,ev,v0,v1⟩:=C.at hsi;have hho:=ZZ (me:=me) (b:=c.s[i]) hsi.1 (ss:=c.s.take i) (l:=M.l) (λs hs=>by have:=hss s (List.mem_of_mem_take hs);omega) hnot;have hn:=C.n;have hm:=C.me;have d1:jm { M with l:=yq me M.l (c.s.take i),cnt:=z } (op0 3 c.s[i] 0)=(⟨0,(v,false,0),false,0⟩,{ M with l:=yq me M.l (c.s.take i),cnt:=z+1 }):=by
   have e:QV { M with l:=yq me M.l (c.s.take i),cnt:=z } (op0 3 c.s[i] 0)=(⟨0,(v,false,0),false,0⟩,{ M with l:=yq me M.l (c.s.take i),cnt:=z }):=by unfold QV;rw[iQ (by show¬(c.s[i]<0∨((yq me M.l (c.s.take i)).length:Int)≤c.s[i]);rw[kF];omega),iJ (by rfl)];show((⟨0,zq (yq me M.l (c.s.take i)) c.s[i],false,0⟩:AnM),_)=_;rw[hho,ev]
   exact OI (.inl rfl) e rfl
  have t1:zw { c with was:=(c.s.take i).map (zq M.l),lk:=L,state:=0 } ⟨0,(v,false,0),false,0⟩={ c with was:=(c.s.take i).map (zq M.l),lk:=(v,false,0),state:=1 }:=by rw[wL (by exact hp) rfl,iJ (.inl rfl)];unfold kC;rw[iQ (λh=>by cases h.2),iJ (by rfl)]
  have d2:jm { M with l:=yq me M.l (c.s.take i),cnt:=z+1 } ⟨4,c.s[i],0,0,(v,false,0),(v,true,me)⟩=(⟨0,lk0,true,0⟩,{ M with l:=yq me M.l (c.s.take (i+1)),cnt:=z+2 }):=by
   have e:QV { M with l:=yq me M.l (c.s.take i),cnt:=z+1 } ⟨4,c.s[i],0,0,(v,false,0),(v,true,me)⟩=(⟨0,lk0,true,0⟩,{ M with l:=yq me M.l (c.s.take (i+1)),cnt:=z+1 }):=by
    unfold QV
    rw[iQ (by show¬(c.s[i]<0∨((yq me M.l (c.s.take i)).length:Int)≤c.s[i]);rw[kF];omega),iQ (by show¬(4:Int)=3;decide),iQ (by
     show¬¬GA (v,true,me)
     exact λh=>h (NE.2 ⟨by omega,by omega,by omega⟩)),iQ (by show¬(4:Int)=5;decide),iQ (by show¬zq (yq me M.l (c.s.take i)) c.s[i]≠(v,false,0);rw[hho,ev];exact λh=>h rfl)]
    rw[XI hi,qKa,hho,ev]
   have:=OI (.inr (.inl rfl)) e rfl;rw[this];show(_,({ M with l:=yq me M.l (c.s.take (i+1)),cnt:=z+1+1 }:jL))=_;rw[Int.add_assoc];rfl
  have was1:(c.s.take i).map (zq M.l)++[(v,false,0)]=(c.s.take (i+1)).map (zq M.l):=by rw[XI hi,List.map_append,List.map_singleton,ev]
  have wl1:((c.s.take (i+1)).map (zq M.l)).length=i+1:=by simp;omega
  have t2:zw { c with was:=(c.s.take i).map (zq M.l),lk:=(v,false,0),state:=1 } ⟨0,lk0,true,0⟩={ c with was:=(c.s.take (i+1)).map (zq M.l),lk:=(v,false,0),state:=if i+1=c.s.length then 2 else 0 }:=by rw[wL (by exact hp) rfl,iJ (.inr rfl)];unfold kC;rw[iQ (λh=>by cases h.1),iQ (by show¬(1:Int)=0;decide),iJ (by rfl)];unfold Qz;dsimp only;rw[was1,wl1]
  have n1:xo { c with was:=(c.s.take i).map (zq M.l),lk:=L,state:=0 }=some (op0 3 c.s[i] 0):=by unfold xo;rw[iQ (λh=>h hp),iJ (by rfl)];dsimp only;rw[hwl,hnum]
  have n2:xo { c with was:=(c.s.take i).map (zq M.l),lk:=(v,false,0),state:=1 }=some ⟨4,c.s[i],0,0,(v,false,0),(v,true,me)⟩:=by unfold xo;rw[iQ (λh=>h hp),iQ (by show¬(1:Int)=0;decide),iJ (by rfl)];dsimp only;rw[hwl,hnum,hme]
  have two:∀{k':Nat} {d:zg} {N:jL},Ju k' { c with was:=(c.s.take (i+1)).map (zq M.l),lk:=(v,false,0),state:=if i+1=c.s.length then 2 else 0 } { M with l:=yq me M.l (c.s.take (i+1)),cnt:=z+2 } d N→
    Ju (k'+1+1) { c with was:=(c.s.take i).map (zq M.l),lk:=L,state:=0 } { M with l:=yq me M.l (c.s.take i),cnt:=z } d N:=λr=>.cons n1 d1 rfl t1 hp (.cons n2 d2 rfl t2 hp r)
  by_cases hk:k=0
  ·subst hk;refine⟨(v,false,0),two ?_⟩;rw[iJ omQ,List.take_of_length_le omQ];exact .nil
  ·rw[iQ omQ]at two;obtain⟨L',r⟩:=ih (i:=i+1) (L:=(v,false,0)) (z:=z+2) omQ omQ;refine⟨L',?_⟩;have:=two r;rw[show 2*(k+1)=2*k+1+1 by omega,show z+((2*k+1+1:Nat):Int)=z+2+((2*k:Nat):Int) by omega];exact this
theorem qG8 {c:zg} (hp:c.p.fin=0) (h0:c.s≠[]) (hcs:∀q∈c.cells,1≤q.1∧q.1<M.w.length):∀(k:Nat) {i:Nat} {z:Int},c.cells.length=i+k→0<k→
  Ju k { c with state:=5,at_:=(i:Int) } { M with w:=JE M.w (c.cells.take i),cnt:=z } { c with state:=6,at_:=0 } { M with w:=JE M.w c.cells,cnt:=z+(k:Nat) }:=by
 intro k
 induction k with
 |zero=>intro _ _ _ h;omega
 |succ k ih=>
  intro i z hl _;have hi:i<c.cells.length:=by omega
  have hci:=hcs _ (List.getElem_mem hi);have hcell:kJ c.cells (i:Int)=c.cells[i]:=by unfold kJ;rw[Int.toNat_natCast,iW hi];rfl
  have n1:xo { c with state:=5,at_:=(i:Int) }=some (op0 2 c.cells[i].1 c.cells[i].2):=by unfold xo;rw[iQ (λh=>h hp),iQ (by show¬(5:Int)=0;decide),iQ (by show¬(5:Int)=1;decide),iQ (by show¬(5:Int)=2;decide),iQ (by show¬(5:Int)=3;decide),iQ (by show¬(5:Int)=4;decide),iJ (by rfl)];dsimp only;rw[hcell]
  have d1:jm { M with w:=JE M.w (c.cells.take i),cnt:=z } (op0 2 c.cells[i].1 c.cells[i].2)=(an0,{ M with w:=JE M.w (c.cells.take (i+1)),cnt:=z+1 }):=by
   have e:J0 { M with w:=JE M.w (c.cells.take i),cnt:=z } (op0 2 c.cells[i].1 c.cells[i].2)=(an0,{ M with w:=JE M.w (c.cells.take (i+1)),cnt:=z }):=by unfold J0;rw[iQ (by show¬(c.cells[i].1<1∨((JE M.w (c.cells.take i)).length:Int)≤c.cells[i].1);rw[Zx];omega),iQ (by show¬(2:Int)=1;decide)];rw[XI hi,qYU];rfl
   exact qgS (.inr rfl) e rfl
  have t1:zw { c with state:=5,at_:=(i:Int) } an0=if i+1=c.cells.length then{ c with state:=6,at_:=0 }else{ c with state:=5,at_:=((i+1:Nat):Int) }:=by
   rw[wL (by exact hp) rfl,iQ (by show¬((5:Int)=0∨(5:Int)=1);decide),iQ (by show¬((5:Int)=2∨(5:Int)=3);decide),iQ (by show¬(5:Int)=4;decide),iJ (by rfl)];unfold vJ;dsimp only;by_cases h:i+1=c.cells.length
   ·rw[iJ omQ,iJ h];unfold vq;dsimp only;have:0<c.s.length:=List.length_pos_iff.2 h0;rw[iQ omQ]
   ·rw[iQ omQ,iQ h];rfl
  by_cases hk:k=0
  ·subst hk;rw[iJ omQ]at t1;rw[show c.cells.take (i+1)=c.cells from List.take_of_length_le omQ]at d1;exact .cons n1 d1 rfl t1 hp .nil
  ·rw[iQ omQ]at t1;have r:=ih (i:=i+1) (z:=z+1) omQ omQ;rw[show z+((k+1:Nat):Int)=z+1+((k:Nat):Int) by omega];exact .cons n1 d1 rfl t1 hp r
theorem qVs {c:zg} (hp:c.p.fin=0) (hnow:0≤c.now∧c.now<4611686018427387903) (hss:∀s∈c.s,0≤s∧s<M.l.length):∀(k:Nat) {i:Nat} {z:Int},c.s.length=i+k+1→
  Ju k { c with state:=6,at_:=(i:Int) } { M with l:=wK (c.now+1) M.l (c.s.take i),cnt:=z } { c with state:=6,at_:=(c.s.length-1:Nat) } { M with l:=wK (c.now+1) M.l (c.s.take (c.s.length-1)),cnt:=z+(k:Nat) }∧
  (xo { c with state:=6,at_:=(c.s.length-1:Nat) }=some ⟨5,qM c.s (c.s.length-1:Nat),0,0,lk0,(c.now+1,false,0)⟩∧
   jm { M with l:=wK (c.now+1) M.l (c.s.take (c.s.length-1)),cnt:=z+(k:Nat) } ⟨5,qM c.s (c.s.length-1:Nat),0,0,lk0,(c.now+1,false,0)⟩=(an0,{ M with l:=wK (c.now+1) M.l c.s,cnt:=z+(k+1:Nat) })∧
   zw { c with state:=6,at_:=(c.s.length-1:Nat) } an0={ c with state:=6,at_:=(c.s.length:Nat),p:=zx c.p 2 0 (-1) }):=by
 have step:∀{i:Nat} {z:Int},i<c.s.length→xo { c with state:=6,at_:=(i:Int) }=some ⟨5,qM c.s i,0,0,lk0,(c.now+1,false,0)⟩∧
   jm { M with l:=wK (c.now+1) M.l (c.s.take i),cnt:=z } ⟨5,qM c.s i,0,0,lk0,(c.now+1,false,0)⟩=(an0,{ M with l:=wK (c.now+1) M.l (c.s.take (i+1)),cnt:=z+1 })∧
   zw { c with state:=6,at_:=(i:Int) } an0=vq { c with state:=6,at_:=(i:Int)+1 }:=by
  intro i z hi;have hsi:=hss _ (List.getElem_mem hi);have hnum:qM c.s (i:Int)=c.s[i]:=by unfold qM;rw[Int.toNat_natCast,iW hi];rfl
  refine⟨?_,?_,?_⟩
  ·unfold xo;rw[iQ (λh=>h hp),iQ (by show¬(6:Int)=0;decide),iQ (by show¬(6:Int)=1;decide),iQ (by show¬(6:Int)=2;decide),iQ (by show¬(6:Int)=3;decide),iQ (by show¬(6:Int)=4;decide),iQ (by show¬(6:Int)=5;decide),iJ (by rfl)]
  ·rw[hnum];have e:QV { M with l:=wK (c.now+1) M.l (c.s.take i),cnt:=z } ⟨5,c.s[i],0,0,lk0,(c.now+1,false,0)⟩=(an0,{ M with l:=wK (c.now+1) M.l (c.s.take (i+1)),cnt:=z }):=by
    unfold QV
    rw[iQ (by show¬(c.s[i]<0∨((wK (c.now+1) M.l (c.s.take i)).length:Int)≤c.s[i]);rw[KW];omega),iQ (by show¬(5:Int)=3;decide),iQ (by
     show¬¬GA (c.now+1,false,0)
     exact λh=>h (Ox.2 ⟨by omega,rfl⟩)),iJ (by rfl)]
    rw[XI hi,qG6]
   exact OI (.inr (.inr rfl)) e rfl
  ·rw[wL (by exact hp) rfl,iQ (by show¬((6:Int)=0∨(6:Int)=1);decide),iQ (by show¬((6:Int)=2∨(6:Int)=3);decide),iQ (by show¬(6:Int)=4;decide),iQ (by show¬(6:Int)=5;decide),iJ (by rfl)]
 intro k
 induction k with
 |zero=>
  intro i z hl;obtain rfl:i=c.s.length-1:=by omega
  obtain⟨a,b,d⟩:=step (i:=c.s.length-1) (z:=z) omQ;rw[show z+((0:Nat):Int)=z by simp,show z+((0+1:Nat):Int)=z+1 by simp];refine⟨.nil,a,?_,?_⟩
  ·rw[b,show c.s.length-1+1=c.s.length by omega,List.take_length]
  ·rw[d];unfold vq;dsimp only;rw[iJ omQ];rw[show((c.s.length-1:Nat):Int)+1=((c.s.length:Nat):Int) by omega]
 |succ k ih=>
  intro i z hl;obtain⟨a,b,d⟩:=step (i:=i) (z:=z) omQ;obtain⟨r,q⟩:=ih (i:=i+1) (z:=z+1) omQ;have hd:zw { c with state:=6,at_:=(i:Int) } an0={ c with state:=6,at_:=((i+1:Nat):Int) }:=by rw[d];unfold vq;dsimp only;rw[iQ omQ];rfl
  rw[show z+((k+1:Nat):Int)=z+1+((k:Nat):Int) by omega,show z+((k+1+1:Nat):Int)=z+1+((k+1:Nat):Int) by omega];exact⟨.cons a b rfl hd hp r,q⟩
end
end Go.Proofs.YtnalffoigcmnnabGreatDoor
namespace Go.Proofs.YtnalffoigcmnnabGreatDoor
open Go Go.Ae
theorem OS {p v:Int} {l:List Cl} {c:Cl} (h:c∈yp p v l):c=(p,v)∨c∈l:=by
 induction l with
 |nil=>exact .inl (List.mem_singleton.1 h)
 |cons d l ih=>
  unfold yp at h
  split at h
  ·rename_i hd;rcases List.mem_cons.1 h with rfl |h
   ·exact .inl rfl
   ·exact .inr (iX _ h)
  ·rcases List.mem_cons.1 h with rfl |h
   ·exact .inr (iK ..)
   ·rcases ih h with h |h
    ·exact .inl h
    ·exact .inr (iX _ h)
theorem Ob {cs:List Cl}:∀{l:List Cl} {c:Cl},c∈yl l cs→c∈cs∨c∈l:=by
 induction cs with
 |nil=>intro l c h;exact .inr h
 |cons d r ih=>
  intro l c h;rcases ih (l:=yp d.1 d.2 l) h with h |h
  ·exact .inl (iX _ h)
  ·rcases OS h with h |h
   ·exact .inl (by rw[h];exact iK ..)
   ·exact .inr h
theorem qV2:∀{lv:List LvM} {out:List Cl} {c:Cl},c∈lv.foldl (λout x=>yl x.1 out) out→c∈out∨∃x∈lv,c∈x.1:=by
 intro lv
 induction lv with
 |nil=>intro out c h;exact .inl h
 |cons x r ih=>
  intro out c h;rcases ih h with h |⟨y,hy,h⟩
  ·rcases Ob h with h |h
   ·exact .inl h
   ·exact .inr ⟨x,iK ..,h⟩
  ·exact .inr ⟨y,iX _ hy,h⟩
theorem YU {lv:List LvM} {c:Cl} (h:c∈jJ lv):∃x∈lv,c∈x.1:=by
 rcases qV2 h with h |h
 ·cases h
 ·exact h
theorem MW {lv:List LvM} (h:∀x∈lv,∀c∈x.1,0≤c.2∧c.2<18446744073709551616):∀c∈jJ lv,0≤c.2∧c.2<18446744073709551616:=λc hc=>by
 obtain⟨x,hx,h1⟩:=YU hc;exact h x hx c h1
def InL (n:Nat) (lv:List LvM):Prop:=∀x∈lv,∀c∈x.1,1≤c.1∧c.1<n
theorem qj8 {n most:Nat} {lv:List LvM} {p v:Int} (h:InL n lv) (hp:1≤p∧p<n):InL n (vn most lv p v).2:=by
 unfold vn;cases lv with
 |nil=>exact h
 |cons x r=>
  dsimp only
  split
  ·exact h
  ·split
   ·exact h
   ·intro y hy c hc;rcases List.mem_cons.1 hy with rfl |hy
    ·rcases OS hc with rfl |hc
     ·exact hp
     ·exact h x (iK ..) c hc
    ·exact h y (iX _ hy) c hc
theorem qVN {n most:Nat} {was:List LvM} (hw:InL n was):∀{cs:List Cl} {lv:List LvM},InL n lv→(∀c∈cs,1≤c.1∧c.1<n)→InL n (vO most was lv cs).2:=by
 intro cs
 induction cs with
 |nil=>intro lv h _;exact h
 |cons c cs ih=>
  intro lv h hc;rw[vr]
  split
  ·exact ih (qj8 h (hc c (iK ..))) λd hd=>hc d (iX _ hd)
  ·exact hw
def InV (V:VM):Prop:=InL V.sz V.lv
theorem InV.read {V:VM} (h:InV V) (p:Int):InV (qh V p).2:=by
 unfold qh
 repeat' split
 all_goals exact h
theorem InV.take {V:VM} (h:InV V) (cs:List Cl):InV (zz V cs).2:=by
 unfold zz
 split
 ·rename_i hc;exact qVN h h hc
 ·exact h
theorem InV.ask {V:VM} (h:InV V) (b:Int):InV (zV V b).2:=by
 unfold zV
 repeat' split
 all_goals first |exact h |exact h.read _
theorem InV.again {V:VM} (h:InV V) (c b:Int):InV (yZ V c b).2:=by
 unfold yZ
 repeat' split
 all_goals first |exact h |exact h.read _ |exact(h.read _).take _
theorem InV.grown {V:VM} (h:InV V) (c:Int):InV (x9 V c).2:=by
 unfold x9
 repeat' split
 all_goals first |exact h |exact h.read _ |exact(h.read _).take _
theorem InV.alloc {V:VM} (h:InV V) (n:Int):InV (zu V n).2:=by
 unfold zu
 repeat' split
 all_goals first |exact h |exact h.read _ |exact(h.read _).grown _ |exact(h.read _).again _ _
theorem InV.freed {V:VM} (h:InV V) (b:Int):InV (freeV V b):=by
 intro x hx c hc;have hx:x∈Jt V.lv b:=hx;unfold Jt at hx;cases hl:V.lv with
 |nil=>rw[hl]at hx;cases hx
 |cons y r=>
  rw[hl]at hx;rcases List.mem_cons.1 hx with rfl |hx
  ·exact h y (by rw[hl];exact iK ..) c hc
  ·exact h x (by rw[hl];exact iX _ hx) c hc
theorem InV.free {V:VM} (h:InV V) (b:Int):InV (vF V b).2:=by
 unfold vF
 repeat' split
 all_goals first |exact(((h.ask _).take _).freed _) |exact(h.ask _).take _ |exact h.ask _
theorem InV.give {V:VM} (h:InV V) (b:Int):InV (zG V b).2:=by
 unfold zG
 repeat' split
 all_goals first |exact((h.ask _).read _).take _ |exact(h.ask _).read _ |exact h.ask _
theorem InV.open' {V:VM} (h:InV V):InV (y8 V).2:=by
 unfold y8 ko
 split
 ·exact h
 ·intro x hx c hc;rcases List.mem_cons.1 hx with rfl |hx
  ·cases hc
  ·exact h x hx c hc
theorem InV.drop {V:VM} (h:InV V):InV (xO V).2:=by
 unfold xO kl
 split
 ·exact h
 ·intro x hx c hc;exact h x (List.mem_of_mem_tail hx) c hc
theorem InV.keep {V:VM} (h:InV V):InV (vA V).2:=by
 intro x hx c hc;have hx:x∈(Ql V.lv).2:=hx;unfold Ql at hx
 split at hx
 ·rename_i a b r hl;rcases List.mem_cons.1 hx with rfl |hx
  ·rcases Ob hc with hc |hc
   ·exact h a (by rw[hl];exact iK ..) c hc
   ·exact h b (by rw[hl];exact iX _ (iK ..)) c hc
  ·exact h x (by rw[hl];exact iX _ (iX _ hx)) c hc
 ·exact h x hx c hc
theorem InV.begin_ {V:VM} (h:InV V) {op a nx:Int} {s:IM}:InV (zB op a nx s V).v:=by
 unfold zB
 split<;>exact h.open'
theorem InV.retry {mt:List Int} {s:IM}:∀(o:List PtM) {V:VM},InV V→InV (yn mt o s V).v:=by
 intro o
 induction o with
 |nil=>intro V h;exact h
 |cons p o ih=>
  intro V h;unfold yn
  split
  ·split
   ·exact(InV.begin_ h.drop)
   ·exact ih h.drop
  ·exact h.drop
theorem InV.turn {V:VM} (h:InV V) (mt:List Int) (s:IM) (op:Int):InV (wZ mt s V op).v:=by
 unfold wZ
 split
 ·exact InV.begin_ h
 ·split
  ·exact h.keep
  ·split
   ·exact h.keep
   ·split
    ·exact h.drop
    ·exact InV.retry _ h
theorem InV.touch {V:VM} (h:InV V) (s:IM) (x:qR):InV (jS s V x).2.2:=by
 unfold jS
 split
 ·split
  ·split<;>exact h.read _
  ·exact h
 ·split
  ·split
   ·exact h.take _
   ·exact h
  ·split
   ·split
    ·exact h
    ·split<;>exact h.alloc _
   ·split
    ·exact h
    ·exact h.free _
theorem qgO {c:Prop} [Decidable c] {a b:SM} (ha:InV a.v) (hb:InV b.v):InV (if c then a else b).v:=by
 split
 ·exact ha
 ·exact hb
theorem InV.do_ {V:VM} (h:InV V) (mt:List Int) (s:IM) (x:qR):InV (doM mt s V x).v:=by
 have ht:=h.touch s x;have hu:=h.turn mt s x.1;unfold doM;generalize jS s V x=T at*;generalize wZ mt s V x.1=U at*
 repeat' (first |exact h |exact ht |exact hu |apply qgO)
theorem InV.run {l:List qR} {mt:List Int}:∀(n:Nat) {s:IM} {V:VM},InV V→InV (jg l mt n s V).v:=by
 intro n
 induction n with
 |zero=>intro s V h;rw[gw];split<;>exact h
 |succ n ih=>
  intro s V h;have hd:=h.do_ mt s (qP l s.pc);rw[gu];generalize doM mt s V (qP l s.pc)=D at*
  split
  ·exact h
  ·split
   ·split
    ·exact hd
    ·exact ih hd
   ·split<;>exact hd
theorem InV.gives:∀(bs:List Int) (k:Nat) {V:VM},InV V→InV (jB V bs k).2:=by
 intro bs
 induction bs with
 |nil=>intro k V h;exact h
 |cons b r ih=>
  intro k V h;unfold jB
  split
  ·exact ih _ (h.give b)
  ·exact h.give b
end Go.Proofs.YtnalffoigcmnnabGreatDoor
namespace Go.Proofs.YtnalffoigcmnnabGreatDoor
open Go Go.Ae
theorem qk0 {cs:List Cl}:∀{w:List Int},(∀z∈w,0≤z∧z<18446744073709551616)→(∀c∈cs,0≤c.2∧c.2<18446744073709551616)→∀z∈JE w cs,0≤z∧z<18446744073709551616:=by
 induction cs with
 |nil=>intro w h _;exact h
 |cons c r ih=>
  intro w h hc;refine ih (w:=w.set c.1.toNat c.2) (λz hz=>?_) λq hq=>hc q (iX _ hq);rcases List.mem_or_eq_of_mem_set hz with hz |rfl
  ·exact h z hz
  ·exact hc c (iK ..)
section
variable {S:xw} {M:jL} {me:Int}
theorem qV7 (O:gr S) (C:yw S M me) (hn1:M.n+1<4611686018427387902) {r:List xR} {cs:List Cl} (hcs:cs≠[]) (hc:∀c∈cs,1≤c.1∧c.1<S.words) (hw:∀c∈cs,0≤c.2∧c.2<18446744073709551616) :
  ∃(k:Nat) (d c1:zg) (o:OpM) (N0 N:jL),k≤3*16+2+cs.length∧Ju k (J2 me S.spins M.n r cs S.stripes S.wide) M d N0∧xo d=some o∧jm N0 o=(an0,N)∧zw d an0=c1∧c1.p.fin=2∧c1.p.err=0∧wQ c1=M.n+1∧
   N.w=JE M.w cs∧N.n=M.n+1∧N.s=M.s∧N.cnt=M.cnt+(k+1:Nat)∧yw S N me:=by
 have hst:=O.stripes;have hmem:=λx=>XW (n:=S.stripes) (w:=S.wide) (λc hx=>by have:=hc c hx;omega:∀c∈cs,0≤c.1) (x:=x);generalize hs:xE cs S.stripes S.wide=ss at*;have hrise:ss.Pairwise (· < ·):=by rw[← hs];exact JV
 have hss:∀s∈ss,0≤s∧s<S.stripes:=λs h=>by
  obtain⟨c,hcm,rfl⟩:=List.mem_map.1 ((hmem s).1 h);exact qQ8 O (by have:=hc c hcm;omega)
 have hs0:ss≠[]:=by obtain⟨c,r',rfl⟩:=List.exists_cons_of_ne_nil hcs;exact List.ne_nil_of_mem ((hmem _).2 (List.mem_map.2 ⟨c,iK ..,rfl⟩))
 have hsl:0<ss.length:=List.length_pos_iff.2 hs0;have hs16:ss.length≤16:=by rw[← hs];unfold xE;exact Nat.le_trans (List.length_filter_le ..) osQ
 have hcl:0<cs.length:=List.length_pos_iff.2 hcs;have hlen:=C.l;have hnn:=C.n
 let B:zg:=⟨QP me S.spins,me,M.n,r,cs,ss,[],0,0,lk0,0,false,0,0,0⟩
 have e0:J2 me S.spins M.n r cs S.stripes S.wide={ B with was:=(B.s.take 0).map (zq M.l),lk:=lk0,state:=0 }:=by unfold J2 Qz;rw[hs];dsimp only;rw[iQ (by show¬(0:Nat)=ss.length;omega)];rfl
 obtain⟨L',a1⟩:=qKc C (by have:=O.threads;omega) (c:=B) rfl rfl hss hrise ss.length (i:=0) (L:=lk0) (z:=M.cnt) (by show ss.length=0+ss.length;omega) hsl
 let M1:jL:={ M with l:=yq me M.l ss,cnt:=M.cnt+(2*ss.length:Nat) }
 let c1:zg:={ B with was:=ss.map (zq M.l),lk:=L',state:=2 }
 have a1':Ju (2*ss.length) (J2 me S.spins M.n r cs S.stripes S.wide) M c1 M1:=by rw[e0];exact a1
 let c2:zg:={ c1 with now:=M.n,state:=3 }
 have t2:zw c1 ⟨M.n,lk0,false,0⟩=c2:=by rw[wL (by rfl) rfl,iQ (by show¬((2:Int)=0∨(2:Int)=1);decide),iJ (.inl rfl)];unfold gM;rw[iQ (by show¬((2:Int)=2∧4611686018427387903≤M.n);omega),iJ (by rfl)]
 let M2:jL:={ M1 with cnt:=M.cnt+(2*ss.length:Nat)+1 }
 let M3:jL:={ M1 with n:=M.n+1,cnt:=M.cnt+(2*ss.length:Nat)+2 }
 have d3:jm M2 ⟨7,0,M.n,M.n+1,lk0,lk0⟩=(⟨0,lk0,true,0⟩,M3):=by
  have e:Jb M2 ⟨7,0,M.n,M.n+1,lk0,lk0⟩=(⟨0,lk0,true,0⟩,{ M2 with n:=M.n+1 }):=by unfold Jb;rw[iQ (by show¬(7:Int)=6;decide),iQ (by show¬M.n+1≤M.n;omega),iQ (by show¬4611686018427387904≤M.n+1;omega),iQ (by show¬M.n≠M.n;exact λh=>h rfl)]
  rw[qvn (.inr rfl) e rfl];show(_,({ M1 with n:=M.n+1,cnt:=M.cnt+((2*ss.length:Nat):Int)+1+1 }:jL))=_;rw[Int.add_assoc (M.cnt+((2*ss.length:Nat):Int))];rfl
 let c3:zg:={ c2 with writing:=true,state:=5,at_:=((0:Nat):Int) }
 have t3:zw c2 ⟨0,lk0,true,0⟩=c3:=by rw[wL (by rfl) rfl,iQ (by show¬((3:Int)=0∨(3:Int)=1);decide),iJ (.inr rfl)];unfold gM;rw[iQ (λh=>by cases h.1),iQ (by show¬(3:Int)=2;decide),iQ od,iJ (by rfl)];unfold wh vJ;rw[iQ (by show¬(0:Int)=(cs.length:Int);omega)];rfl
 have a3:Ju (2*ss.length+2) (J2 me S.spins M.n r cs S.stripes S.wide) M c3 M3:=a1'.trans (.cons (o:=op0 6 0 0) rfl (by show _=(_,M2);rfl) rfl t2 rfl (.cons (o:=⟨7,0,M.n,M.n+1,lk0,lk0⟩) rfl d3 rfl t3 rfl .nil));have a4:=qG8 (M:=M3) (c:=c3) rfl hs0 (λq hq=>by have:=hc q hq;have:=C.w;show 1≤q.1∧q.1<(M.w.length:Int);omega) cs.length (i:=0) (z:=M3.cnt) (by show cs.length=0+cs.length;omega) hcl;have a5:Ju (2*ss.length+2+cs.length) (J2 me S.spins M.n r cs S.stripes S.wide) M { c3 with state:=6,at_:=0 } { M3 with w:=JE M.w cs,cnt:=M3.cnt+(cs.length:Nat) }:=a3.trans a4;obtain⟨g1,g2,g3,g4⟩:=qVs (M:={ M3 with w:=JE M.w cs }) (c:={ c3 with state:=6,at_:=0 }) rfl (by show 0≤M.n∧M.n<_;omega) (λs h=>by have:=hss s h;show 0≤s∧s<((yq me M.l ss).length:Int);rw[kF];omega) (ss.length-1) (i:=0) (z:=M3.cnt+(cs.length:Nat)) (by show ss.length=0+(ss.length-1)+1;omega);refine⟨2*ss.length+2+cs.length+(ss.length-1),_,_,_,_,_,by omega,a5.trans g1,g2,g3,g4,rfl,rfl,rfl,rfl,rfl,rfl,?_,?_⟩
 ·show M.cnt+((2*ss.length:Nat):Int)+2+((cs.length:Nat):Int)+((ss.length-1+1:Nat):Int)=_;omega
 ·refine⟨?_,?_,C.s,C.me,λi hi=>?_,by show 0≤M.n+1∧M.n+1<_;omega,qk0 C.wd hw⟩
  ·show((JE M.w cs).length:Int)=_;rw[Zx];exact C.w
  ·show((wK (M.n+1) (yq me M.l ss) ss).length:Int)=_;rw[KW,kF];exact C.l
  ·have hi:i<(wK (M.n+1) (yq me M.l ss) ss).length:=hi;rw[KW,kF]at hi;show∃v:Int,zq (wK (M.n+1) (yq me M.l ss) ss) i=(v,false,0)∧0≤v∧v≤M.n+1;rw[qkC omQ (λs h=>by have:=hss s h;rw[kF];omega)]
   split
   ·exact⟨M.n+1,rfl,by omega,by omega⟩
   ·rename_i h;rw[ZZ omQ (λs h=>by have:=hss s h;omega) h];obtain⟨v,e,h0,h1⟩:=C.lk i hi;exact⟨v,e,h0,by omega⟩
theorem Ks (C:yw S M me) {y:jQ} (h7:y.state=7) (hme:y.me=me):Stp 1 y M { y with state:=8 } { M with s:=M.s.set me.toNat 0,cnt:=M.cnt+1 }:=by
 refine .step (o:=op0 9 me 0) ?_ (UH C) ?_
 ·unfold xq;rw[iQ omQ,iQ omQ,iQ omQ,iJ h7,hme]
 ·unfold jb;rw[iQ omQ,iQ (λh=>h rfl),iQ omQ,iQ omQ,iQ omQ,iJ h7]
theorem qZ3 {j:Jx} {V:VM} (hg:jk V) (hj:JobOk True V j):(jD j V).1.1=1∨(jD j V).1.1=2∨(jD j V).1.1=3∨(jD j V).1.1=4:=by
 cases j with
 |prog q=>obtain⟨F,Q,gb,h,hl⟩:=hj;obtain⟨G,h0,h1,h2⟩:=h trivial;exact(Gs F Q q.left G h2).2.2.2.2
 |sweep bs k=>
  unfold jD;dsimp only
  split
  ·exact .inl rfl
  ·split
   ·exact .inr (.inl rfl)
   ·exact .inr (.inr (.inr rfl))
theorem O9 {j:Jx} {V:VM} (h:InV V):InV (jD j V).2.2:=by
 cases j with
 |prog q=>exact InV.run _ h
 |sweep bs k=>exact InV.gives _ _ h
structure qXe (S:xw) (M:jL) (me:Int) (R:(Int×Int)×Jx×VM) (y:jQ) (N:jL):Prop where
  st:y.state=8
  me_:y.me=me
  set:y.set=S
  fin:y.fin=R.1.1
  err:y.err=if R.1.1=4 then R.1.2 else 0
  lv:y.v.lv=R.2.2.lv
  job:y.job=R.2.1
  by_:y.by_= -1
  calm:yw S N me
  s:N.s=M.s.set me.toNat 0
  w:N.w=if R.1.1=2 then JE M.w (jJ R.2.2.lv)else M.w
  n:N.n=M.n+(if R.1.1=2∧jJ R.2.2.lv≠[]then 1 else 0)
  stamp:y.stamp=N.n
  begun:y.begun=true
  kind:R.1.1=2∨R.1.1=3∨R.1.1=4
theorem Kw (O:gr S) (C:yw S M me) (hn1:M.n+1<4611686018427387902) {j:Jx} (hj:JobOk True (QR S.words S.writes) j) (hjW:JobOk True (jM M.w S.writes) j) :
  ∃(m:Nat) (y:jQ) (N:jL),m≤3*(QR S.words S.writes).sz+432∧Stp m (G8 me S j) M y N∧qXe S M me (jD j (jM M.w S.writes)) y N∧N.cnt=M.cnt+(m:Nat):=by
 have hm:=C.me;have hnn:=C.n;have hw:=O.words;have hlw:=C.w;have c1:yw S { M with s:=M.s.set me.toNat 1,cnt:=M.cnt+1 } me:=⟨C.w,C.l,by show((M.s.set me.toNat 1).length:Int)=_;rw[List.length_set];exact C.s,C.me,C.lk,C.n,C.wd⟩;have s1:Stp 1 (G8 me S j) M { G8 me S j with state:=1 } { M with s:=M.s.set me.toNat 1,cnt:=M.cnt+1 }:=.step (o:=op0 9 me 1) rfl (UH C) rfl;have s2:Stp 1 { G8 me S j with state:=1 } { M with s:=M.s.set me.toNat 1,cnt:=M.cnt+1 } { G8 me S j with begun:=true,begin_:=M.n,stamp:=M.n,state:=2 } { M with s:=M.s.set me.toNat 1,cnt:=M.cnt+2 }:=by
  refine .step (o:=op0 6 0 0) rfl (by
   show(_,({ M with s:=M.s.set me.toNat 1,cnt:=M.cnt+1+1 }:jL))=(_,_)
   rw[Int.add_assoc];rfl) rfl
 have c2:yw S { M with s:=M.s.set me.toNat 1,cnt:=M.cnt+2 } me:=⟨c1.w,c1.l,c1.s,c1.me,c1.lk,c1.n,c1.wd⟩
 let M3:jL:={ M with s:=M.s.set me.toNat (zL .u64 (M.n+1)),cnt:=M.cnt+3 }
 have c3:yw S M3 me:=⟨C.w,C.l,by show((M.s.set me.toNat (zL .u64 (M.n+1))).length:Int)=_;rw[List.length_set];exact C.s,C.me,C.lk,C.n,C.wd⟩
 let x2:jQ:={ G8 me S j with begun:=true,begin_:=M.n,stamp:=M.n,state:=2 }
 have s3:Stp 1 x2 { M with s:=M.s.set me.toNat 1,cnt:=M.cnt+2 } (xu x2) M3:=by refine .step (o:=op0 9 me (zL .u64 (M.n+1))) (a:=an0) rfl ?_ rfl;rw[UH c2];show(_,({ M with s:=(M.s.set me.toNat 1).set me.toNat (zL .u64 (M.n+1)),cnt:=M.cnt+2+1 }:jL))=(_,_);rw[List.set_set,Int.add_assoc];rfl
 have B2:kK x2:=by have h:=OA (me:=me) O hj;exact⟨h.set,h.good,h.sz,h.fr,h.r,h.job.dead not_false,h.c⟩
 have hW:=Qk (m:=S.writes) C.wd;have hsz:szZ (M.w.length:Int)=szZ S.words:=by rw[hlw]
 have P0:zo (QR S.words S.writes) (jM M.w S.writes):=⟨hsz.symm,rfl,rfl,λp x h=>by cases h⟩;obtain⟨m,y,m1,m2,m3,m4,m5,m6,m7,m8,m9,m10,m11,m12,m13,m14⟩:=qJ0 O (me:=me) ((QR S.words S.writes).sz) (M:=M3) (x:=x2) (W:=jM M.w S.writes) c3 (by show(QR S.words S.writes).sz≤0+1+_;omega) rfl rfl rfl rfl ⟨λy h=>(by cases h),List.nodup_nil⟩ B2 hj P0 hW rfl rfl hjW;have hszb:(QR S.words S.writes).sz≤256:=(NK S.words).2;have k3:=qZ3 hW hjW
 have hinV:InV (jD j (jM M.w S.writes)).2.2:=O9 (λx hx c hc=>by
  rcases List.mem_cons.1 hx with rfl |hx
  ·cases hc
  ·cases hx)
 have hR:jD x2.job (jM M.w S.writes)=jD j (jM M.w S.writes):=rfl;rw[hR]at m2 m3 m4 m5;generalize jD j (jM M.w S.writes)=R at*;have head:=(s1.trans s2).trans s3;have base:=head.trans m2;clear s1 s2 s3 head m2;have cB:=c3.bump (m:Int);have hlvy:y.v.lv=R.2.2.lv:=m5.lv;have hs0:(M3.s.set me.toNat 0)=M.s.set me.toNat 0:=by show(M.s.set me.toNat (zL .u64 (M.n+1))).set me.toNat 0=_;rw[List.set_set]
 unfold vi at base;rw[iQ m3]at base;by_cases h3:R.1.1=3
 ·rw[iJ h3]at base;obtain⟨k,E,k1,t⟩:=qVb (C:=cB) (y:={ y with blocking:=true }) m8 ⟨m10.at_,m10.un⟩ rfl;rw[kI]at t;have cE:=c3.bump ((m:Int)+k);have l:=Ks cE (y:=xI { y with blocking:=true,e:=E,stamp:=M.n } 3 0 (-1)) rfl m6;have hrl:=m10.len O;refine⟨_,_,_,?_,(base.trans t).trans l,⟨rfl,m6,m7,h3.symm,by rw[h3];rfl,hlvy,m4,rfl,⟨cE.w,cE.l,by show(((bump M3 _).s.set me.toNat 0).length:Int)=_;rw[List.length_set];exact cE.s,cE.me,cE.lk,cE.n,cE.wd⟩,hs0,?_,?_,?_,m12,.inr (.inl h3)⟩,?_⟩
  ·have:k≤y.r.length+1:=k1;omega
  ·rw[iQ omQ];rfl
  ·rw[iQ (λh=>by omega)];show M.n=M.n+0;omega
  ·rfl
  ·show M.cnt+3+((m:Int)+k)+1=_;omega
 ·rw[iQ h3]at base;by_cases h4:R.1.1=4
  ·rw[iJ h4]at base;have l:=Ks cB (y:=xI y 4 R.1.2 (-1)) rfl m6;refine⟨_,_,_,by omega,base.trans l,⟨rfl,m6,m7,h4.symm,by rw[iJ h4];rfl,hlvy,m4,rfl,⟨cB.w,cB.l,by show(((bump M3 _).s.set me.toNat 0).length:Int)=_;rw[List.length_set];exact cB.s,cB.me,cB.lk,cB.n,cB.wd⟩,hs0,?_,?_,?_,m12,.inr (.inr h4)⟩,?_⟩
   ·rw[iQ omQ];rfl
   ·rw[iQ (λh=>by omega)];show M.n=M.n+0;omega
   ·exact m9
   ·show M.cnt+3+(m:Int)+1=_;omega
  ·rw[iQ h4]at base;have h2:R.1.1=2:=by omega
   rw[hlvy]at base;by_cases hcs:jJ R.2.2.lv=[]
   ·rw[iJ hcs]at base;have l:=Ks cB (y:=xI y 2 0 (-1)) rfl m6;refine⟨_,_,_,by omega,base.trans l,⟨rfl,m6,m7,h2.symm,by rw[iQ h4];rfl,hlvy,m4,rfl,⟨cB.w,cB.l,by show(((bump M3 _).s.set me.toNat 0).length:Int)=_;rw[List.length_set];exact cB.s,cB.me,cB.lk,cB.n,cB.wd⟩,hs0,?_,?_,?_,m12,.inl h2⟩,?_⟩
    ·rw[iJ h2,hcs];rfl
    ·rw[iQ (λh=>h.2 hcs)];show M.n=M.n+0;omega
    ·exact m9
    ·show M.cnt+3+(m:Int)+1=_;omega
   ·rw[iQ hcs]at base;have hmo:=UB m11.good.ok;rw[hlvy]at hmo;have hwdc:∀c∈jJ R.2.2.lv,0≤c.2∧c.2<18446744073709551616:=by rw[← hlvy];exact MW m11.good.wd.l
    have hin:∀c∈jJ R.2.2.lv,1≤c.1∧c.1<S.words:=λc hc=>by
     obtain⟨x,hx,h1⟩:=YU hc;have:=hinV x hx c h1;have e1:=m5.sz;have e2:=m11.sz;rw[m7]at e2;omega
    obtain⟨k,d,e1,o,N0,N,k1,k2,k3',k4,k5,k6,k7,k8,k9,k10,k11,k12,k13⟩:=qV7 O cB hn1 (r:=y.r) hcs hin hwdc;have e0:J2 y.me y.set.spins y.stamp y.r (jJ R.2.2.lv) y.set.stripes y.set.wide=J2 me S.spins M.n y.r (jJ R.2.2.lv) S.stripes S.wide:=by rw[m6,m7,m9]
    rw[e0]at base;obtain⟨z,tz⟩:=qWm k2 (x:={ y with state:=6,c:=some (J2 me S.spins M.n y.r (jJ R.2.2.lv) S.stripes S.wide) }) rfl rfl;have tl:=qjo (x:={ y with state:=6,c:=some d,stamp:=z }) (c:=d) rfl rfl k3' k4 rfl k5 k6 k7;have l:=Ks k13 (y:={ xI { y with state:=6,c:=some e1,stamp:=z } 2 0 (-1)with stamp:=wQ e1 }) rfl m6;refine⟨_,_,_,?_,((base.trans tz).trans tl).trans l,⟨rfl,m6,m7,h2.symm,by rw[iQ h4];rfl,hlvy,m4,rfl,⟨k13.w,k13.l,by show((N.s.set me.toNat 0).length:Int)=_;rw[List.length_set];exact k13.s,k13.me,k13.lk,k13.n,k13.wd⟩,?_,?_,?_,?_,m12,.inl h2⟩,?_⟩
    ·omega
    ·show N.s.set me.toNat 0=_;rw[k11];exact hs0
    ·rw[iJ h2];exact k9
    ·rw[iJ ⟨h2,hcs⟩];exact k10
    ·show wQ e1=N.n;rw[k8,k10]
    ·show N.cnt+1=_;rw[k12];show M.cnt+3+(m:Int)+((k+1:Nat):Int)+1=_;omega
end
end Go.Proofs.YtnalffoigcmnnabGreatDoor
namespace Go.Proofs.YtnalffoigcmnnabGreatDoor
open Go Go.Ae
abbrev U64 (z:Int):Prop:=0≤z∧z<18446744073709551616
structure qQ0 (M:jL):Prop where
  w:∀z∈M.w,U64 z
  n:U64 M.n
  s:∀z∈M.s,U64 z
theorem qXD {l:List Int} (h:∀z∈l,U64 z) (i:Int):U64 (qM l i):=by
 unfold qM;cases hi:l[i.toNat]? with
 |none=>exact⟨Int.le_refl _,by show(0:Int)<_;decide⟩
 |some z=>exact h z (List.mem_of_getElem? hi)
theorem OC {l:List Int} (h:∀z∈l,U64 z) {i:Nat} {w:Int} (hw:U64 w):∀z∈l.set i w,U64 z:=λz hz=>by
 rcases List.mem_or_eq_of_mem_set hz with hz |rfl
 ·exact h z hz
 ·exact hw
theorem qXp {M:jL} {o:OpM} (R:qQ0 M) (ho:U64 o.word):X8 (jm M o).1∧qQ0 (jm M o).2:=by
 have z0:U64 (0:Int):=⟨Int.le_refl _,by decide⟩;have key:X8 (y9 M o).1∧qQ0 (y9 M o).2:=by
  unfold y9
  split
  ·unfold J0
   split
   ·exact⟨z0,R⟩
   ·split
    ·exact⟨qXD R.w _,R⟩
    ·exact⟨z0,⟨OC R.w ho,R.n,R.s⟩⟩
  ·split
   ·unfold QV
    repeat' split
    all_goals exact⟨z0,⟨R.w,R.n,R.s⟩⟩
   ·split
    ·unfold Jb
     split
     ·exact⟨R.n,R⟩
     ·repeat' split
      all_goals first |exact⟨z0,R⟩ |exact⟨z0,⟨R.w,ho,R.s⟩⟩
    ·split
     ·unfold Gx
      split
      ·exact⟨z0,R⟩
      ·split
       ·exact⟨qXD R.s _,R⟩
       ·exact⟨z0,⟨R.w,R.n,OC R.s ho⟩⟩
     ·exact⟨z0,R⟩
 rw[wS]
 split
 ·exact⟨key.1,⟨key.2.w,key.2.n,key.2.s⟩⟩
 ·exact key
theorem Md {M:jL} {o:OpM}:(jm M o).2.cnt≤M.cnt+1∧M.cnt≤(jm M o).2.cnt:=by
 have h:=Z9 (M:=M) (o:=o);rw[wS]
 split
 ·show(y9 M o).2.cnt+1≤_∧_≤(y9 M o).2.cnt+1;omega
 ·omega
theorem Xh {c:zg} {f e y:Int}:(kA c f e y).cells=c.cells:=by unfold kA gk;dsimp only;split<;>rfl
theorem Vt {c:zg} {l:LkM}:(QY c l).cells=c.cells:=by 
 unfold QY
 split
 ·rfl
 ·exact Xh
theorem M9 {c:zg}:(vq c).cells=c.cells:=by unfold vq;split<;>rfl
theorem VU {c:zg}:(vJ c).cells=c.cells:=by 
 unfold vJ
 split
 ·exact M9
 ·rfl
theorem YS {c:zg}:(wh c).cells=c.cells:=VU
theorem KO:∀(n:Nat) (c:zg),(vu c n).cells=c.cells:=by
 intro n
 induction n with
 |zero=>intro c;exact YS
 |succ n ih=>
  intro c;unfold vu
  split
  ·split
   ·rfl
   ·split
    ·exact Xh
    ·exact ih _
  ·exact YS
theorem qK4 {c:zg} {a:AnM}:(zw c a).cells=c.cells:=by
 unfold zw
 split
 ·rfl
 ·split
  ·unfold kC
   split
   ·exact Vt
   ·split
    ·rfl
    ·split
     ·rfl
     ·rfl
  ·split
   ·unfold gM
    split
    ·exact Xh
    ·split
     ·rfl
     ·split
      ·rfl
      ·split
       ·exact YS
       ·exact KO _ _
   ·split
    ·unfold wx
     split
     ·exact Vt
     ·split
      ·exact Xh
      ·exact KO _ _
    ·split
     ·exact VU
     ·split
      ·exact M9
      ·unfold gk
       split<;>rfl
def JS (x:jQ):Prop:=∀c,x.c=some c→∀q∈c.cells,U64 q.2
theorem qGd {x:jQ} {k e:Int} (G:jk x.v) (W:JS x):JS (vi x k e):=by
 unfold vi
 split
 ·exact W
 ·split
  ·exact W
  ·split
   ·exact W
   ·split
    ·exact W
    ·intro c hc;cases hc;exact MW G.wd.l
theorem MD {x:jQ} (B:kK x) (hj:JobOk True x.v x.job) (W:JS x):JS (xu x):=by have D:=K8 B.good B.fr hj;refine qGd D.good ?_;intro c hc;rw[D.same.2.2.2.2]at hc;exact W c hc
theorem M4 {x:jQ} {a:AnM} (O:zl x) (W:JS x) (ha:X8 a):JS (jb x a):=by
 have hst:=O.st;have stamped:∀{y:jQ},JS y→JS (z8 y):=λ{y} h=>by
  unfold z8
  split
  ·split<;>exact h
  ·exact h
 have told:∀{y:jQ},zl y→3≤y.state→y.state≤6→JS y→JS (xe y):=λ{y} O h3 h6 W=>by
  refine stamped ?_;show JS (if(xg y).1=0 then y else if(xg y).1=5 then xI y 5 0 (xg y).2 else yG y)
  split
  ·exact W
  ·split
   ·exact W
   ·unfold yG
    split
    ·rename_i hs;have hw:=KQ (O.f hs).2;unfold yg
     split
     ·exact W
     ·split
      ·have hj:=(O.job.same λ_=>by omega:JobOk True y.v y.job).know (p:=y.v.need) hw;refine MD ⟨O.set,Xw O.good hw,by show((z6 y.v y.v.need (yy y.f)).2.sz:Int)=y.set.words;rw[wN.2];exact O.sz,by show frS (z6 y.v y.v.need (yy y.f)).2.lv<9000;rw[wN.1];exact O.fr,Gv O.r,hj.same λh=>h.elim,O.c⟩ hj W
      ·split<;>exact W
    ·split
     ·exact W
     ·split
      ·exact W
      ·split<;>exact W
 unfold jb
 split
 ·exact W
 ·split
  ·exact W
  ·split
   ·exact W
   ·split
    ·exact W
    ·split
     ·exact MD O.b (O.job.same λ_=>by omega) W
     ·split
      ·exact W
      ·split
       ·rename_i hs;have hf:=O.f hs;refine told (y:={ x with f:=xT x.f a }) ?_ (by show 3≤x.state;omega) (by show x.state≤6;omega) W;exact⟨O.set,O.good,O.sz,O.fr,O.r,O.job,O.st,λ_=>⟨YC hf.1,KY hf.2 ha⟩,O.need,O.e,O.c,O.c0,O.c6⟩
       ·split
        ·rename_i hs;refine told (y:={ x with c:=x.c.map λc=>zw c a }) ?_ (by show 3≤x.state;omega) (by show x.state≤6;omega) ?_
         ·refine⟨O.set,O.good,O.sz,O.fr,O.r,O.job,O.st,O.f,O.need,O.e,λc h=>?_,λh=>absurd h (by show¬x.state≤5;omega),λh hn=>O.c6 h ?_⟩
          ·obtain⟨c',h1,rfl⟩:=Option.map_eq_some_iff.1 h;exact Kz (O.c c' h1) ha
          ·exact Option.map_eq_none_iff.1 hn
         ·intro c h;obtain⟨c',h1,rfl⟩:=Option.map_eq_some_iff.1 h;rw[qK4];exact W c' h1
        ·refine told (y:={ x with e:=x7 x.e a }) ?_ (by show 3≤x.state;omega) (by show x.state≤6;omega) W;exact⟨O.set,O.good,O.sz,O.fr,O.r,O.job,O.st,O.f,O.need,λh1 h2=>YP (O.e h1 h2),O.c,O.c0,O.c6⟩
theorem NY {x:jQ} {o:OpM} (O:zl x) (W:JS x) (h:xq x=some o):U64 o.word:=by
 have z0:U64 (0:Int):=⟨Int.le_refl _,by decide⟩;unfold xq at h
 split at h
 ·cases h;exact⟨by show(0:Int)≤1;decide,by show(1:Int)<_;decide⟩
 ·split at h
  ·cases h;exact z0
  ·split at h
   ·cases h;exact qXt _
   ·split at h
    ·cases h;exact z0
    ·split at h
     ·cases h
     ·split at h
      ·unfold Ku at h
       split at h
       ·cases h
       ·split at h<;>(cases h;exact z0)
      ·split at h
       ·rename_i h6;cases hc:x.c with
        |none=>rw[hc]at h;cases h
        |some c=>
         rw[hc]at h;have hn:=(O.c c hc).now;have h:xo c=some o:=h;unfold xo at h
         split at h
         ·cases h
         ·split at h
          ·cases h;exact z0
          ·split at h
           ·cases h;exact z0
           ·split at h
            ·cases h;exact z0
            ·split at h
             ·cases h;exact⟨by show 0≤c.now+1;omega,by show c.now+1<_;omega⟩
             ·split at h
              ·cases h;exact z0
              ·split at h
               ·cases h;show U64 (kJ c.cells c.at_).2;unfold kJ;cases hi:c.cells[c.at_.toNat]? with
                |none=>exact z0
                |some q=>exact W c hc q (List.mem_of_getElem? hi)
               ·split at h<;>(cases h;exact z0)
       ·unfold Jw at h
        split at h
        ·cases h
        ·split at h<;>(cases h;exact z0)
theorem qZr {me:Int} {S:xw} {j:Jx}:JS (G8 me S j):=λc h=>by cases h
end Go.Proofs.YtnalffoigcmnnabGreatDoor
namespace Go.Proofs.YtnalffoigcmnnabGreatDoor.arenaPlays
open Go Go.Ae
set_option maxRecDepth 100000
variable {g h:AH} {L R:List SP}
def zk (a:Int×Int×Bool):List AV:=[.int .i64 a.1,.int .i64 a.2.1,.bool a.2.2]
theorem qZh {zs:List Int} {m:Int} (hz:∀z∈zs,0≤z∧z<18446744073709551616):jk (jM zs m):=by
 refine⟨M5 zs m,?_,?_⟩
 ·intro c hc;obtain⟨i,_,rfl⟩:=List.mem_map.1 hc;show 0≤xN zs (i+1)∧xN zs (i+1)<18446744073709551616;unfold xN;cases hzi:zs[i+1]? with
  |none=>simp
  |some z=>exact hz z (List.mem_of_getElem? hzi)
 ·intro x hx;simp[jM]at hx;subst hx;intro c hc;cases hc
end Go.Proofs.YtnalffoigcmnnabGreatDoor.arenaPlays
namespace Go.Proofs.YtnalffoigcmnnabGreatDoor
open Go Go.Ae
set_option maxRecDepth 100000
variable {g h:AH} {L R:List SP}
def U0 (zs:List Int):List Int:=(List.range (szZ zs.length)).map λi=>if i=0 then 0 else xN zs i
def qVa (l:List Int) (c:Cl):List Int:=if 1≤c.1∧c.1<l.length then l.set c.1.toNat c.2 else l
def jI (zs:List Int) (cs:List Cl):List Int:=cs.foldl qVa (U0 zs)
theorem qqM (l:List Int) (c:Cl):(qVa l c).length=l.length:=by unfold qVa;split<;>simp
theorem qx2 {l:List Int} {c:Cl} (h:1≤c.1∧c.1<l.length):qVa l c=l.set c.1.toNat c.2:=iJ h
theorem qGf:∀(cs:List Cl) (l:List Int),(cs.foldl qVa l).length=l.length:=by
 intro cs
 induction cs with
 |nil=>intro l;rfl
 |cons c cs ih=>intro l;rw[List.foldl_cons,ih,qqM]
theorem qKF (zs:List Int):(U0 zs).length=szZ zs.length:=by simp[U0]
theorem qQ7 (zs:List Int) (cs:List Cl):(jI zs cs).length=szZ zs.length:=by unfold jI;rw[qGf,qKF]
def qGI (zs:List Int) (m:Int) (C:List Cl) (F:List Int):VM:={ jM zs m with lv:=[(C,F)] }
structure FullS (zs:List Int) (T c i:Nat):Prop where
  len:zs.length=T
  lo:32≤T
  hi:T≤256
  cls:1≤c∧c≤4
  nn:∀z∈zs,0≤z∧z<18446744073709551616
  head:xN zs c=0
  bump:xN zs 5=14+(i:Int)*(vT c+1)
  hdr:∀j,j<i→∀p:Nat,(p:Int)=14+(j:Int)*(vT c+1)→xN zs p=(c:Int)+8
end Go.Proofs.YtnalffoigcmnnabGreatDoor
namespace Go.Proofs.YtnalffoigcmnnabGreatDoor.arenaFull
open Go Go.Ae arenaPlays
set_option maxRecDepth 100000
variable {g h:AH} {L R:List SP}
end Go.Proofs.YtnalffoigcmnnabGreatDoor.arenaFull
namespace Go.Proofs.YtnalffoigcmnnabGreatDoor
open Go Go.Ae
theorem qq0 {l:List qR} {mt:List Int}:∀(n:Nat) {s:IM} {V:VM},(jg l mt n s V).kind≠4→(jg l mt n s V).err=0:=by
 intro n
 induction n with
 |zero=>
  intro s V;rw[gw]
  split
  ·intro _;rfl
  ·intro h;exact absurd rfl h
 |succ n ih=>
  intro s V;rw[gu];generalize doM mt s V (qP l s.pc)=D
  split
  ·intro _;rfl
  ·split
   ·split
    ·intro _;rfl
    ·exact ih
   ·split
    ·intro _;rfl
    ·intro h;exact absurd rfl h
structure RawM (S:xw) (M:jL) (k:Int):Prop where
  w:(M.w.length:Int)=S.words
  wd:∀z∈M.w,U64 z
  w0:M.w[0]? =some 0
  l:M.l=List.replicate S.stripes.toNat lk0
  n:M.n=S.start
  s:M.s=List.replicate S.threads.toNat 0
  cnt:0≤M.cnt∧M.cnt≤k
theorem qvM {S:xw} (O:gr S):RawM S (Xj S) 0:=by
 have h1:=O.words;refine⟨by show((List.replicate S.words.toNat (0:Int)).length:Int)=_;rw[List.length_replicate];omega,λz hz=>?_,?_,rfl,rfl,rfl,⟨Int.le_refl _,Int.le_refl _⟩⟩
 ·have:=List.eq_of_mem_replicate hz;subst this;exact⟨Int.le_refl _,by decide⟩
 ·show(List.replicate S.words.toNat (0:Int))[0]? =some 0;rw[List.getElem?_replicate,iJ omQ]
theorem qKS {S:xw} {M:jL} {k at_ w:Int} (Q:RawM S M k) (ha:1≤at_) (hw:U64 w):RawM S (jm M (op0 2 at_ w)).2 (k+1):=by
 have hc:=Md (M:=M) (o:=op0 2 at_ w);have hq:=Q.cnt;have e:(jm M (op0 2 at_ w)).2.w=(if at_<1∨(M.w.length:Int)≤at_ then M.w else M.w.set at_.toNat w)∧(jm M (op0 2 at_ w)).2.l=M.l∧(jm M (op0 2 at_ w)).2.n=M.n∧(jm M (op0 2 at_ w)).2.s=M.s:=by
  have eW:y9 M (op0 2 at_ w)=if at_<1∨(M.w.length:Int)≤at_ then(anE 2,M)else(an0,{ M with w:=M.w.set at_.toNat w }):=by show(if at_<1∨(M.w.length:Int)≤at_ then(anE 2,M)else if(2:Int)=1 then _ else _)=_;rfl
  rw[wS,eW];by_cases h:at_<1∨(M.w.length:Int)≤at_
  ·rw[iJ h,iJ h]
   split<;>exact⟨rfl,rfl,rfl,rfl⟩
  ·rw[iQ h,iQ h]
   split<;>exact⟨rfl,rfl,rfl,rfl⟩
 refine⟨?_,?_,?_,by rw[e.2.1];exact Q.l,by rw[e.2.2.1];exact Q.n,by rw[e.2.2.2];exact Q.s,by omega⟩
 ·rw[e.1]
  split
  ·exact Q.w
  ·rw[List.length_set];exact Q.w
 ·rw[e.1]
  split
  ·exact Q.wd
  ·exact OC Q.wd hw
 ·rw[e.1]
  split
  ·exact Q.w0
  ·rw[List.getElem?_set_ne omQ];exact Q.w0
theorem qY7 {S:xw} {M:jL} {k me:Int} (O:gr S) (Q:RawM S M k) (hs:S.start<4611686018427387902) (hm:0≤me∧me<S.threads):yw S M me:=by have h1:=O.stripes;have h2:=O.threads;have h3:=O.start;refine⟨Q.w,by rw[Q.l,List.length_replicate];omega,by rw[Q.s,List.length_replicate];omega,hm,λi hi=>?_,by rw[Q.n];omega,Q.wd⟩;rw[Q.l,List.length_replicate]at hi;refine⟨0,?_,Int.le_refl _,by rw[Q.n];omega⟩;unfold zq;rw[Q.l,Int.toNat_natCast,List.getElem?_replicate,iJ hi];rfl
theorem Yc {w:List Int} {cs:List Cl} (h0:w[0]? =some 0) (h1:32≤w.length) (h2:w.length≤256) (hc:∀c∈cs,1≤c.1∧c.1<w.length):jI w cs=JE w cs:=by
 have hb:U0 w=w:=by
  have hsz:szZ w.length=w.length:=by unfold szZ;omega
  apply List.ext_getElem?;intro i;unfold U0;rw[hsz,List.getElem?_map];by_cases hi:i<w.length
  ·rw[List.getElem?_range hi];show some (if i=0 then 0 else xN w i)=_
   split
   ·rename_i h;subst h;exact h0.symm
   ·unfold xN;rw[iW hi];rfl
  ·rw[List.getElem?_eq_none (by simp;omega),List.getElem?_eq_none omQ];rfl
 unfold jI JE;rw[hb];have:∀(cs:List Cl) (v:List Int),v.length=w.length→(∀c∈cs,1≤c.1∧c.1<w.length)→cs.foldl qVa v=cs.foldl (λw c=>w.set c.1.toNat c.2) v:=by
  intro cs
  induction cs with
  |nil=>intro v _ _;rfl
  |cons c r ih=>intro v hv h;have hc:=h c (iK ..);rw[List.foldl_cons,List.foldl_cons,qx2 omQ];exact ih _ (by rw[List.length_set];exact hv) λd hd=>h d (iX _ hd)
 exact this cs w rfl hc
end Go.Proofs.YtnalffoigcmnnabGreatDoor
namespace Go.Proofs.YtnalffoigcmnnabGreatDoor
open Go Go.Ae
set_option maxRecDepth 100000
def yH (n:Nat):Nat:=max 32 (min n 256)
def gt (zs:List Int):List Int:=(List.range (yH zs.length)).map λi=>if i=0 then 0 else zs[i]?.getD 0
def Jp (l:List Int) (c:Int×Int):List Int:=if 1≤c.1∧c.1<l.length then l.set c.1.toNat c.2 else l
def Gt (zs:List Int) (cs:List (Int×Int)):List Int:=cs.foldl Jp (gt zs)
theorem qjh (l:List Int) (c:Int×Int):(Jp l c).length=l.length:=by unfold Jp;split<;>simp
theorem MA (cs:List (Int×Int)):∀l:List Int,(cs.foldl Jp l).length=l.length:=by
 induction cs with
 |nil=>intro l;rfl
 |cons c cs ih=>intro l;rw[List.foldl_cons,ih,qjh]
theorem Ng (zs:List Int):(gt zs).length=yH zs.length:=by simp[gt]
theorem GK (n:Nat):32≤yH n∧yH n≤256:=by unfold yH;omega
theorem qx7 (zs:List Int):we (List.replicate (yH zs.length) (AV.int .u64 0)) 1 (((zs.map (AV.int .u64)).drop (min 1 zs.length)).take (min (zs.length-min 1 zs.length) (yH zs.length-1)*1))=(gt zs).map (AV.int .u64):=by
 have hb:=GK zs.length;have hl:(((zs.map (AV.int .u64)).drop (min 1 zs.length)).take (min (zs.length-min 1 zs.length) (yH zs.length-1)*1)).length=min (zs.length-min 1 zs.length) (yH zs.length-1):=by simp
 apply List.ext_getElem?;intro i;rw[OR (by rw[hl,List.length_replicate];omega),hl];by_cases hi:i<yH zs.length
 ·have hr:((gt zs).map (AV.int .u64))[i]? =some (AV.int .u64 (if i=0 then 0 else zs[i]?.getD 0)):=by
   simp[gt,List.getElem?_range hi]
  rw[hr]
  split
  ·rename_i h1;rw[iQ omQ,List.getElem?_take_of_lt omQ,List.getElem?_drop,show min 1 zs.length+(i-1)=i by omega,List.getElem?_map,iW omQ];rfl
  ·rename_i h1;rw[List.getElem?_replicate,iJ hi]
   congr 2
   by_cases h0:i=0
   ·rw[iJ h0]
   ·rw[iQ h0,List.getElem?_eq_none omQ];rfl
 ·rw[iQ omQ,List.getElem?_eq_none (by simp;omega),List.getElem?_eq_none (by simp[gt];omega)]
theorem qJt {D1 D2:Nat→Prop} {n p q:Nat} (hn:1≤n) {a0 a1:AV} {zs:List Int} {cs:List (Int×Int)} {h:AH} (S0:Sl D1 h 1 p a0 (zs.map (.int .u64))) 
  (hcut:∀(h':AH) (K:AV→Go.Ae.R) (Q:AV→AH→Prop),Old h.nx h h'→(∀v',Sl (λ_=>True) h' 1 (p-min 1 p) v' ((zs.map (AV.int .u64)).drop (min 1 p*1))→wp (K v') Q)→wp (xV h' 23 1 a0 (some (.int .i64 ((min 1 p:Nat):Int))) none K) Q)
  (S1:Sl D2 h 2 q a1 (cs.flatMap jA)) (hp:p<1000000000) (hq:q<1000000000) :
  t_w n 52 [a0,a1] h λv h'=>∃b e,v=.slice b 0 (yH p) (yH p) false∧h.nx≤b∧Row h' b ((Gt zs cs).map (.int .u64)) e false∧Old h.nx h h':=by
 have hzl:zs.length=p:=by simpa using S0.len
 have hcl:cs.length=q:=by have:=S1.len;rw[Jc (sz:=2) jA (λ_=>rfl)]at this;omega
 have hN:=GK p;refine t_e2 (S:=S52) rfl omQ λk hk=>?_;unfold S52;try simp only[iZ]
 refine xW S0 (zX (zC ?_));rw[show max ((32:Nat):Int) (min (p:Int) ((256:Nat):Int))=((yH p:Nat):Int) by unfold yH;omega];refine Ov (Nat.le_refl _) omQ λb h4 hb A F4=>?_;rw[UL]at A;refine UX (hi:=yH p) (lo:=1) rfl (xx omQ) ?_;rw[show Nat.beq (yH p) 1=false from xD omQ,cond_false];have S0':=S0.fr F4 (λ_ _ hf=>hf);have S1':=S1.fr F4 (λ_ _ hf=>hf);refine xW S0' (zX ?_);rw[show min ((1:Nat):Int) (p:Int)=((min 1 p:Nat):Int) by omega];refine hcut _ _ _ ((Old.refl h.nx h).step F4 (λ_ hf=>hf.elim)) λv8 S8=>?_;refine qvR S8 A (by simp;omega) omQ ?_ λh10 A10 F10 hx10=>?_
 ·unfold qm;rw[List.all_eq_true];intro v hv;have:=List.mem_of_mem_take hv;have:=List.mem_of_mem_drop this;obtain⟨z,_,rfl⟩:=List.mem_map.1 this;rfl
 have e10:=qx7 zs;rw[hzl]at e10;rw[show((0:Nat)+1*1)=1 from rfl,Nat.mul_one]at A10;rw[Nat.mul_one]at e10;obtain⟨e,A10⟩:∃e,Row h10 b ((gt zs).map (.int .u64)) e false:=⟨_,by rw[← e10];simpa using A10⟩;have O10:Old h.nx h h10:=((Old.refl h.nx h).step F4 (λ_ hf=>hf.elim)).step F10 (by rintro x rfl;exact hb);have O4:Old h.nx h h4:=(Old.refl h.nx h).step F4 (λ_ hf=>hf.elim);refine xW (S1.old O10) ?_;refine jN (λm s g=>∃i:Nat,s=(.int .i64 (i:Int),.int .i64 (q:Int),a1,.slice b 0 (yH p) (yH p) false,())∧i≤q∧m=q-i∧Row g b (((cs.take i).foldl Jp (gt zs)).map (.int .u64)) e false∧Old h.nx h g) ?_ (m:=q)
  (by show q<1000000000;omega) ⟨0,rfl,by omega,by omega,A10,O10⟩
 rintro m ih s g hih ⟨i,rfl,h1,rfl,A,O⟩;dsimp only;have S1g:=S1.old O;refine zy (λhlt=>qZ ?_) λhge=>qJ (qk (qj ?_))
 ·have hi:i<q:=by omega
  refine qV (zU (l:=jA cs[i]) S1g hi omQ ?_ ?_)
  ·rw[QT (sz:=2) jA (λ_=>rfl),List.drop_eq_getElem_cons omQ,List.flatMap_cons];rfl
  refine qW6 rfl λb2 h25 hb2 A2 F2=>?_;refine GM A2 rfl (by show 0+2≤2;omega) rfl λh26 A3 F3 hx3=>?_;obtain⟨e3,A3⟩:∃e3,Row h26 b2 [.int .i64 cs[i].1,.int .u64 cs[i].2] e3 false:=⟨_,A3⟩;have O26:Old h.nx h h26:=(O.step F2 (λ_ hf=>hf.elim)).step F3 (by rintro x rfl;exact Nat.le_trans O.nx hb2);have hbg:=A.lt;have A26:=(A.fr F2 (λhf=>hf)).fr F3 (λhf:b=b2=>by omega);have hlen:((cs.take i).foldl Jp (gt zs)).length=yH p:=by rw[MA,Ng,hzl]
  have next:∀g',Row g' b ((Jp ((cs.take i).foldl Jp (gt zs)) cs[i]).map (.int .u64)) e false→Old h.nx h g'→wp (ih (.int .i64 ((i:Int)+((1:Nat):Int)),.int .i64 (q:Int),a1,.slice b 0 (yH p) (yH p) false,()) g' []) λv h'=>∃b e,v=.slice b 0 (yH p) (yH p) false∧h.nx≤b∧Row h' b ((Gt zs cs).map (.int .u64)) e false∧Old h.nx h h':=λg' A' O'=>hih (q-(i+1)) _ _ omQ ⟨i+1,rfl,by omega,rfl,by rw[List.take_succ_eq_append_getElem omQ,List.foldl_append];exact A',O'⟩
  refine Oj A3 rfl (yY (λhc1=>?_) λhc1=>?_)
  ·repeat (first |with_reducible refine qZ ?_ |with_reducible refine qJ ?_ |(with_reducible refine qa ?_;try dsimp only) |(with_reducible refine qo ?_;try dsimp only) |(with_reducible refine qS ?_;try dsimp only) |(with_reducible refine qd ?_;try dsimp only) |(with_reducible refine jt ?_;try dsimp only) |with_reducible refine qF ?_ |with_reducible refine qI ?_ |(with_reducible refine qV ?_;try dsimp only) |with_reducible refine qk ?_ |with_reducible refine jX ?_ |with_reducible refine jV ?_ |with_reducible refine qc omQ ?_ |with_reducible refine zQ omQ ?_ |with_reducible refine xd omQ ?_ |with_reducible refine yK omQ ?_ |with_reducible refine zX ?_ |with_reducible refine zC ?_)
   refine Oj A3 rfl (qx6 (zy (λhc2=>?_) λhc2=>?_))
   ·repeat (first |with_reducible refine qZ ?_ |with_reducible refine qJ ?_ |(with_reducible refine qa ?_;try dsimp only) |(with_reducible refine qo ?_;try dsimp only) |(with_reducible refine qS ?_;try dsimp only) |(with_reducible refine qd ?_;try dsimp only) |(with_reducible refine jt ?_;try dsimp only) |with_reducible refine qF ?_ |with_reducible refine qI ?_ |(with_reducible refine qV ?_;try dsimp only) |with_reducible refine qk ?_ |with_reducible refine jX ?_ |with_reducible refine jV ?_ |with_reducible refine qc omQ ?_ |with_reducible refine zQ omQ ?_ |with_reducible refine xd omQ ?_ |with_reducible refine yK omQ ?_ |with_reducible refine zX ?_ |with_reducible refine zC ?_)
    refine Oj A3 rfl (Oj A3 rfl ?_);obtain⟨j,hj⟩:∃j:Nat,cs[i].1=(j:Int):=⟨cs[i].1.toNat,by omega⟩;rw[hj];refine qvf A26 rfl rfl omQ (by simp[hlen];omega) λh39 A39 F39 hx39=>?_
    repeat (first |with_reducible refine qZ ?_ |with_reducible refine qJ ?_ |(with_reducible refine qa ?_;try dsimp only) |(with_reducible refine qo ?_;try dsimp only) |(with_reducible refine qS ?_;try dsimp only) |(with_reducible refine qd ?_;try dsimp only) |(with_reducible refine jt ?_;try dsimp only) |with_reducible refine qF ?_ |with_reducible refine qI ?_ |(with_reducible refine qV ?_;try dsimp only) |with_reducible refine qk ?_ |with_reducible refine jX ?_ |with_reducible refine jV ?_ |with_reducible refine qc omQ ?_ |with_reducible refine zQ omQ ?_ |with_reducible refine xd omQ ?_ |with_reducible refine yK omQ ?_ |with_reducible refine zX ?_ |with_reducible refine zC ?_)
    refine next h39 ?_ (O26.step F39 (by rintro x rfl;exact hb));rw[show Jp ((cs.take i).foldl Jp (gt zs)) cs[i]=((cs.take i).foldl Jp (gt zs)).set j cs[i].2 from(iJ (by rw[hlen];omega)).trans (by rw[show cs[i].1.toNat=j by omega]),List.map_set];simpa using A39
   ·repeat (first |with_reducible refine qZ ?_ |with_reducible refine qJ ?_ |(with_reducible refine qa ?_;try dsimp only) |(with_reducible refine qo ?_;try dsimp only) |(with_reducible refine qS ?_;try dsimp only) |(with_reducible refine qd ?_;try dsimp only) |(with_reducible refine jt ?_;try dsimp only) |with_reducible refine qF ?_ |with_reducible refine qI ?_ |(with_reducible refine qV ?_;try dsimp only) |with_reducible refine qk ?_ |with_reducible refine jX ?_ |with_reducible refine jV ?_ |with_reducible refine qc omQ ?_ |with_reducible refine zQ omQ ?_ |with_reducible refine xd omQ ?_ |with_reducible refine yK omQ ?_ |with_reducible refine zX ?_ |with_reducible refine zC ?_)
    refine next h26 ?_ O26;rw[show Jp ((cs.take i).foldl Jp (gt zs)) cs[i]=(cs.take i).foldl Jp (gt zs)from iQ (by rw[hlen];omega)];exact A26
  ·repeat (first |with_reducible refine qZ ?_ |with_reducible refine qJ ?_ |(with_reducible refine qa ?_;try dsimp only) |(with_reducible refine qo ?_;try dsimp only) |(with_reducible refine qS ?_;try dsimp only) |(with_reducible refine qd ?_;try dsimp only) |(with_reducible refine jt ?_;try dsimp only) |with_reducible refine qF ?_ |with_reducible refine qI ?_ |(with_reducible refine qV ?_;try dsimp only) |with_reducible refine qk ?_ |with_reducible refine jX ?_ |with_reducible refine jV ?_ |with_reducible refine qc omQ ?_ |with_reducible refine zQ omQ ?_ |with_reducible refine xd omQ ?_ |with_reducible refine yK omQ ?_ |with_reducible refine zX ?_ |with_reducible refine zC ?_)
   refine next h26 ?_ O26;rw[show Jp ((cs.take i).foldl Jp (gt zs)) cs[i]=(cs.take i).foldl Jp (gt zs)from iQ (by rw[hlen];omega)];exact A26
 ·refine⟨b,e,rfl,hb,?_,O⟩;rw[List.take_of_length_le omQ]at A;exact A
theorem qKf (zs:List Int) (cs:List Cl):Gt zs cs=jI zs cs:=by
 have e1:∀n:Nat,szZ (n:Int)=yH n:=by intro n;unfold szZ yH;omega
 have e2:gt zs=U0 zs:=by unfold gt U0;rw[e1];rfl
 unfold Gt jI;rw[e2];rfl
abbrev Z2 (g:AH) (R:List SP) (a0:AV) (zs:List Int):Prop:=∀(h':AH) (K:AV→Go.Ae.R) (Q:AV→AH→Prop),HS g h' R→(∀v',Sl (λ_=>True) h' 1 (zs.length-min 1 zs.length) v' ((zs.map (AV.int .u64)).drop (min 1 zs.length*1))→wp (K v') Q)→
 wp (xV h' 23 1 a0 (some (.int .i64 ((min 1 zs.length:Nat):Int))) none K) Q
theorem ZH {g:AH} {R:List SP} {a0:AV} {zs:List Int} (S:Rd g R 1 zs.length a0 (zs.map (.int .u64))) (hs:shut a0=true) (hr:Vb a0):Z2 g R a0 zs :=
 λ_ _ _ H w=>qXI (S.sl H) hs hr omQ λv' S' _ _=>w v' S'
theorem qk6 {g:AH} {R R2:List SP} {a0:AV} {zs:List Int} (s:Sel R (qy 23 1 zs.length a0 (zs.map (.int .u64))) R2) (h0:0<zs.length):Z2 g R a0 zs :=
 λ_ _ _ H w=>qWM (H.sel s) omQ omQ h0 λv' S'=>w v' S'
theorem vM {g:AH} {R:List SP} {P:SP} {a0:AV} {zs:List Int} (c:Z2 g R a0 zs):Z2 g (P::R) a0 zs:=λh' K Q H w=>c h' K Q H.drop w
theorem Yz {g h:AH} {R:List SP} {n:Nat} (hn:1≤n) {zs:List Int} {cs:List Cl} {a0 c:AV} (H:HS g h R) (S:Rd g R 1 zs.length a0 (zs.map (.int .u64))) (hcut:Z2 g R a0 zs) (S1:Rd g R 2 cs.length c (cs.flatMap jA)) (hz:zs.length<100000) (hc:cs.length<100000) :
  t_w n 52 [a0,c] h λr h'=>∃e,(shut r=true∧Vb r)∧HS g h' (qy e 1 (jI zs cs).length r ((jI zs cs).map (.int .u64))::R):=by
 obtain⟨v,h',er,b,e,rfl,hb,A,O⟩:=qJt hn (S.sl H) (λh' K Q O w=>hcut h' K Q (H.keep O) w) (S1.sl H) omQ omQ;have hl:(Gt zs cs).length=yH zs.length:=by unfold Gt;rw[MA,Ng]
 refine⟨_,h',er,e,⟨rfl,Nat.le_refl _⟩,?_⟩;rw[← qKf];refine H.add (D':=λa=>a=b) O ⟨by simp,.inr ⟨b,yH zs.length,false,_,by rw[hl],λa=>Iff.rfl,A,by simp,by rw[List.take_of_length_le osQ],?_⟩⟩ ?_
 ·rw[iQ osQ];exact⟨by simp[hl],by omega⟩
 ·rintro a rfl;exact⟨hb,A.lt⟩
end Go.Proofs.YtnalffoigcmnnabGreatDoor
