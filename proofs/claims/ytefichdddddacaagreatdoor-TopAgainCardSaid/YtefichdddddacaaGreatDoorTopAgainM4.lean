/- Lemmas for 'quietus/quietustop.TopAgain': Threads: plain: what a step keeps;A run on a view that knows less: it asks for a word, or does the same. Plain;An attempt alone on a memory: plain: its ... No condition. -/
import Derived.Test.YtefichdddddacaaGreatDoorTopAgainM3
import Derived.Test.YtefichdddddacaaGreatDoorTopAgainM2
import Derived.Test.YtefichdddddacaaGreatDoorTopAgainM1
import Derived.KernelRfl
namespace Go.Proofs.YtefichdddddacaaGreatDoor
open Go Go.Ae
set_option maxRecDepth 100000
section
def Cv:JX→Bool
 | .prog _=>false
 | .ao _ _=>true
structure gr (x y:q8):Prop where
  me:y.me=x.me
  set:y.set=x.set
  sw:Cv y.ax=Cv x.ax
theorem gr.refl (x:q8):gr x x:=⟨rfl,rfl,rfl⟩
theorem gr.trans {x y z:q8} (a:gr x y) (b:gr y z):gr x z:=⟨b.me.trans a.me,b.set.trans a.set,b.sw.trans a.sw⟩
theorem qJH (x:q8):gr x (yB x).2:=by
 unfold yB;cases hx:x.ax with
 |prog q=>exact⟨rfl,rfl,by rw[hx];rfl⟩
 |ao bs k=>exact⟨rfl,rfl,by rw[hx];rfl⟩
theorem NE (x:q8) (k e:Int):gr x (vD x k e):=by
 unfold vD
 repeat' split
 all_goals exact⟨rfl,rfl,rfl⟩
theorem Y9 (x:q8):gr x (xT x):=(qJH x).trans (NE ..)
theorem KG (x:q8):gr x (x6 x):=by
 unfold x6
 split
 ·exact⟨rfl,rfl,rfl⟩
 ·split
  ·exact(gr.trans (y:={ x with r:=(wU x.r (ya x.f)).2,v:=(zu x.v x.v.aK (x9 x.f)).2 }) ⟨rfl,rfl,rfl⟩ (Y9 _))
  ·split<;>exact⟨rfl,rfl,rfl⟩
theorem Q4 (x:q8):gr x (xH x):=by
 have hs:∀y:q8,gr y (zo y):=λy=>by
  unfold zo
  repeat' split
  all_goals exact⟨rfl,rfl,rfl⟩
 unfold xH;refine gr.trans ?_ (hs _)
 split
 ·exact .refl x
 ·split
  ·exact⟨rfl,rfl,rfl⟩
  ·unfold xm
   split
   ·exact KG x
   ·repeat' split
    all_goals exact⟨rfl,rfl,rfl⟩
theorem YO (x:q8) (a:cO):gr x (jS x a):=by
 unfold jS
 split
 ·exact .refl x
 ·split
  ·exact⟨rfl,rfl,rfl⟩
  ·split
   ·exact⟨rfl,rfl,rfl⟩
   ·split
    ·exact⟨rfl,rfl,rfl⟩
    ·split
     ·exact Y9 x
     ·split
      ·exact⟨rfl,rfl,rfl⟩
      ·split
       ·exact gr.trans (y:={ x with f:=xC x.f a }) ⟨rfl,rfl,rfl⟩ (Q4 _)
       ·split
        ·exact gr.trans (y:={ x with c:=x.c.map λc=>zj c a }) ⟨rfl,rfl,rfl⟩ (Q4 _)
        ·exact gr.trans (y:={ x with e:=xU x.e a }) ⟨rfl,rfl,rfl⟩ (Q4 _)
structure ThrB (t:qr):Prop where
  set:yY t.set
  me:0≤t.me∧t.me<t.set.aa
  jobs:∀l∈t.jobs,(zf l).2=0∧Quiet l
  jl:t.jobs.length≤6
  ax:0≤t.ax∧t.ax≤t.jobs.length
  ad:t.ad.length+t.ag.length≤9000*t.results.length
  ab:t.ab.length≤6
  ah:0≤t.ah∧t.ah≤t.aw.length
  aF:0≤t.aF∧t.aF≤t.ah
  mj:t.ao=false→t.ag=[]
structure w5 (t:qr):Prop extends ThrB t where
  now:∀x,t.now=some x→zE x∧x.me=t.me∧x.set=t.set∧Cv x.ax=t.ao
  lt:t.ax<t.jobs.length
  some:t.now≠none
structure xn (t:qr):Prop where
  st:1≤t.state∧t.state≤6
  b:ThrB t
  c:t.state≠6→w5 t
  fin:t.state=6→t.ax=t.jobs.length∧t.now=none
  fz:(t.results.length:Int)≤t.ax+(if t.state≠6∧(t.ao=true∨t.state=5)then 1 else 0)
  Hu:t.state=5→(t.ab.length:Int)<t.set.aa∧(t.ab.length:Int)≠t.me
  Hv:t.state=3→0<t.bA∧t.bA≤8
  Rg:t.state=2→0≤t.dB∧t.dB<t.set.aa
  DX:t.state=5→t.ao=false
variable {t:qr}
theorem ThrB.len (B:ThrB t) (h:(t.results.length:Int)≤t.ax+1):t.ad.length+t.ag.length≤63000:=by have h1:=B.jl;have h2:=B.ax;have h3:=B.ad;omega
theorem wK (B:ThrB t) (hr:(t.results.length:Int)≤t.ax+(if t.ao=true∧t.ax≠t.jobs.length then 1 else 0)):xn (zB t):=by
 have hlen:=B.len (by split at hr<;>omega);have hs:=B.set.start.1;have ix:=kL B.set;unfold zB
 split
 ·rename_i hj;refine⟨by show(1:Int)≤6∧(6:Int)≤6;decide,⟨B.set,B.me,B.jobs,B.jl,B.ax,B.ad,B.ab,B.ah,B.aF,B.mj⟩,λh=>absurd rfl h,λ_=>⟨hj,rfl⟩,?_,λh=>(by cases h),λh=>(by cases h),λh=>(by cases h),λh=>by cases h⟩;rw[iQ (λh=>h.2 hj)]at hr;show(t.results.length:Int)≤t.ax+(if(6:Int)≠6∧_ then 1 else 0);rw[iQ (λh=>h.1 rfl)];exact hr
 ·rename_i hj;have B':ThrB { t with born:=0,cP:=false,state:=1,now:=some (if t.ao=true then gZ t.me t.set (t.ag.map (·.1))else y5 t.me t.set ((t.jobs[t.ax.toNat]?).getD [])) }:=⟨B.set,B.me,B.jobs,B.jl,B.ax,B.ad,B.ab,B.ah,B.aF,B.mj⟩;refine⟨by show(1:Int)≤1∧(1:Int)≤6;decide,B',λ_=>⟨B',λx hx=>?_,by have:=B.ax;show t.ax<(t.jobs.length:Int);omega,λh=>by cases h⟩,λh=>(by cases h),?_,λh=>(by cases h),λh=>(by cases h),λh=>(by cases h),λh=>by cases h⟩
  ·cases hx
   split
   ·rename_i dM;exact⟨Zv hs (by rw[List.length_map];omega),rfl,ix,dM.symm⟩
   ·rename_i dM;have au:t.ax.toNat<t.jobs.length:=by have:=B.ax;omega
    rw[iW au];have:=B.jobs _ (List.getElem_mem au);exact⟨UP hs this.1 this.2,rfl,ix,by simp only[Bool.not_eq_true]at dM;exact dM.symm⟩
  ·show(t.results.length:Int)≤t.ax+(if(1:Int)≠6∧(t.ao=true∨(1:Int)=5)then 1 else 0);by_cases dM:t.ao=true
   ·rw[iJ ⟨by decide,.inl dM⟩];rw[iJ ⟨dM,hj⟩]at hr;exact hr
   ·rw[iQ (λh=>dM h.1)]at hr;rw[iQ (λh=>by rcases h.2 with h |h;exact dM h;cases h)];exact hr
theorem kS (B:ThrB { t with ax:=t.ax+1,ao:=false,ag:=[],ah:=0,aF:=0 }) (hr:(t.results.length:Int)≤t.ax+1):xn (jr t):=by unfold jr;refine wK B ?_;show(t.results.length:Int)≤t.ax+1+(if false=true∧_ then 1 else 0);rw[iQ (λh=>by cases h.1)];omega
theorem ko (B:ThrB t) (hj:t.ax<t.jobs.length) (hr:(t.results.length:Int)≤t.ax+1):xn (jr t):=by have:=B.ax;have:=B.ah;refine kS ⟨B.set,B.me,B.jobs,B.jl,by show 0≤t.ax+1∧t.ax+1≤(t.jobs.length:Int);omega,?_,B.ab,by show(0:Int)≤0∧(0:Int)≤(List.length _:Int);omega,by show(0:Int)≤0∧(0:Int)≤0;decide,λ_=>rfl⟩ hr;have:=B.ad;show t.ad.length+0≤9000*t.results.length;omega
theorem Nh (c:Int):1≤vW c∧vW c≤8:=by
 unfold vW
 repeat' split
 all_goals omega
theorem w5.go (C:w5 t) {u:qr} (h1:u.set=t.set) (h2:u.me=t.me) (h3:u.jobs=t.jobs) (h4:u.ax=t.ax) (h5:u.ad=t.ad) (h6:u.ag=t.ag) (h7:u.results=t.results) (h8:u.ab.length≤6) (h9:0≤u.ah∧u.ah≤u.aw.length) (dR:0≤u.aF∧u.aF≤u.ah) (cD:u.now=t.now) (la:u.ao=t.ao):w5 u:=by have B:=C.toThrB;refine⟨⟨by rw[h1];exact B.set,by rw[h1,h2];exact B.me,by rw[h3];exact B.jobs,by rw[h3];exact B.jl,by rw[h3,h4];exact B.ax,by rw[h5,h6,h7];exact B.ad,h8,h9,dR,by rw[la,h6];exact B.mj⟩,by rw[cD,h1,h2,la];exact C.now,by rw[h3,h4];exact C.lt,by rw[cD];exact C.some⟩
theorem U5 (C:w5 t) {draw:Int} (_:0≤draw) (hr:(t.results.length:Int)≤t.ax+(if t.ao=true then 1 else 0)):xn (xl t draw):=by
 have hm:=Nh t.aF;have au:=C.lt;unfold xl
 split
 ·refine wK (C.go (u:={ t with bA:=0,state:=3 }) rfl rfl rfl rfl rfl rfl rfl C.ab C.ah C.aF rfl rfl).toThrB ?_;show(t.results.length:Int)≤t.ax+(if t.ao=true∧t.ax≠t.jobs.length then 1 else 0);by_cases hs:t.ao=true
  ·rw[iJ ⟨hs,by omega⟩];rw[iJ hs]at hr;exact hr
  ·rw[iQ (λh=>hs h.1)];rw[iQ hs]at hr;exact hr
 ·rename_i hn;have C':w5 { t with bA:=draw%(vW t.aF+1),state:=3 }:=C.go rfl rfl rfl rfl rfl rfl rfl C.ab C.ah C.aF rfl rfl;have h1:=Int.emod_nonneg draw (show vW t.aF+1≠0 by omega);have h2:=Int.emod_lt_of_pos draw (show 0<vW t.aF+1 by omega);refine⟨by show(1:Int)≤3∧(3:Int)≤6;decide,C'.toThrB,λ_=>C',λh=>(by cases h),?_,λh=>(by cases h),λ_=>⟨by show 0<draw%(vW t.aF+1);omega,by show draw%(vW t.aF+1)≤8;omega⟩,λh=>(by cases h),λh=>by cases h⟩;show(t.results.length:Int)≤t.ax+(if(3:Int)≠6∧(t.ao=true∨(3:Int)=5)then 1 else 0);by_cases hs:t.ao=true
  ·rw[iJ ⟨by decide,.inl hs⟩];rw[iJ hs]at hr;exact hr
  ·rw[iQ (λh=>by rcases h.2 with h |h;exact hs h;cases h)];rw[iQ hs]at hr;exact hr
theorem Zc {α:Type} (p:α→Bool) (l:List α):(l.filter p).length+(l.filter λx=>!p x).length=l.length:=by
 induction l with
 |nil=>rfl
 |cons x r ih=>rw[List.filter_cons,List.filter_cons];cases p x<;>simp<;>omega
theorem Ml (C:w5 t) (hr:(t.results.length:Int)≤t.ax+1) (h5:t.state=5) (hl:(t.ab.length:Int)≤t.set.aa) (dM:t.ao=false):xn (xi t):=by
 have h4:=C.set.aa;have au:=C.lt;have hg:=C.mj dM;have pE:=C.ad;rw[hg]at pE;unfold xi;have key:∀u:qr,u={ t with ab:=u.ab }→(u.ab.length:Int)≤5→(u.ab.length:Int)≠t.me→xn (xz u):=by
  intro u hu rZ r5;have C':w5 u:=by rw[hu];exact C.go rfl rfl rfl rfl rfl rfl rfl (by show u.ab.length≤6;omega) C.ah C.aF rfl rfl
  have Cw:(u.ab.length:Nat)≤6:=by omega
  unfold xz;have e1:u.set=t.set:=by rw[hu]
  have e2:u.ad=t.ad:=by rw[hu]
  have e3:u.results=t.results:=by rw[hu]
  have e4:u.ax=t.ax:=by rw[hu]
  have e5:u.state=5:=by rw[hu];exact h5
  have e6:u.me=t.me:=by rw[hu]
  have e7:u.jobs=t.jobs:=by rw[hu]
  have e8:u.ag=[]:=by rw[hu];exact hg
  have hf:=Zc (λr:YN=>q9 u.ab r.2) u.ad
  split
  ·rename_i h;refine⟨by omega,C'.toThrB,λ_=>C',λh=>by omega,?_,λ_=>⟨h,by rw[e6];exact r5⟩,λh=>by omega,λh=>by omega,λ_=>by rw[hu];exact dM⟩;rw[iJ ⟨by omega,.inr e5⟩,e3,e4];exact hr
  ·split
   ·refine ko (t:={ u with ad:=u.ad.filter λr=>!q9 u.ab r.2 }) ⟨C'.set,C'.me,C'.jobs,C'.jl,C'.ax,?_,Cw,C'.ah,C'.aF,C'.mj⟩ C'.lt (by show(u.results.length:Int)≤u.ax+1;rw[e3,e4];exact hr);show(u.ad.filter λr=>!q9 u.ab r.2).length+u.ag.length≤9000*u.results.length;rw[e8,e3];rw[e2]at hf ⊢;simp at pE ⊢;omega
   ·refine wK (t:={ u with ad:=u.ad.filter (λr=>!q9 u.ab r.2),ao:=true,ag:=u.ad.filter (λr=>q9 u.ab r.2),ah:=0,aF:=0 }) ⟨C'.set,C'.me,C'.jobs,C'.jl,C'.ax,?_,Cw,by show(0:Int)≤0∧(0:Int)≤(List.length _:Int);omega,by show(0:Int)≤0∧(0:Int)≤0;decide,λh=>by cases h⟩ ?_
    ·show(u.ad.filter λr=>!q9 u.ab r.2).length+(u.ad.filter λr=>q9 u.ab r.2).length≤9000*u.results.length;rw[e3];rw[e2]at hf ⊢;simp at pE;omega
    ·show(u.results.length:Int)≤u.ax+(if true=true∧u.ax≠u.jobs.length then 1 else 0);rw[iJ ⟨rfl,by rw[e4,e7];omega⟩,e3,e4];exact hr
 split
 ·rename_i h;refine key _ rfl ?_ ?_
  ·show((t.ab++[(0:Int)]).length:Int)≤5;rw[List.length_append,List.length_singleton];omega
  ·show((t.ab++[(0:Int)]).length:Int)≠t.me;rw[List.length_append,List.length_singleton];omega
 ·rename_i h;exact key t rfl omQ h
theorem qX3 (lv:List bz):(vK lv).length≤bD lv:=by unfold vK bD;rw[List.length_flatMap,List.map_reverse,List.sum_reverse];exact Nat.le_refl _
theorem JY {x:q8} (O:zE x) (hp:Cv x.ax=false):(zZ x).length≤9000:=by
 unfold zZ
 split
 ·cases hj:x.ax with
  |prog q=>dsimp only;have h1:=O.fr;have h2:=qX3 x.v.lv;omega
  |ao bs k=>rw[hj]at hp;cases hp
 ·simp
theorem qJ5 (C:w5 t) {x:q8} (hx:t.now=some x) (_:t.state=1) {draw pick:Int} (hd:0≤draw) (hr:(t.results.length:Int)≤t.ax+(if t.ao=true then 1 else 0)):xn (xX t x draw pick):=by
 have ht:=C.ah;have hc:=C.aF;have au:=C.lt;have hlen:(t.aw++[jH t x pick]).length=t.aw.length+1:=by simp
 have DY:(t.results.length:Int)≤t.ax+1:=by split at hr<;>omega
 have Rh:∀s:Int,s≠6→(t.results.length:Int)≤t.ax+(if s≠6∧(t.ao=true∨s=5)then 1 else 0):=λs h6=>by
  by_cases hs:t.ao=true
  ·rw[iJ ⟨h6,.inl hs⟩];rw[iJ hs]at hr;exact hr
  ·rw[iQ hs]at hr;split<;>omega
 unfold xX;dsimp only
 split
 ·split
  ·rename_i hb;have C':w5 { t with aw:=t.aw++[jH t x pick],ah:=t.ah+1,aF:=t.aF+1,state:=2,dB:=ku x,bj:=false } :=
    C.go rfl rfl rfl rfl rfl rfl rfl C.ab (by show 0≤t.ah+1∧t.ah+1≤((t.aw++[jH t x pick]).length:Int);omega) (by show 0≤t.aF+1∧t.aF+1≤t.ah+1;omega) rfl rfl
   exact⟨by show(1:Int)≤2∧(2:Int)≤6;decide,C'.toThrB,λ_=>C',λh=>(by cases h),Rh 2 od,λh=>(by cases h),λh=>(by cases h),λ_=>hb,λh=>by cases h⟩
  ·exact U5 (t:={ t with aw:=t.aw++[jH t x pick],ah:=t.ah+1,aF:=t.aF+1 }) (C.go rfl rfl rfl rfl rfl rfl rfl C.ab (by show 0≤t.ah+1∧t.ah+1≤((t.aw++[jH t x pick]).length:Int);omega) (by show 0≤t.aF+1∧t.aF+1≤t.ah+1;omega) rfl rfl) hd hr
 ·have C':∀s:Int,w5 { t with aw:=t.aw++[jH t x pick],ah:=t.ah+1,state:=s }:=λs=>
   C.go rfl rfl rfl rfl rfl rfl rfl C.ab (by show 0≤t.ah+1∧t.ah+1≤((t.aw++[jH t x pick]).length:Int);omega) (by show 0≤t.aF∧t.aF≤t.ah+1;omega) rfl rfl
  have CB:=(C' t.state).toThrB
  split
  ·split
   ·refine wK (t:={ t with aw:=t.aw++[jH t x pick],ah:=t.ah+1 }) CB ?_;show(t.results.length:Int)≤t.ax+(if t.ao=true∧t.ax≠t.jobs.length then 1 else 0);by_cases hs:t.ao=true
    ·rw[iJ ⟨hs,by omega⟩];rw[iJ hs]at hr;exact hr
    ·rw[iQ (λh=>hs h.1)];rw[iQ hs]at hr;exact hr
   ·exact⟨by show(1:Int)≤4∧(4:Int)≤6;decide,(C' 4).toThrB,λ_=>C' 4,λh=>(by cases h),Rh 4 od,λh=>(by cases h),λh=>(by cases h),λh=>(by cases h),λh=>by cases h⟩
  ·split
   ·rename_i dM;unfold gE
    split
    ·refine kS (t:={ t with aw:=t.aw++[jH t x pick],ah:=t.ah+1,ad:=t.ad++t.ag }) ⟨C.set,C.me,C.jobs,C.jl,by have:=C.ax;show 0≤t.ax+1∧t.ax+1≤(t.jobs.length:Int);omega,?_,C.ab,by show(0:Int)≤0∧(0:Int)≤(List.length _:Int);omega,by show(0:Int)≤0∧(0:Int)≤0;decide,λ_=>rfl⟩ DY;have:=C.ad;show(t.ad++t.ag).length+0≤9000*t.results.length;rw[List.length_append];omega
    ·exact ko (t:={ t with aw:=t.aw++[jH t x pick],ah:=t.ah+1 }) CB au DY
   ·rename_i dM;have dM:t.ao=false:=by simpa using dM
    have hn:=C.now x hx;have DM:=JY hn.1 (hn.2.2.2.trans dM);rw[dM,iQ aN]at hr;have tX:=C.mj dM;have pE:=C.ad;rw[tX]at pE;unfold vE;have e1:(t.results++[(⟨jT x,xF x,zg x,x.aj⟩:GS)]).length=t.results.length+1:=by simp
    have e2:(t.ad++(zZ x).map λb=>(b,x.aj)).length=t.ad.length+(zZ x).length:=by simp
    have B2:ThrB { t with aw:=t.aw++[jH t x pick],ah:=t.ah+1,results:=t.results++[⟨jT x,xF x,zg x,x.aj⟩],ad:=t.ad++(zZ x).map λb=>(b,x.aj) } :=
     ⟨C.set,C.me,C.jobs,C.jl,C.ax,by show(t.ad++(zZ x).map λb=>(b,x.aj)).length+t.ag.length≤9000*(t.results++[(⟨jT x,xF x,zg x,x.aj⟩:GS)]).length;rw[e1,e2,tX];rw[List.length_nil]at pE ⊢;omega,
      C.ab,by show 0≤t.ah+1∧t.ah+1≤((t.aw++[jH t x pick]).length:Int);omega,by show 0≤t.aF∧t.aF≤t.ah+1;omega,C.mj⟩
    dsimp only
    split
    ·exact ko B2 au (by show((t.results++[(⟨jT x,xF x,zg x,x.aj⟩:GS)]).length:Int)≤t.ax+1;omega)
    ·refine Ml (t:={ t with aw:=t.aw++[jH t x pick],ah:=t.ah+1,results:=t.results++[⟨jT x,xF x,zg x,x.aj⟩],ad:=t.ad++(zZ x).map λb=>(b,x.aj),state:=5,ab:=[] })
      ⟨⟨B2.set,B2.me,B2.jobs,B2.jl,B2.ax,B2.ad,Nat.zero_le _,B2.ah,B2.aF,B2.mj⟩,C.now,C.lt,C.some⟩ (by show((t.results++[(⟨jT x,xF x,zg x,x.aj⟩:GS)]).length:Int)≤t.ax+1;omega) rfl (by have:=C.set.aa;show(0:Int)≤t.set.aa;omega) dM
theorem MD (O:xn t) {a:cO} (ha:J1 a) {draw pick:Int} (hd:0≤draw):xn (zO t a draw pick):=by
 have bL:=O.fz;unfold zO
 split
 ·rename_i h1;have C:=O.c omQ;cases hn:t.now with
  |none=>exact O
  |some x=>
   dsimp only;have hx:=C.now x hn;have hS:=YO x a;have hr:(t.results.length:Int)≤t.ax+(if t.ao=true then 1 else 0):=by
    by_cases hs:t.ao=true
    ·rw[iJ ⟨by omega,.inl hs⟩]at bL;rw[iJ hs];exact bL
    ·rw[iQ (λh=>by rcases h.2 with h |h;exact hs h;omega)]at bL;rw[iQ hs];exact bL
   unfold kZ;dsimp only
   have C':∀b:Int,w5 { t with now:=some (jS x a),born:=b }:=λb=>⟨⟨C.set,C.me,C.jobs,C.jl,C.ax,C.ad,C.ab,C.ah,C.aF,C.mj⟩,λy hy=>by
    cases hy
    exact⟨XO hx.1 ha,hS.me.trans hx.2.1,hS.set.trans hx.2.2.1,hS.sw.trans hx.2.2.2⟩,C.lt,λh=>by cases h⟩
   split
   ·exact⟨O.st,(C' _).toThrB,λ_=>C' _,λh=>absurd h (by show¬t.state=6;omega),O.fz,λh=>absurd h (by show¬t.state=5;omega),λh=>absurd h (by show¬t.state=3;omega),λh=>absurd h (by show¬t.state=2;omega),λh=>absurd h (by show¬t.state=5;omega)⟩
   ·exact qJ5 (t:={ t with now:=some (jS x a),born:=if(jS x a).begun=true∧x.begun=false then pick else t.born }) (C' _) rfl h1 hd hr
 ·split
  ·rename_i h2;have C:=O.c omQ
   split
   ·have C':w5 { t with bj:=true,since:=a.word }:=C.go rfl rfl rfl rfl rfl rfl rfl C.ab C.ah C.aF rfl rfl;exact⟨O.st,C'.toThrB,λ_=>C',λh=>absurd h (by show¬t.state=6;omega),O.fz,λh=>absurd h (by show¬t.state=5;omega),λh=>absurd h (by show¬t.state=3;omega),O.Rg,λh=>absurd h (by show¬t.state=5;omega)⟩
   ·refine U5 C hd ?_;by_cases hs:t.ao=true
    ·rw[iJ ⟨by omega,.inl hs⟩]at bL;rw[iJ hs];exact bL
    ·rw[iQ (λh=>by rcases h.2 with h |h;exact hs h;omega)]at bL;rw[iQ hs];exact bL
  ·split
   ·rename_i DZ;have C:=O.c omQ;have iP:=O.Hu DZ;rw[iJ ⟨by omega,.inr DZ⟩]at bL;have h4:=C.set.aa;have e:(t.ab++[if a.err≠0 then 0 else a.word]).length=t.ab.length+1:=by simp
    refine Ml (t:={ t with ab:=t.ab++[if a.err≠0 then 0 else a.word] }) (C.go rfl rfl rfl rfl rfl rfl rfl (by show(t.ab++[if a.err≠0 then 0 else a.word]).length≤6;omega) C.ah C.aF rfl rfl) bL DZ ?_ (O.DX DZ);show((t.ab++[if a.err≠0 then 0 else a.word]).length:Int)≤t.set.aa;omega
   ·exact O
theorem Zd (O:xn t):xn (yL t):=by
 have bL:=O.fz;unfold yL
 split
 ·rename_i h3;have C:=O.c omQ;have hp:=O.Hv h3
  split
  ·refine wK (t:={ t with bA:=0 }) (C.go (u:={ t with bA:=0 }) rfl rfl rfl rfl rfl rfl rfl C.ab C.ah C.aF rfl rfl).toThrB ?_;have au:=C.lt;show(t.results.length:Int)≤t.ax+(if t.ao=true∧t.ax≠t.jobs.length then 1 else 0);by_cases hs:t.ao=true
   ·rw[iJ ⟨hs,by omega⟩];rw[iJ ⟨by omega,.inl hs⟩]at bL;exact bL
   ·rw[iQ (λh=>hs h.1)];rw[iQ (λh=>by rcases h.2 with h |h;exact hs h;omega)]at bL;exact bL
  ·have C':w5 { t with bA:=t.bA-1 }:=C.go rfl rfl rfl rfl rfl rfl rfl C.ab C.ah C.aF rfl rfl;exact⟨O.st,C'.toThrB,λ_=>C',λh=>absurd h (by show¬t.state=6;omega),O.fz,λh=>absurd h (by show¬t.state=5;omega),λ_=>(by show 0<t.bA-1∧t.bA-1≤8;omega),λh=>absurd h (by show¬t.state=2;omega),λh=>absurd h (by show¬t.state=5;omega)⟩
 ·exact O
theorem qV8 (O:xn t) {s v:Int}:xn (yJ t s v):=by
 have bL:=O.fz;unfold yJ
 split
 ·exact O
 ·split
  ·split
   ·rename_i h4;have C:=O.c omQ;refine wK C.toThrB ?_;have au:=C.lt;by_cases hs:t.ao=true
    ·rw[iJ ⟨hs,by omega⟩];rw[iJ ⟨by omega,.inl hs⟩]at bL;exact bL
    ·rw[iQ (λh=>hs h.1)];rw[iQ (λh=>by rcases h.2 with h |h;exact hs h;omega)]at bL;exact bL
   ·split
    ·rename_i h1;have C:=O.c omQ;have C':w5 { t with cP:=true }:=C.go rfl rfl rfl rfl rfl rfl rfl C.ab C.ah C.aF rfl rfl;exact⟨O.st,C'.toThrB,λ_=>C',O.fin,O.fz,O.Hu,O.Hv,O.Rg,O.DX⟩
    ·exact O
  ·exact O
theorem qwh {me:Int} {s:zR} {jobs:List (List qT)} (hs:0≤s.start) (hj:∀l∈jobs,(zf l).2=0∧Quiet l):xn (kF me s jobs):=by have S:=yq hs;have h4:=S.aa;refine kS ⟨S,by show 0≤max 0 (min me ((jK s).aa-1))∧max 0 (min me ((jK s).aa-1))<(jK s).aa;omega,λl hl=>hj l (List.mem_of_mem_take hl),?_,by show(0:Int)≤ -1+1∧(-1:Int)+1≤_;omega,Nat.le_refl _,Nat.zero_le _,by show(0:Int)≤0∧(0:Int)≤(([]:List kY).length:Int);decide,by show(0:Int)≤0∧(0:Int)≤0;decide,λ_=>rfl⟩ (by show(0:Int)≤ -1+1;decide);show(jobs.take 6).length≤6;rw[List.length_take];omega
end
section
structure zb (V W:VM):Prop where
  sz:V.sz=W.sz
  most:V.most=W.most
  lv:V.lv=W.lv
  K:∀p x,zW p V.K=some x→zW p W.K=some x
theorem zb.same {V W:VM} (h:zb V W) (lv:List bz):zb { V with lv:=lv } { W with lv:=lv }:=⟨h.sz,h.most,rfl,h.K⟩
theorem zb.read {V W:VM} (h:zb V W) (p:Int):(qe V p).1.2=11∨((qe V p).1=(qe W p).1∧zb (qe V p).2 (qe W p).2):=by
 unfold qe;rw[← h.sz,← h.lv]
 split
 ·cases hl:Yp p V.lv with
  |some x=>exact .inr ⟨rfl,h⟩
  |none=>
   dsimp only;cases hk:zW p V.K with
   |some x=>rw[h.K p x hk];exact .inr ⟨rfl,h⟩
   |none=>exact .inl rfl
 ·exact .inr ⟨rfl,h⟩
theorem zb.take {V W:VM} (h:zb V W) (cs:List Cl):(zJ V cs).1=(zJ W cs).1∧zb (zJ V cs).2 (zJ W cs).2:=by
 unfold zJ;rw[← h.sz,← h.lv,← h.most]
 split
 ·refine⟨rfl,?_⟩;exact⟨rfl,rfl,rfl,h.K⟩
 ·exact⟨rfl,h⟩
theorem zb.ask {V W:VM} (h:zb V W) (b:Int):(jm V b).1.2.2=11∨((jm V b).1=(jm W b).1∧zb (jm V b).2 (jm W b).2):=by
 unfold jm;rw[← h.sz]
 split
 ·exact .inr ⟨rfl,h⟩
 ·rcases h.read (b-1)with e |⟨e,h2⟩
  ·rw[e];exact .inl rfl
  ·rw[← e]
   split
   ·split
    ·exact .inr ⟨rfl,h2⟩
    ·exact .inr ⟨rfl,h2⟩
   ·exact .inr ⟨rfl,h2⟩
theorem zb.again {V W:VM} (h:zb V W) (c b:Int):(xf V c b).1.2=11∨((xf V c b).1=(xf W c b).1∧zb (xf V c b).2 (xf W c b).2):=by
 unfold xf
 split
 ·exact .inr ⟨rfl,h⟩
 ·rcases h.read b with e |⟨e,h2⟩
  ·rw[e];exact .inl rfl
  ·rw[← e];have ht:=h2.take [(c,(qe V b).1.1),(b-1,c+8)];rw[← ht.1]
   split
   ·split
    ·exact .inr ⟨rfl,ht.2⟩
    ·exact .inr ⟨rfl,ht.2⟩
   ·exact .inr ⟨rfl,h2⟩
theorem zb.grown {V W:VM} (h:zb V W) (c:Int):(xe V c).1.2=11∨((xe V c).1=(xe W c).1∧zb (xe V c).2 (xe W c).2):=by
 unfold xe;rw[← h.sz];rcases h.read 5 with e |⟨e,h2⟩
 ·rw[e];exact .inl rfl
 ·rw[← e];have ht:=h2.take [(5,(qe V 5).1.1+1+vZ c),((qe V 5).1.1,c+8)];rw[← ht.1]
  split
  ·split
   ·exact .inr ⟨rfl,h2⟩
   ·split
    ·exact .inr ⟨rfl,ht.2⟩
    ·exact .inr ⟨rfl,ht.2⟩
  ·exact .inr ⟨rfl,h2⟩
theorem zb.alloc {V W:VM} (h:zb V W) (n:Int):(jO V n).1.2=11∨((jO V n).1=(jO W n).1∧zb (jO V n).2 (jO W n).2):=by
 unfold jO
 split
 ·exact .inr ⟨rfl,h⟩
 ·rcases h.read (zX n)with e |⟨e,h2⟩
  ·rw[e];exact .inl rfl
  ·rw[← e]
   split
   ·split
    ·exact h2.grown _
    ·exact h2.again _ _
   ·exact .inr ⟨rfl,h2⟩
theorem zb.free {V W:VM} (h:zb V W) (b:Int):(vV V b).1=11∨((vV V b).1=(vV W b).1∧zb (vV V b).2 (vV W b).2):=by
 unfold vV;rcases h.ask b with e |⟨e,h2⟩
 ·rw[e];exact .inl rfl
 ·rw[← e];have ht:=h2.take [(b-1,(jm V b).1.1)];rw[← ht.1]
  split
  ·split
   ·split
    ·refine .inr ⟨rfl,?_⟩;unfold eL;rw[← ht.2.lv];exact⟨ht.2.sz,ht.2.most,rfl,ht.2.K⟩
    ·exact .inr ⟨ht.1,ht.2⟩
   ·exact .inr ⟨rfl,h2⟩
  ·exact .inr ⟨rfl,h2⟩
theorem zb.lg {V W:VM} (h:zb V W) (b:Int):(zY V b).1=11∨((zY V b).1=(zY W b).1∧zb (zY V b).2 (zY W b).2):=by
 unfold zY;rcases h.ask b with e |⟨e,h2⟩
 ·rw[e];exact .inl rfl
 ·rw[← e]
  split
  ·split
   ·exact .inr ⟨rfl,h2⟩
   ·rcases h2.read (jm V b).1.1 with e2 |⟨e2,h3⟩
    ·rw[e2];exact .inl rfl
    ·rw[← e2]
     split
     ·exact .inr (h3.take _)
     ·exact .inr ⟨rfl,h3⟩
  ·exact .inr ⟨rfl,h2⟩
theorem zb.l7 {V W:VM} (h:zb V W):(yc V).1=(yc W).1∧zb (yc V).2 (yc W).2:=by unfold yc;rw[← h.lv];exact⟨rfl,h.same _⟩
theorem zb.drop {V W:VM} (h:zb V W):(xB V).1=(xB W).1∧zb (xB V).2 (xB W).2:=by unfold xB;rw[← h.lv];exact⟨rfl,h.same _⟩
theorem zb.keep {V W:VM} (h:zb V W):(vJ V).1=(vJ W).1∧zb (vJ V).2 (vJ W).2:=by unfold vJ;rw[← h.lv];exact⟨rfl,h.same _⟩
structure KX (a b:SM):Prop where
  e:a.e=b.e
  nx:a.nx=b.nx
  bp:a.bp=b.bp
  s:a.s=b.s
  v:zb a.v b.v
theorem zb.bV {V W:VM} (h:zb V W) (op a nx:Int) (s:IM):KX (zS op a nx s V) (zS op a nx s W):=by
 unfold zS;rw[← h.l7.1]
 split
 ·exact⟨rfl,rfl,rfl,rfl,h.l7.2⟩
 ·exact⟨rfl,rfl,rfl,rfl,h.l7.2⟩
theorem zb.pF {mt:List Int} {s:IM}:∀(o:List e9) {V W:VM},zb V W→KX (yf mt o s V) (yf mt o s W):=by
 intro o
 induction o with
 |nil=>intro V W h;exact⟨rfl,rfl,rfl,rfl,h⟩
 |cons p o ih=>
  intro V W h;unfold yf;rw[← h.drop.1]
  split
  ·split
   ·exact h.drop.2.bV ..
   ·exact ih h.drop.2
  ·exact⟨rfl,rfl,rfl,rfl,h.drop.2⟩
theorem zb.uB {V W:VM} (h:zb V W) (mt:List Int) (s:IM) (op:Int):KX (kQ mt s V op) (kQ mt s W op):=by
 unfold kQ
 split
 ·exact h.bV ..
 ·split
  ·exact⟨h.keep.1,rfl,rfl,rfl,h.keep.2⟩
  ·split
   ·exact⟨h.keep.1,rfl,rfl,rfl,h.keep.2⟩
   ·split
    ·exact⟨h.drop.1,rfl,rfl,rfl,h.drop.2⟩
    ·exact zb.pF _ h
theorem zb.pG {V W:VM} (h:zb V W) (s:IM) (x:qT):(jU s V x).1=11∨((jU s V x).1=(jU s W x).1∧(jU s V x).2.1=(jU s W x).2.1∧zb (jU s V x).2.2 (jU s W x).2.2):=by
 unfold jU
 split
 ·split
  ·rcases h.read (z7 (qE s.ap x.2.2.1) x.2.2.2.1).1 with e |⟨e,h2⟩
   ·rw[e];exact .inl rfl
   ·rw[← e]
    split
    ·exact .inr ⟨rfl,rfl,h2⟩
    ·exact .inr ⟨rfl,rfl,h2⟩
  ·exact .inr ⟨rfl,rfl,h⟩
 ·split
  ·split
   ·have ht:=h.take [((z7 (qE s.ap x.2.1) x.2.2.2.1).1,qE s.ap x.2.2.1)];exact .inr ⟨ht.1,rfl,ht.2⟩
   ·exact .inr ⟨rfl,rfl,h⟩
  ·split
   ·split
    ·exact .inr ⟨rfl,rfl,h⟩
    ·rcases h.alloc (qE s.ap x.2.2.1)with e |⟨e,h2⟩
     ·rw[e];exact .inl rfl
     ·rw[← e]
      split
      ·exact .inr ⟨rfl,rfl,h2⟩
      ·exact .inr ⟨rfl,rfl,h2⟩
   ·split
    ·exact .inr ⟨rfl,rfl,h⟩
    ·rcases h.free (qE s.ap x.2.1)with e |⟨e,h2⟩
     ·exact .inl e
     ·exact .inr ⟨e,rfl,h2⟩
theorem yW {c:Prop} [Decidable c] {a b a' b':SM} (ha:a.e=11∨KX a a') (hb:b.e=11∨KX b b'):(if c then a else b).e=11∨KX (if c then a else b) (if c then a' else b'):=by
 split
 ·exact ha
 ·exact hb
theorem zb.Hw {V W:VM} (h:zb V W) (mt:List Int) (s:IM) (x:qT):(bK mt s V x).e=11∨KX (bK mt s V x) (bK mt s W x):=by
 have sm:∀(e nx:Int) (b:Bool) (s':IM),(⟨e,nx,b,s',V⟩:SM).e=11∨KX ⟨e,nx,b,s',V⟩ ⟨e,nx,b,s',W⟩:=λe nx b s'=>.inr ⟨rfl,rfl,rfl,rfl,h⟩;unfold bK;refine yW (sm ..) (yW (sm ..) (yW (sm ..) (yW (sm ..) (yW (sm ..) (yW (sm ..) (yW (sm ..) (yW (sm ..) (yW (sm ..) (yW (yW (sm ..) (sm ..)) (yW (sm ..) (yW ?_ (.inr (h.uB ..)))))))))))));rcases h.pG s x with e |⟨e1,e2,h2⟩
 ·exact .inl e
 ·exact .inr ⟨e1,rfl,rfl,e2,h2⟩
theorem qqr {l:List qT} (F:Fit l) (Q:Quiet l):∀(n:Nat) {s:IM} {V W:VM},GI l s V→GI l s W→bD V.lv+n<9000→zb V W→
  ((jM l (qP l) n s V).kind=1∧∃W',zb (jM l (qP l) n s V).v W'∧W'.K=W.K∧W'.sz=W.sz∧GI l (jM l (qP l) n s V).s W'∧jM l (qP l) n s W=jM l (qP l) (jM l (qP l) n s V).left (jM l (qP l) n s V).s W')∨
  ((jM l (qP l) n s V).kind≠1∧(jM l (qP l) n s W).kind=(jM l (qP l) n s V).kind∧(jM l (qP l) n s W).err=(jM l (qP l) n s V).err∧(jM l (qP l) n s W).left=(jM l (qP l) n s V).left∧
   (jM l (qP l) n s W).s=(jM l (qP l) n s V).s∧zb (jM l (qP l) n s V).v (jM l (qP l) n s W).v):=by
 intro n
 induction n with
 |zero=>
  intro s V W G GW hf h;right;rw[gu,gu]
  split
  ·exact⟨(λh=>by cases h),rfl,rfl,rfl,rfl,h⟩
  ·exact⟨(λh=>by cases h),rfl,rfl,rfl,rfl,h⟩
 |succ n ih=>
  intro s V W G GW hf h;by_cases h0:s.pc=l.length
  ·right;rw[U1 h0,U1 h0];exact⟨(λh=>by cases h),rfl,rfl,rfl,rfl,h⟩
  ·obtain⟨i,hi,pY⟩:=G.pc;have au:i<l.length:=by omega
   have hfW:bD W.lv=bD V.lv:=by rw[h.lv]
   have S:=XP F G hi au omQ (Q.at au).2 (Q.at au).1;have SW:=XP F GW hi au omQ (Q.at au).2 (Q.at au).1;have D:=h.Hw (qP l) s (qR l i);have eV:=vR (l:=l) (mt:=qP l) (n:=n) (s:=s) (V:=V);have eW:=vR (l:=l) (mt:=qP l) (n:=n) (s:=s) (V:=W);rw[iQ h0,hi]at eV eW;generalize bK (qP l) s V (qR l i)=A at*;generalize bK (qP l) s W (qR l i)=B at*;rcases D with Hx |D
   ·left;obtain⟨n1,n2,_⟩:=S.aK Hx;rw[eV,iQ (by rw[Hx];decide),iJ Hx];refine⟨rfl,W,⟨by rw[← h.sz];exact S.sz,by rw[← h.most];exact S.most,by rw[← h.lv];exact n2,λp x hx=>h.K p x (by rw[← S.K];exact hx)⟩,rfl,rfl,?_,?_⟩
    ·rw[n1];exact GW
    ·rw[n1]
   ·rw[eV,eW,← D.e,← D.nx,← D.bp,← D.s];by_cases h1:A.e=0
    ·rw[iJ h1,iJ h1];by_cases h2:A.bp=true
     ·right;rw[iJ h2,iJ h2];exact⟨(λh=>by cases h),rfl,rfl,rfl,rfl,D.v⟩
     ·rw[iQ h2,iQ h2];have hb:A.bp=false:=by simpa using h2
      have nW:=SW.next (by rw[← D.e];exact h1) (by rw[← D.bp];exact hb);rw[← D.nx,← D.s]at nW;have pz:=S.fr;rcases ih (S.next h1 hb) nW omQ D.v with⟨k,W',p,hK,hz,g,e⟩ |r
      ·exact .inl ⟨k,W',p,hK.trans SW.K,hz.trans SW.sz,g,e⟩
      ·exact .inr r
    ·rw[iQ h1,iQ h1];by_cases h2:A.e=11
     ·left;obtain⟨n1,n2,_⟩:=S.aK h2;obtain⟨m1,m2,_⟩:=SW.aK (by rw[← D.e];exact h2);rw[iJ h2,iJ h2];refine⟨rfl,W,⟨by rw[← h.sz];exact S.sz,by rw[← h.most];exact S.most,by rw[← h.lv];exact n2,λp x hx=>h.K p x (by rw[← S.K];exact hx)⟩,rfl,rfl,?_,?_⟩
      ·show GI l A.s W;rw[n1];exact GW
      ·show _=jM l (qP l) (n+1) A.s W;rw[n1,eW,← D.e,← D.nx,← D.bp,← D.s,iQ h1,iJ h2,n1]
     ·right;rw[iQ h2,iQ h2];exact⟨(λh=>by cases h),rfl,rfl,rfl,rfl,D.v⟩
end
section
inductive eP:Nat→q8→jD→q8→jD→Prop
  |nil {x:q8} {M:jD}:eP 0 x M x M
  |cons {k:Nat} {x y:q8} {M N:jD} {o:dz} (hn:xZ x=some o) (r:eP k (jS x (jC M o).1) (jC M o).2 y N):eP (k+1) x M y N
theorem eP.trans {a b:Nat} {x y z:q8} {M N O:jD} (s:eP a x M y N) (t:eP b y N z O):eP (a+b) x M z O:=by
 induction s with
 |nil=>rw[Nat.zero_add];exact t
 |cons hn _ ih=>rw[Nat.add_right_comm];exact .cons hn (ih t)
theorem eP.one {x y:q8} {M N:jD} {o:dz} (hn:xZ x=some o) (e:jC M o=(⟨0,b8,false,0⟩,N)) (h:jS x ⟨0,b8,false,0⟩=y):eP 1 x M y N:=by refine .cons hn ?_;rw[e];dsimp only;rw[h];exact .nil
theorem eP.step {x y:q8} {M N:jD} {o:dz} {a:cO} (hn:xZ x=some o) (e:jC M o=(a,N)) (h:jS x a=y):eP 1 x M y N:=by refine .cons hn ?_;rw[e];dsimp only;rw[h];exact .nil
def bump (M:jD) (k:Int):jD:={ M with aX:=M.aX+k }
theorem wQ (M:jD) (a b:Int):bump (bump M a) b=bump M (a+b):=by unfold bump;dsimp only;rw[Int.add_assoc]
structure xI (S:zR) (M:jD) (me:Int):Prop where
  w:(M.w.length:Int)=S.words
  l:(M.l.length:Int)=S.al
  s:(M.s.length:Int)=S.aa
  me:0≤me∧me<S.aa
  lk:∀i:Nat,i<M.l.length→∃v:Int,zQ M.l i=(v,false,0)∧0≤v∧v≤M.n
  n:0≤M.n∧M.n<4611686018427387902
  wd:∀z∈M.w,0≤z∧z<18446744073709551616
section
variable {S:zR} {M:jD} {me:Int}
theorem xI.bump (C:xI S M me) (k:Int):xI S (bump M k) me:=⟨C.w,C.l,C.s,C.me,C.lk,C.n,C.wd⟩
theorem KB (C:xI S M me) {s:Int} (h:0≤s∧s<S.al):jC M (bg 3 s 0)=(⟨0,zQ M.l s,false,0⟩,bump M 1):=by
 have hl:=C.l;have e:QV M (bg 3 s 0)=(⟨0,zQ M.l s,false,0⟩,M):=by unfold QV;rw[iQ (by show¬(s<0∨(M.l.length:Int)≤s);omega),iJ (by rfl)];rfl
 show(if(QV M (bg 3 s 0)).1.err=0 then((QV M (bg 3 s 0)).1,{ (QV M (bg 3 s 0)).2 with aX:=(QV M (bg 3 s 0)).2.aX+1 })else QV M (bg 3 s 0))=_;rw[e];rfl
theorem qk5 (C:xI S M me) {p:Int} (h:1≤p∧p<S.words):jC M (bg 1 p 0)=(⟨qE M.w p,b8,false,0⟩,bump M 1):=by
 have hl:=C.w;have e:Jp M (bg 1 p 0)=(⟨qE M.w p,b8,false,0⟩,M):=by unfold Jp;rw[iQ (by show¬(p<1∨(M.w.length:Int)≤p);omega),iJ (by rfl)];rfl
 show(if(Jp M (bg 1 p 0)).1.err=0 then((Jp M (bg 1 p 0)).1,{ (Jp M (bg 1 p 0)).2 with aX:=(Jp M (bg 1 p 0)).2.aX+1 })else Jp M (bg 1 p 0))=_;rw[e];rfl
theorem Oa (M:jD):jC M (bg 6 0 0)=(⟨M.n,b8,false,0⟩,bump M 1):=rfl
theorem K6 (C:xI S M me) {w:Int}:jC M (bg 9 me w)=(fk,{ M with s:=M.s.set me.toNat w,aX:=M.aX+1 }):=by
 have hl:=C.s;have hm:=C.me;have e:QH M (bg 9 me w)=(fk,{ M with s:=M.s.set me.toNat w }):=by unfold QH;rw[iQ (by show¬(me<0∨(M.s.length:Int)≤me);omega),iQ (by show¬(9:Int)=8;decide)];rfl
 show(if(QH M (bg 9 me w)).1.err=0 then((QH M (bg 9 me w)).1,{ (QH M (bg 9 me w)).2 with aX:=(QH M (bg 9 me w)).2.aX+1 })else QH M (bg 9 me w))=_;rw[e];rfl
theorem xI.at (C:xI S M me) {s:Int} (h:0≤s∧s<S.al):∃v:Int,zQ M.l s=(v,false,0)∧0≤v∧v≤M.n:=by have hl:=C.l;obtain⟨k,rfl⟩:∃k:Nat,s=k:=⟨s.toNat,by omega⟩;exact C.lk k omQ
theorem Hy {S:zR} (O:yY S) {p:Int} (hp:0≤p):0≤ofM p S.al S.wide∧ofM p S.al S.wide<S.al:=by have h:=O.al;unfold ofM;rw[iQ omQ,show max 1 (min S.al 16)=S.al by omega];exact⟨Int.emod_nonneg _ omQ,Int.emod_lt_of_pos _ omQ⟩
structure wo (S:zR) (M:jD) (r:List xj):Prop where
  at_:∀y∈r,0≤y.1∧y.1<S.al∧y.2=(zQ M.l y.1).1
  un:(r.map (·.1)).Nodup
theorem wo.len {r:List xj} (O:yY S) (R:wo S M r):r.length≤16:=by
 have:=YS 16 (r.map (·.1)) R.un (λx hx=>by
  obtain⟨y,hy,rfl⟩:=List.mem_map.1 hx;have h1:=R.at_ y hy;have h2:=O.al
  omega)
 simpa using this
theorem wo.add {r:List xj} (O:yY S) (C:xI S M me) (R:wo S M r) {s:Int} (hs:0≤s∧s<S.al):(wU r (s,(zQ M.l s).1)).1=0∧wo S M (wU r (s,(zQ M.l s).1)).2:=by
 obtain⟨v,e,h0,h1⟩:=C.at hs;have cC:=O.al;have hn:=C.n;unfold wU;rw[iQ (by rw[e];dsimp only;omega)];cases hf:r.find? λy=>decide (y.1=(s,(zQ M.l s).1).1)with
 |some y=>
  dsimp only;have hy:=List.find?_some hf;have hm:=List.mem_of_find?_eq_some hf;have h2:=R.at_ y hm;have Px:y.1=s:=by simpa using hy
  rw[iQ (by rw[h2.2.2,Px];exact λh=>h rfl)];exact⟨rfl,R⟩
 |none=>
  dsimp only;have dy:∀y∈r,y.1≠s:=λy hy h=>by
   have:=List.find?_eq_none.1 hf y hy;simp[h]at this
  have hnd:(s::r.map (·.1)).Nodup:=List.nodup_cons.2 ⟨λh=>by obtain⟨y,hy,h2⟩:=List.mem_map.1 h;exact dy y hy h2,R.un⟩
  have hl:=YS 16 _ hnd (λx hx=>by
   rcases List.mem_cons.1 hx with rfl |hx
   ·omega
   ·obtain⟨y,hy,rfl⟩:=List.mem_map.1 hx;have h1:=R.at_ y hy
    omega)
  simp at hl;rw[iQ omQ];refine⟨rfl,λy hy=>?_,?_⟩
  ·rcases List.mem_append.1 hy with hy |hy
   ·exact R.at_ y hy
   ·rw[List.mem_singleton]at hy;subst hy;exact⟨hs.1,hs.2,rfl⟩
  ·show((r++[(s,(zQ M.l s).1)]).map (·.1)).Nodup;rw[List.map_append,List.nodup_append];refine⟨R.un,List.nodup_cons.2 ⟨λh=>(by cases h),List.nodup_nil⟩,λa ha b hb=>?_⟩;obtain⟨y,hy,rfl⟩:=List.mem_map.1 ha;rw[List.map_singleton,List.mem_singleton]at hb;subst hb;exact dy y hy
theorem YY {x:q8} (h:(xV x).1=0) (hw:zC x=false):xH x=x:=by unfold xH;rw[iJ h];unfold zo;rw[hw];rfl
theorem wT {x:q8} (h:x.c=none):zC x=false:=by unfold zC;rw[h];exact Bool.and_false _
theorem qYc {x:q8} (h:x.c=none):zC (xT x)=false:=by
 have hc:(yB x).2.c=none:=by
  unfold yB
  split<;>exact h
 unfold xT vD;generalize(yB x).2=y at*
 split
 ·exact wT hc
 ·split
  ·exact wT hc
  ·split
   ·exact wT hc
   ·split
    ·exact wT hc
    ·unfold zC;dsimp only;have e:∀(me sp st:Int) (r:List xj) (cs:List Cl) (a w:Int),wq (Js me sp st r cs a w)=false∧(Js me sp st r cs a w).p.fin=0:=λ_ _ _ _ _ _ _=>⟨rfl,rfl⟩;rw[(e ..).1,(e ..).2];rfl
theorem Yk {x:q8} {a:cO} (h3:x.state=3) (ha:a.err=0):jS x a=xH { x with f:=xC x.f a }:=by unfold jS;rw[iQ omQ,iQ (by rw[ha];exact λh=>h rfl),iQ omQ,iQ omQ,iQ omQ,iQ omQ,iJ h3]
theorem qgi (O:yY S) (C:xI S M me) {x:q8} (h3:x.state=3) (hc:x.c=none) {p:Int} (hf:x.f=kP x.me p (ofM p S.al S.wide) S.af x.aj) (hs:x.aj=M.n) (hp:1≤p∧p<S.words) (hR:wo S M x.r) (hn:x.v.aK=p) :
  ∃F:QT,eP 3 x M (xT { x with f:=F,r:=(wU x.r (ofM p S.al S.wide,(zQ M.l (ofM p S.al S.wide)).1)).2,v:=(zu x.v p (qE M.w p)).2 }) (bump M 3):=by
 have As:=Hy O (p:=p) omQ;generalize cC:ofM p S.al S.wide=st at*;obtain⟨v,e,h0,h1⟩:=C.at As;have ha:=(wo.add O C hR As).1;rw[e]at ha ⊢;have n1:xZ x=some (bg 3 st 0):=by unfold xZ;rw[iQ omQ,iQ omQ,iQ omQ,iQ omQ,iQ omQ,iJ h3,hf];rfl
 have s1:eP 1 x M { x with f:={ kP x.me p st S.af x.aj with lk:=(v,false,0),state:=1 } } (bump M 1):=by
  refine .step n1 (KB C As) ?_;rw[e,Yk h3 rfl,hf];have ef:xC (kP x.me p st S.af x.aj) ⟨0,(v,false,0),false,0⟩={ kP x.me p st S.af x.aj with lk:=(v,false,0),state:=1 }:=by show(if x.aj<v then _ else _)=_;rw[iQ omQ]
  rw[ef];refine YY ?_ (wT hc);unfold xV;rw[iJ h3];rfl
 have s2:eP 1 { x with f:={ kP x.me p st S.af x.aj with lk:=(v,false,0),state:=1 } } (bump M 1) { x with f:={ kP x.me p st S.af x.aj with lk:=(v,false,0),state:=2,word:=qE M.w p } } (bump (bump M 1) 1):=by
  refine .step (o:=bg 1 p 0) ?_ (qk5 (C.bump 1) hp) ?_
  ·unfold xZ;rw[iQ (by show¬x.state=0;omega),iQ (by show¬x.state=1;omega),iQ (by show¬x.state=2;omega),iQ (by show¬x.state=7;omega),iQ (by show¬x.state=8;omega),iJ (by exact h3)];rfl
  ·rw[Yk (by exact h3) rfl];refine YY ?_ (wT hc);unfold xV;rw[iJ (by exact h3)];rfl
 have s3:eP 1 { x with f:={ kP x.me p st S.af x.aj with lk:=(v,false,0),state:=2,word:=qE M.w p } } (bump (bump M 1) 1)
   (xT { x with f:={ kP x.me p st S.af x.aj with lk:=(v,false,0),state:=2,word:=qE M.w p,p:=zV (QM x.me S.af) 2 0 (-1) },r:=(wU x.r (st,v)).2,v:=(zu x.v p (qE M.w p)).2 }) (bump (bump (bump M 1) 1) 1):=by
  refine .step (o:=bg 3 st 0) ?_ (KB ((C.bump 1).bump 1) As) ?_
  ·unfold xZ;rw[iQ (by show¬x.state=0;omega),iQ (by show¬x.state=1;omega),iQ (by show¬x.state=2;omega),iQ (by show¬x.state=7;omega),iQ (by show¬x.state=8;omega),iJ (by exact h3)];rfl
  ·rw[Yk (by exact h3) rfl];have ef:xC { kP x.me p st S.af x.aj with lk:=(v,false,0),state:=2,word:=qE M.w p } ⟨0,zQ (bump (bump M 1) 1).l st,false,0⟩={ kP x.me p st S.af x.aj with lk:=(v,false,0),state:=2,word:=qE M.w p,p:=zV (QM x.me S.af) 2 0 (-1) }:=by
    show xC _ ⟨0,zQ M.l st,false,0⟩=_;rw[e];unfold xC;rw[iQ (by exact λh=>by cases h),iQ (by show¬(2:Int)=1;decide),iJ ⟨rfl,rfl⟩];rfl
   dsimp only;rw[ef];unfold xH;have Hz:(xV { x with f:={ kP x.me p st S.af x.aj with lk:=(v,false,0),state:=2,word:=qE M.w p,p:=zV (QM x.me S.af) 2 0 (-1) } }).1=2:=by unfold xV;rw[iJ (by exact h3)];rfl
   rw[Hz,iQ od,iQ od];have lh:xm { x with f:={ kP x.me p st S.af x.aj with lk:=(v,false,0),state:=2,word:=qE M.w p,p:=zV (QM x.me S.af) 2 0 (-1) } }=xT { x with f:={ kP x.me p st S.af x.aj with lk:=(v,false,0),state:=2,word:=qE M.w p,p:=zV (QM x.me S.af) 2 0 (-1) },r:=(wU x.r (st,v)).2,v:=(zu x.v p (qE M.w p)).2 }:=by unfold xm;rw[iJ (by exact h3)];unfold x6;rw[iQ (by show¬(2:Int)=6;decide)];have es:ya { kP x.me p st S.af x.aj with lk:=(v,false,0),state:=2,word:=qE M.w p,p:=zV (QM x.me S.af) 2 0 (-1) }=(st,v):=rfl;have ew:x9 { kP x.me p st S.af x.aj with lk:=(v,false,0),state:=2,word:=qE M.w p,p:=zV (QM x.me S.af) 2 0 (-1) }=qE M.w p:=rfl;dsimp only;rw[es,ew,iJ ha,hn]
   rw[lh];unfold zo;rw[qYc (by exact hc)];rfl
 have:=(s1.trans s2).trans s3;rw[wQ,wQ]at this;exact⟨_,this⟩
end
end
section
theorem YT {l t:List qT} {j:Nat} (h:j<l.length):qR (l++t) (j:Int)=qR l (j:Int):=by unfold qR;rw[Int.toNat_natCast,List.getElem?_append_left h]
theorem Xj {l t:List qT} {k:Nat} {x:qT} (h:t[k]? =some x):qR (l++t) ((l.length+k:Nat):Int)=x:=by unfold qR;rw[Int.toNat_natCast,List.getElem?_append_right omQ,show l.length+k-l.length=k by omega,h];rfl
theorem kA {l t:List qT}:∀i,i≤l.length→qL (l++t) i=qL l i:=by
 intro i
 induction i with
 |zero=>intro _;rfl
 |succ i ih=>intro h;rw[jN,jN,ih omQ,YT omQ]
theorem qz5 {l t:List qT} {st:List Int} (h:cd l.length st):dh (l++t) st=dh l st:=by
 unfold dh;by_cases h0:st=[]
 ·rw[iJ h0,iJ h0]
 ·rw[iQ h0,iQ h0];have hb:=h.dI h0;obtain⟨p,hp⟩:∃p:Nat,jk st=p:=⟨(jk st).toNat,by omega⟩;rw[hp,YT omQ]
theorem VB {l t:List qT} {st:List Int} {x:qT} (h:cd l.length st):zh (l++t) st x=zh l st x:=by unfold zh;rw[qz5 h]
theorem cd.mono {i j:Nat} {st:List Int} (h:cd i st) (oL:i≤j):cd j st:=λy hy=>by have:=h y hy;omega
def Ri (l:List qT) (calm:Bool) (j:Nat) (x:qT):Prop:=(x.1=12∨x.1=13)→∃c:Nat,x.2.2.2.1=c∧c≤l.length∧qL l c=qL l j∧(calm=true→j<c)
structure G5 (calm:Bool) (x:qT):Prop where
  may:Jx x=true
  no:x.1≠23
  n:0≤x.2.2.2.2∧x.2.2.2.2<18446744073709551616
  cal:calm=true→x.1≠20∧x.1≠22∧x.1≠12
structure ie (calm:Bool) (l:List qT) (st:List Int):Prop where
  ok:∀x∈l,G5 calm x
  wr:∀j,j<l.length→zh l (qL l j) (qR l j)=0
  top:qL l l.length=st
  jp:∀j,j<l.length→Ri l calm j (qR l j)
  uC:st.length≤5
def wP (l:List qT) (st:List Int):List Int:=st.map λp=>(qR l p).1
theorem Mh {l t:List qT} {st:List Int} (h:cd l.length st):wP (l++t) st=wP l st:=by unfold wP;refine List.map_congr_left λp hp=>?_;have:=h p hp;obtain⟨q,rfl⟩:∃q:Nat,p=q:=⟨p.toNat,by omega⟩;rw[YT omQ]
theorem ie.uD {calm:Bool} {l:List qT} {st:List Int} (B:ie calm l st):cd l.length st:=by rw[← B.top];exact(KV l.length).1
theorem ie.nil (calm:Bool):ie calm [] []:=⟨λx hx=>(by cases hx),λj hj=>(by simp at hj),rfl,λj hj=>(by simp at hj),aN⟩
theorem ie.ext {calm:Bool} {l t:List qT} {st:List Int} (B:ie calm l st) (h1:∀x∈t,G5 calm x) (h2:∀k,k<t.length→zh (l++t) (qL (l++t) (l.length+k)) (qR (l++t) ((l.length+k:Nat):Int))=0)
  (h3:∀k,k<t.length→Ri (l++t) calm (l.length+k) (qR (l++t) ((l.length+k:Nat):Int))) (h5:(qL (l++t) (l++t).length).length≤5):ie calm (l++t) (qL (l++t) (l++t).length):=by
 refine⟨?_,?_,rfl,?_,h5⟩
 ·intro x hx;rcases List.mem_append.1 hx with hx |hx
  ·exact B.ok x hx
  ·exact h1 x hx
 ·intro j hj;by_cases fE:j<l.length
  ·rw[kA j omQ,YT fE,VB ((KV j).1.mono omQ)];exact B.wr j fE
  ·have:=h2 (j-l.length) (by simp at hj;omega)
   rwa [show l.length+(j-l.length)=j by omega]at this
 ·intro j hj;by_cases fE:j<l.length
  ·intro ho;rw[YT fE]at ho ⊢;obtain⟨c,c1,c2,c3,c4⟩:=B.jp j fE ho;exact⟨c,c1,by simp;omega,by rw[kA c c2,kA j omQ];exact c3,c4⟩
  ·have:=h3 (j-l.length) (by simp at hj;omega)
   rwa [show l.length+(j-l.length)=j by omega]at this
theorem qVs {l:List qT} {x:qT}:qL (l++[x]) (l.length+1)=jq (qL l l.length) l.length x.1:=by have e:=Xj (l:=l) (t:=[x]) (k:=0) (x:=x) rfl;rw[Nat.add_zero]at e;rw[jN,kA _ (Nat.le_refl _),e]
theorem ie.fb {calm:Bool} {l:List qT} {st:List Int} (B:ie calm l st) {x:qT} (h1:G5 calm x) (h2:zh l st x=0) (h3:x.1≠12∧x.1≠13) (h5:(jq st l.length x.1).length≤5):ie calm (l++[x]) (jq st l.length x.1):=by
 have e:=Xj (l:=l) (t:=[x]) (k:=0) (x:=x) rfl;rw[Nat.add_zero]at e;have hs:qL (l++[x]) (l++[x]).length=jq st l.length x.1:=by rw[List.length_append,List.length_singleton,qVs,B.top]
 rw[← hs]at h5 ⊢;refine B.ext (by intro y hy;rw[List.mem_singleton]at hy;subst hy;exact h1) ?_ ?_ h5
 ·intro k hk;obtain rfl:k=0:=by simpa using hk
  rw[Nat.add_zero,e,kA _ (Nat.le_refl _),B.top,VB B.uD];exact h2
 ·intro k hk;obtain rfl:k=0:=by simpa using hk
  rw[Nat.add_zero,e];intro ho;omega
def Flat (op:Int):Prop:=op≠14∧op≠15∧op≠16∧op≠17∧op≠18∧op≠19
theorem Flat.behind {op:Int} (h:Flat op) (st:List Int) (i:Int):jq st i op=st:=by obtain⟨h1,h2,h3,h4,h5,h6⟩:=h;unfold jq;rw[iQ (by unfold xG;simp;omega),iQ (by unfold jt;rw[iQ h2,iQ h5,iQ h6];omega)]
theorem Flat.pH {x:qT} (h:Flat x.1) (hm:Jx x=true) (l:List qT) (st:List Int):zh l st x=0:=by
 obtain⟨h1,h2,h3,h4,h5,h6⟩:=h;unfold zh
 rw[iQ (by rw[hm];simp),iQ (λhh=>by have:=hh.1;unfold jt at this;rw[iQ h2,iQ h5,iQ h6]at this;omega),iQ (λhh=>h3 hh.1),
  iQ (λhh=>by have:=hh.1;unfold xG at this;simp at this;omega)]
theorem ie.flat {calm:Bool} {l:List qT} {st:List Int} (B:ie calm l st) {x:qT} (h1:G5 calm x) (hf:Flat x.1) (h3:x.1≠12∧x.1≠13):ie calm (l++[x]) st:=by
 have:=B.fb h1 (hf.pH h1.may l st) h3 (by rw[hf.behind];exact B.uC)
 rwa [hf.behind]at this
theorem ie.two {calm:Bool} {l:List qT} {st:List Int} (B:ie calm l st) {x y:qT} (hx:G5 calm x) (hy:G5 calm y) (fx:Flat x.1) (fy:Flat y.1)
  (jx:(x.1=12∨x.1=13)→x.2.2.2.1=((l.length+2:Nat):Int)) (jy:(y.1=12∨y.1=13)→y.2.2.2.1=(l.length:Int)∧calm=false):ie calm (l++[x,y]) st:=by
 have e0:=Xj (l:=l) (t:=[x,y]) (k:=0) (x:=x) rfl;have e1:=Xj (l:=l) (t:=[x,y]) (k:=1) (x:=y) rfl;rw[Nat.add_zero]at e0;have s0:qL (l++[x,y]) l.length=st:=by rw[kA _ (Nat.le_refl _),B.top]
 have s1:qL (l++[x,y]) (l.length+1)=st:=by rw[jN,s0,e0,fx.behind]
 have s2:qL (l++[x,y]) (l.length+2)=st:=by rw[show l.length+2=l.length+1+1 from rfl,jN,s1,e1,fy.behind]
 have hs:qL (l++[x,y]) (l++[x,y]).length=st:=by rw[List.length_append];exact s2
 have:=B.ext (t:=[x,y]) (by intro z hz;simp at hz;rcases hz with rfl |rfl;exact hx;exact hy) (λk hk=>by
  have hk:k=0∨k=1:=by simp at hk;omega
  rcases hk with rfl |rfl
  ·rw[Nat.add_zero,e0];exact fx.pH hx.may _ _
  ·rw[e1];exact fy.pH hy.may _ _) (λk hk=>by
  have hk:k=0∨k=1:=by simp at hk;omega
  rcases hk with rfl |rfl
  ·rw[Nat.add_zero,e0];intro ho;exact⟨l.length+2,jx ho,by simp,by rw[s2,s0],λ_=>by omega⟩
  ·rw[e1];intro ho;obtain⟨a,b⟩:=jy ho
   exact⟨l.length,a,by simp,by rw[s0,s1],λh=>by rw[b]at h;cases h⟩) (by rw[hs];exact B.uC)
 rwa [hs]at this
abbrev one (op:Int):qT:=(op,0,0,0,0)
theorem Rj (calm:Bool) {op:Int} (h:op=14∨op=15∨op=16∨op=17∨op=18∨op=19):G5 calm (one op):=by refine⟨?_,by dsimp only;omega,by dsimp only;omega,λ_=>by dsimp only;omega⟩;rcases h with rfl |rfl |rfl |rfl |rfl |rfl<;>decide
theorem ie.begin {calm:Bool} {l:List qT} {st:List Int} (B:ie calm l st) {op:Int} (h:op=14∨op=17) (h5:st.length<5):ie calm (l++[one op]) (st++[(l.length:Int)])∧wP (l++[one op]) (st++[(l.length:Int)])=wP l st++[op]:=by
 have hb:jq st l.length op=st++[(l.length:Int)]:=by unfold jq;rw[iJ (.inl (by unfold xG;exact iG h)),iQ (by rcases h with rfl |rfl<;>decide)]
 have hw:zh l st (one op)=0:=by unfold zh;rw[iQ (by rcases h with rfl |rfl<;>decide),iQ (λhh=>by have:=hh.1;rcases h with rfl |rfl<;>exact absurd this od),iQ (λhh=>by have:=hh.1;dsimp only at this;omega),iQ omQ]
 have:=B.fb (x:=one op) (Rj calm omQ) hw (by dsimp only;omega) (by rw[hb];simp;omega);rw[hb]at this;refine⟨this,?_⟩;unfold wP;rw[List.map_append]
 congr 1
 ·exact Mh B.uD
 ·have e:=Xj (l:=l) (t:=[one op]) (k:=0) (x:=one op) rfl;rw[Nat.add_zero]at e;rw[List.map_singleton,e]
def gM (o:Int):Int:=if o=14 then 15 else if o=17 then 18 else 19
def HK (l:List qT) (st:List Int):List qT:=l++[one (gM (dh l st))]
def V9 (l:List qT) (st:List Int):List Int:=if dh l st=17 then st.dropLast++[(l.length:Int)]else st.dropLast
theorem ie.shut {calm:Bool} {l:List qT} {st:List Int} (B:ie calm l st) (hn:st≠[]) (ho:dh l st=14∨dh l st=17∨dh l st=18):ie calm (HK l st) (V9 l st)∧
  wP (HK l st) (V9 l st)=(wP l st).dropLast++(if dh l st=17 then[18]else[]):=by
 have hs:jt (gM (dh l st))=dh l st:=by rcases ho with h |h |h<;>rw[h]<;>decide
 have Rk:gM (dh l st)=15∨gM (dh l st)=18∨gM (dh l st)=19:=by
  unfold gM
  repeat' split
  all_goals omega
 have he:0<jt (gM (dh l st)):=by rw[hs];omega
 have hlen:=List.length_pos_iff.2 hn;have hb:jq st l.length (gM (dh l st))=V9 l st:=by
  unfold jq V9;rw[iJ he];by_cases ng:dh l st=17
  ·rw[iJ ng,iJ (.inr (by rw[ng];decide))]
  ·rw[iQ ng,iQ];rcases ho with h |h |h
   ·rw[h];decide
   ·exact absurd h ng
   ·rw[h];decide
 have hw:zh l st (one (gM (dh l st)))=0:=by
  unfold zh
  rw[iQ (by rcases Rk with h |h |h<;>rw[h]<;>decide),iQ (λhh=>hh.2 hs.symm),iQ (λhh=>by have:=hh.1;dsimp only at this;omega),iQ (λhh=>by
   have:=hh.1
   rcases Rk with h |h |h<;>rw[h]at this<;>exact absurd this od)]
 have h5:=B.uC;have:=B.fb (x:=one (gM (dh l st))) (Rj calm omQ) hw (by dsimp only;omega) (by rw[hb];unfold V9;split<;>simp<;>omega);rw[hb]at this;refine⟨this,?_⟩;unfold HK V9 wP;have hd:(st.dropLast.map λp=>(qR (l++[one (gM (dh l st))]) p).1)=(wP l st).dropLast:=by have:=Mh (t:=[one (gM (dh l st))]) B.uD.dropLast;unfold wP at this ⊢;rw[this,List.map_dropLast]
 split
 ·rename_i ng;have e:=Xj (l:=l) (t:=[one (gM (dh l st))]) (k:=0) (x:=one (gM (dh l st))) rfl;rw[Nat.add_zero]at e;rw[List.map_append,hd,List.map_singleton,e,ng];rfl
 ·rw[hd,List.append_nil];rfl
theorem qzO {l:List qT} {st:List Int} (hn:st≠[]):dh l st=(wP l st).getLast?.getD 0:=by unfold dh wP jk;rw[iQ hn,List.getLast?_map,List.getLast?_eq_some_getLast hn];rfl
end
section
variable {g h:AH} {L R:List SP}
def Cy (zs:List Int):Prop:=∀z∈zs,0≤z∧z<18446744073709551616
theorem Cy.set {zs:List Int} {i:Nat} {x:Int} (h:Cy zs) (hx:0≤x∧x<18446744073709551616):Cy (zs.set i x):=by
 intro z hz;rcases List.mem_or_eq_of_mem_set hz with h1 |rfl
 ·exact h z h1
 ·exact hx
def HL (zs:List Int):Prop:=Cy zs∧zs[0]? =some 0
theorem HL.set {zs:List Int} {i:Nat} {x:Int} (h:HL zs) (hx:0≤x∧x<18446744073709551616) (hi:0<i):HL (zs.set i x):=⟨h.1.set hx,by rw[List.getElem?_set_ne omQ];exact h.2⟩
end
section
variable {g h:AH} {L R:List SP}
def gI (lv:AV) (l:List qT):SP:=qB 56 5 l.length lv (l.flatMap zM)
structure Rl (x:qT):Prop where
  flat:Flat x.1
  nj:x.1≠12∧x.1≠13
  ok:∀calm,G5 calm x
theorem Rl.of {x:qT} (h1:Jx x=true) (h2:(1≤x.1∧x.1≤11)∨x.1=21) (h3:0≤x.2.2.2.2∧x.2.2.2.2<18446744073709551616):Rl x :=
 ⟨⟨by omega,by omega,by omega,by omega,by omega,by omega⟩,by omega,λ_=>⟨h1,by omega,h3,λ_=>by omega⟩⟩
end
section
variable {g h:AH} {L R:List SP}
theorem MB (l:List qT) (st:List Int):(wP l st).length=st.length:=by simp[wP]
theorem qgP {l:List qT} {st:List Int} (hn:st≠[]):(wP l st)[st.length-1]? =some (dh l st):=by have hl:=List.length_pos_iff.2 hn;rw[qzO hn,List.getLast?_eq_getElem?,MB,iW (by rw[MB];omega)];rfl
def Cz (l:List qT) (st:List Int):Prop:=∀o∈wP l st,o=14∨o=17∨o=18
theorem Cz.at {l:List qT} {st:List Int} (h:Cz l st) (cS:st≠[]):dh l st=14∨dh l st=17∨dh l st=18:=h _ (List.mem_of_getElem? (qgP cS))
end
section
variable {g h:AH} {L R:List SP}
theorem YH {p:Int} {c:Cl} {l:List Cl}:zW p (c::l)=if c.1=p then some c.2 else zW p l:=rfl
theorem qxm (zs:List Int) {i:Nat} (h0:0<i) (h:i<dt zs.length):zW (i:Int) (kW zs)=some (vN zs i):=by
 have e:kW zs=(kW zs).take (i-1)++[((i:Int),vN zs i)]++(kW zs).drop i:=by have hk:=Hd zs (show i-1+1<dt zs.length by omega);rw[show i-1+1=i by omega]at hk;have:=List.take_add_one (l:=kW zs) (i:=i-1);rw[show i-1+1=i by omega,hk,Option.toList_some]at this;rw[← this,List.take_append_drop]
 have hg:∀(l1 l2:List Cl),zW (i:Int) l1=none→zW (i:Int) (l1++l2)=zW (i:Int) l2:=by
  intro l1 l2
  induction l1 with
  |nil=>intro _;rfl
  |cons c l ih=>
   intro hn;rw[YH]at hn
   split at hn
   ·cases hn
   ·rename_i hc;show zW (i:Int) (c::(l++l2))=_;rw[YH,iQ hc];exact ih hn
 rw[e,List.append_assoc,hg _ _ (qzd zs omQ)];show zW (i:Int) (((i:Int),vN zs i)::_)=_;rw[YH,iJ rfl]
theorem Qg {zs:List Int} {m:Int} (hz:∀z∈zs,0≤z∧z<18446744073709551616):jg (jR zs m):=by
 refine⟨qGA zs m,?_,?_⟩
 ·intro c hc;obtain⟨i,_,rfl⟩:=List.mem_map.1 hc;show 0≤vN zs (i+1)∧vN zs (i+1)<18446744073709551616;unfold vN;cases hzi:zs[i+1]? with
  |none=>simp
  |some z=>exact hz z (List.mem_of_getElem? hzi)
 ·intro x hx;simp[jR]at hx;subst hx;intro c hc;cases hc
theorem Kj {b o:Nat} {K:AV→Go.Ae.R} {Q:AV→AH→Prop} (w:wp (K (.bool false)) Q):wp (ml .ptr false (.ptr b o) .aO K) Q:=w
theorem Ky {b o:Nat} {K:AV→Go.Ae.R} {Q:AV→AH→Prop} (w:wp (K (.bool true)) Q):wp (ml .ptr true (.ptr b o) .aO K) Q:=w
theorem qGN (op a n:Int) (s:IM) (V:VM):(zS op a n s V).bp=false:=by unfold zS;split<;>rfl
theorem qjr {mt:List Int} {s:IM} {V:VM} {x:qT} (h:1≤x.1∧x.1≤23) (h1:x.1≠20) (h3:x.1≠23):(bK mt s V x).bp=false:=by
 unfold bK;by_cases c1:x.1=1
 ·rw[iJ c1]
 rw[iQ c1];by_cases c2:x.1=2
 ·rw[iJ c2]
 rw[iQ c2];by_cases c3:x.1=3
 ·rw[iJ c3]
 rw[iQ c3];by_cases c4:x.1=4
 ·rw[iJ c4]
 rw[iQ c4];by_cases c5:x.1=5
 ·rw[iJ c5]
 rw[iQ c5];by_cases c6:x.1=6
 ·rw[iJ c6]
 rw[iQ c6];by_cases c7:x.1=7
 ·rw[iJ c7]
 rw[iQ c7];by_cases mh:x.1=12
 ·rw[iJ mh]
 rw[iQ mh];by_cases mi:x.1=13
 ·rw[iJ mi]
 rw[iQ mi];by_cases nU:x.1=21
 ·rw[iJ nU];split<;>rfl
 rw[iQ nU];by_cases pB:x.1=22
 ·rw[iJ pB]
 rw[iQ pB];by_cases c8:x.1=8∨x.1=9∨x.1=10∨x.1=11
 ·rw[iJ c8]
 rw[iQ c8];unfold kQ;by_cases t1:x.1=14∨x.1=17
 ·rw[iJ t1];exact qGN ..
 rw[iQ t1];by_cases t2:x.1=15∨x.1=19
 ·rw[iJ t2]
 rw[iQ t2];by_cases t3:x.1=18
 ·rw[iJ t3]
 rw[iQ t3];by_cases t4:x.1=16
 ·rw[iJ t4]
 omega
def CA (l:List qT):Prop:=∀x∈l,x.1≠20
theorem qzS {l:List qT} (F:Fit l) (Q:Quiet l) (C:CA l):∀(n:Nat) {s:IM} {V:VM},GI l s V→bD V.lv+n<9000→(jM l (qP l) n s V).kind≠3:=by
 intro n
 induction n with
 |zero=>
  intro s V G hf;rw[gu]
  split
  ·show(2:Int)≠3;decide
  ·show(4:Int)≠3;decide
 |succ n ih=>
  intro s V G hf;rw[vR]
  split
  ·show(2:Int)≠3;decide
  ·rename_i h0;obtain⟨i,hi,pY⟩:=G.pc;have au:i<l.length:=by omega
   rw[hi];have S:=XP F G hi au omQ (Q.at au).2 (Q.at au).1;have hb:(bK (qP l) s V (qR l i)).bp=false:=by have hw:=vH (F.ok i au);have hb:=PM hw.1 (Q.at au).1;refine qjr omQ ?_ (Q.at au).1;rw[y6 au];exact C _ (List.getElem_mem au)
   generalize bK (qP l) s V (qR l i)=D at*;rw[hb]
   split
   ·rename_i h1;rw[iQ aN];have pz:=S.fr;exact ih (S.next h1 hb) omQ
   ·split
    ·show(1:Int)≠3;decide
    ·show(4:Int)≠3;decide
theorem Rm {l:List qT} {zs:List Int} {m:Int} (hz:Cy zs):GI l YU (jR zs m):=Jv rfl (Qg hz)
theorem Gf (zs:List Int) (m:Int):bD (jR zs m).lv=0:=by simp[jR,bD]
section
variable {x y v u:Nat} {l l':List qT} {b b':Int} {mt mt':List Int} {s s':IM} {e e' f f' n1 n2 nx uv:Int} {V W:VM}
end
end
section
def jz:JX→VM→(Int×Int)×JX×VM
 | .prog q,V=>(((jM q.l (qP q.l) q.left q.s V).kind,(jM q.l (qP q.l) q.left q.s V).err),
   .prog ⟨q.l,(jM q.l (qP q.l) q.left q.s V).s,if(jM q.l (qP q.l) q.left q.s V).kind=1 then 0 else(jM q.l (qP q.l) q.left q.s V).kind,(jM q.l (qP q.l) q.left q.s V).err,(jM q.l (qP q.l) q.left q.s V).left⟩,
   (jM q.l (qP q.l) q.left q.s V).v)
 | .ao bs k,V=>(if(jE V (bs.drop k) k).1.2=11 then(1,0)else if(jE V (bs.drop k) k).1.2=0 then(2,0)else(4,(jE V (bs.drop k) k).1.2),.ao bs (jE V (bs.drop k) k).1.1,(jE V (bs.drop k) k).2)
theorem K3 (x:q8):yB x=((jz x.ax x.v).1,{ x with ax:=(jz x.ax x.v).2.1,v:=(jz x.ax x.v).2.2 }):=by unfold yB jz;cases x.ax<;>rfl
theorem qJc:∀(bs:List Int) (k:Nat) {V W:VM},zb V W→jg V→jg W→
  ((jE V bs k).1.2=11∧∃(j:Nat) (W':VM),(jE V bs k).1.1=k+j∧zb (jE V bs k).2 W'∧jg W'∧W'.K=W.K∧W'.sz=W.sz∧jE W bs k=jE W' (bs.drop j) (k+j))∨
  ((jE V bs k).1.2≠11∧(jE W bs k).1=(jE V bs k).1∧zb (jE V bs k).2 (jE W bs k).2):=by
 intro bs
 induction bs with
 |nil=>intro k V W h _ _;exact .inr ⟨by show(0:Int)≠11;decide,rfl,h⟩
 |cons b r ih=>
  intro k V W h GV GW;have hk:=GG (b:=b) GV.ok;rcases h.lg b with cD |⟨e,hp⟩
  ·left;have e0:jE V (b::r) k=((k,(zY V b).1),(zY V b).2):=iQ (by rw[cD];decide);have hn:=GL cD;rw[e0];refine⟨cD,0,W,rfl,⟨hk.sz.trans h.sz,hk.most.trans h.most,hn.1.trans h.lv,λp x hx=>h.K p x (by rw[← hk.K];exact hx)⟩,GW,rfl,rfl,rfl⟩
  ·have kW:=GG (b:=b) GW.ok;by_cases h0:(zY V b).1=0
   ·have e1:jE V (b::r) k=jE (zY V b).2 r (k+1):=iJ h0;have e2:jE W (b::r) k=jE (zY W b).2 r (k+1):=iJ (by rw[← e];exact h0);rw[e1,e2];rcases ih (k+1) hp GV.lg.1 GW.lg.1 with⟨a,j,W',b1,b2,b3,b4,b5,b6⟩ |a
    ·refine .inl ⟨a,j+1,W',by omega,b2,b3,b4.trans kW.K,b5.trans kW.sz,?_⟩;rw[b6,List.drop_succ_cons,show k+1+j=k+(j+1) by omega]
    ·exact .inr a
   ·have e1:jE V (b::r) k=((k,(zY V b).1),(zY V b).2):=iQ h0;have e2:jE W (b::r) k=((k,(zY W b).1),(zY W b).2):=iQ (by rw[← e];exact h0);rw[e1,e2];by_cases cD:(zY V b).1=11
    ·left;have hn:=GL cD;refine⟨cD,0,W,rfl,⟨hk.sz.trans h.sz,hk.most.trans h.most,hn.1.trans h.lv,λp x hx=>h.K p x (by rw[← hk.K];exact hx)⟩,GW,rfl,rfl,?_⟩;rw[List.drop_zero,Nat.add_zero,e2]
    ·exact .inr ⟨cD,by rw[← e],hp⟩
theorem qkD {j:JX} {V W:VM} (h:zb V W) (GV:jg V) (GW:jg W) (hV:bu True V j) (hW:bu True W j) :
  ((jz j V).1.1=1∧∃W',zb (jz j V).2.2 W'∧jg W'∧W'.K=W.K∧W'.sz=W.sz∧bu True W' (jz j V).2.1∧jz j W=jz (jz j V).2.1 W')∨
  ((jz j V).1.1≠1∧(jz j W).1=(jz j V).1∧(jz j W).2.1=(jz j V).2.1∧zb (jz j V).2.2 (jz j W).2.2):=by
 cases j with
 |prog q=>
  obtain⟨F,Q,gb,hr,hl⟩:=hV;obtain⟨G,h0,h1,h2⟩:=hr trivial;obtain⟨GWi,_,_,h3⟩:=hW.2.2.2.1 trivial;rcases qqr F Q q.left G GWi h2 h with⟨k1,W',p,eK,eS,g,e⟩ |⟨k1,e1,e2,e3,e4,p⟩
  ·left;refine⟨k1,W',p,g.aC,eK,eS,⟨F,Q,g.gb,λ_=>⟨g,iJ k1,Re _ k1,?_⟩,?_⟩,?_⟩
   ·have:=Rc F Q q.left G h2 k1;show bD W'.lv+(jM q.l (qP q.l) q.left q.s V).left<9000;rw[← p.lv];omega
   ·have:=Rf (l:=q.l) (mt:=qP q.l) q.left (s:=q.s) (V:=V);show(jM q.l (qP q.l) q.left q.s V).left≤400;omega
   ·unfold jz;dsimp only;rw[← e]
  ·right;refine⟨k1,?_,?_,p⟩
   ·show((jM q.l (qP q.l) q.left q.s W).kind,(jM q.l (qP q.l) q.left q.s W).err)=_;rw[e1,e2];rfl
   ·show JX.prog ⟨q.l,(jM q.l (qP q.l) q.left q.s W).s,if(jM q.l (qP q.l) q.left q.s W).kind=1 then 0 else(jM q.l (qP q.l) q.left q.s W).kind,(jM q.l (qP q.l) q.left q.s W).err,(jM q.l (qP q.l) q.left q.s W).left⟩=_;rw[e1,e2,e3,e4];rfl
 |ao bs k=>
  have hbk:=hV.1;rcases qJc (bs.drop k) k h GV GW with⟨a,j,W',b1,b2,b3,b4,b5,b6⟩ |⟨a,e,p⟩
  ·left;have a4:=(U7 (bs.drop k) k GV).2.2.2.1;rw[List.length_drop]at a4;refine⟨by unfold jz;dsimp only;rw[iJ a],W',b2,b3,b4,b5,⟨by show(jE V (bs.drop k) k).1.1≤bs.length;omega,hV.2⟩,?_⟩;unfold jz;dsimp only;rw[b6,b1,List.drop_drop]
  ·right;refine⟨?_,?_,?_,p⟩
   ·unfold jz;dsimp only;rw[iQ a]
    split
    ·decide
    ·exact(by decide:(4:Int)≠1)
   ·unfold jz;dsimp only;rw[e]
   ·unfold jz;dsimp only;rw[e]
section
variable {S:zR} {M:jD} {me:Int}
structure KnM (M:jD) (V:VM):Prop where
  sz:(V.sz:Int)=M.w.length
  K:∀p x,zW p V.K=some x→x=qE M.w p
theorem qgb {zs:List Int} {p:Int} (hp:1≤p) (h:p<dt zs.length):zW p (kW zs)=some (qE zs p):=by obtain⟨i,rfl⟩:∃i:Nat,p=i:=⟨p.toNat,by omega⟩;rw[qxm zs omQ omQ];unfold vN qE;rw[Int.toNat_natCast]
theorem qJE (O:yY S):∀(n:Nat) {M:jD} {x:q8} {W:VM},xI S M me→x.v.sz≤x.v.K.length+1+n→x.me=me→x.set=S→x.c=none→x.aj=M.n→wo S M x.r→w8 x→bu True x.v x.ax→zb x.v W→jg W→W.K=kW M.w→W.sz=dt M.w.length→bu True W x.ax→
  ∃(m:Nat) (y:q8),m≤3*n∧eP m (xT x) M (vD y (jz x.ax W).1.1 (jz x.ax W).1.2) (bump M m)∧(jz x.ax W).1.1≠1∧y.ax=(jz x.ax W).2.1∧zb y.v (jz x.ax W).2.2∧
   y.me=me∧y.set=S∧y.c=none∧y.aj=M.n∧wo S M y.r∧w8 y∧y.begun=x.begun∧y.bV=x.bV∧y.cj=x.cj:=by
 intro n
 induction n using Nat.strongRecOn with
 |ind n ih=>
 intro M x W C hn r5 ix hc hs hR B hj P GW hK bx Au;have D:=KO B.aC B.fr hj;rw[K3]at D;have sZ:=D.same;have eQ:=D.kept;rcases qkD P B.aC GW hj Au with⟨k1,W',p,gW,eK,eS,jW,e⟩ |⟨k1,e1,e2,p⟩
 ·obtain⟨n1,n2,n3⟩:=D.aK k1;dsimp only at n1 n2 n3 eQ;generalize CC:(jz x.ax x.v).2.2.aK=p0 at*;have HM:(x.v.sz:Int)=M.w.length:=by
   have h1:=B.sz;have h2:=C.w;rw[h1,ix,h2]
  have HN:dt M.w.length=x.v.sz:=by rw[← bx];exact P.sz.symm
  have hwS:p0<S.words:=by rw[← C.w,← HM];exact n2
  have ew:xT x=JQ { x with ax:=(jz x.ax x.v).2.1,v:=(jz x.ax x.v).2.2 } p0:=by unfold xT;rw[K3];unfold vD;rw[iJ k1];dsimp only;rw[CC]
  have CD:jg (jz x.ax x.v).2.2:=D.aC;obtain⟨F,hF⟩:=qgi O C (x:=JQ { x with ax:=(jz x.ax x.v).2.1,v:=(jz x.ax x.v).2.2 } p0) rfl hc (p:=p0) (by show kP x.me p0 (ofM p0 x.set.al x.set.wide) x.set.af x.aj=_;rw[ix];rfl) hs ⟨n1,hwS⟩ hR CC;have As:=Hy O (p:=p0) omQ;have CE:=wo.add O C hR As;have hw:0≤qE M.w p0∧qE M.w p0<18446744073709551616:=by
   have:=C.w;obtain⟨i,rfl⟩:∃i:Nat,p0=i:=⟨p0.toNat,by omega⟩;have hi:i<M.w.length:=by omega
   have e:=gX (a:=M.w) hi;exact C.wd _ (List.mem_of_getElem? e)
  have HO:zu (jz x.ax x.v).2.2 p0 (qE M.w p0)=(0,{ (jz x.ax x.v).2.2 with K:=(jz x.ax x.v).2.2.K++[(p0,qE M.w p0)] }):=qW1 n1 (by rw[eQ.1];exact n2) (by rw[eQ.2.1];exact n3);have Rn:(zu (jz x.ax x.v).2.2 p0 (qE M.w p0)).2.K.length=x.v.K.length+1:=by rw[HO];dsimp only;rw[eQ.2.1];simp
  have oD:=qg5 (VZ (p:=p0) (x:=qE M.w p0) CD.ok);have uE:=(wB (V:=(jz x.ax x.v).2.2) (p:=p0) (x:=qE M.w p0)).2;rw[Rn,uE,eQ.1]at oD;have dn:=B.aC.ok.lo;obtain⟨n',rfl⟩:∃n',n=n'+1:=⟨n-1,by omega⟩;have B2:w8 { JQ { x with ax:=(jz x.ax x.v).2.1,v:=(jz x.ax x.v).2.2 } p0 with f:=F,r:=(wU x.r (ofM p0 S.al S.wide,(zQ M.l (ofM p0 S.al S.wide)).1)).2,v:=(zu (jz x.ax x.v).2.2 p0 (qE M.w p0)).2 } :=
   ⟨B.set,Xq CD hw,by show((zu (jz x.ax x.v).2.2 p0 (qE M.w p0)).2.sz:Int)=_;rw[uE,eQ.1];exact B.sz,by show bD (zu (jz x.ax x.v).2.2 p0 (qE M.w p0)).2.lv<9000;rw[wB.1];exact D.fr,Y3 B.r,((D.ax.same λ_=>k1).mL hw).same λh=>h.elim,λc h=>B.c c h⟩
  have P2:zb (zu (jz x.ax x.v).2.2 p0 (qE M.w p0)).2 W':=by
   refine⟨uE.trans p.sz,?_,wB.1.trans p.lv,λq z hz=>?_⟩
   ·rw[HO];exact p.most
   ·rw[HO]at hz;dsimp only at hz;have hpn:zW p0 (jz x.ax x.v).2.2.K=none:=by rw[eQ.2.1];exact n3
    rw[← Qf (v:=qE M.w p0) hpn,K7]at hz;by_cases hq:q=p0
    ·rw[iJ hq]at hz;cases hz;rw[eK,hK,hq];exact qgb n1 (by rw[HN];exact n2)
    ·rw[iQ hq]at hz;exact p.K q z hz
  obtain⟨m,y,m1,m2,m3,m4,m5,m6,m7,m8,m9,m10,m11,m12⟩:=ih n' omQ (M:=bump M 3) (x:={ JQ { x with ax:=(jz x.ax x.v).2.1,v:=(jz x.ax x.v).2.2 } p0 with f:=F,r:=(wU x.r (ofM p0 S.al S.wide,(zQ M.l (ofM p0 S.al S.wide)).1)).2,v:=(zu (jz x.ax x.v).2.2 p0 (qE M.w p0)).2 })
   (W:=W') (C.bump 3) (by show(zu (jz x.ax x.v).2.2 p0 (qE M.w p0)).2.sz≤(zu (jz x.ax x.v).2.2 p0 (qE M.w p0)).2.K.length+1+n';rw[Rn,uE,eQ.1];omega) r5 ix hc hs ⟨CE.2.at_,CE.2.un⟩ B2 ((D.ax.same λ_=>k1).mL hw) P2 gW (eK.trans hK) (eS.trans bx) jW
  refine⟨3+m,y,by omega,?_,?_⟩
  ·rw[ew,e];have:=hF.trans m2;rw[wQ]at this;rw[Int.natCast_add];exact this
  ·rw[e];exact⟨m3,m4,m5,m6,m7,m8,m9,⟨m10.at_,m10.un⟩,m11,m12⟩
 ·refine⟨0,{ x with ax:=(jz x.ax x.v).2.1,v:=(jz x.ax x.v).2.2 },Nat.zero_le _,?_,by rw[e1];exact k1,e2.symm,p,r5,ix,hc,hs,hR,?_,rfl,rfl,rfl⟩
  ·unfold xT;rw[K3,e1,show bump M ((0:Nat):Int)=M by unfold bump;simp];exact .nil
  ·exact⟨B.set,D.aC,by show((jz x.ax x.v).2.2.sz:Int)=_;rw[eQ.1];exact B.sz,D.fr,B.r,D.ax.same λh=>h.elim,B.c⟩
end
end
section
section
variable {S:zR} {M:jD} {me:Int}
theorem GJ {x:q8} {a:cO} (h5:x.state=5) (ha:a.err=0):jS x a=xH { x with e:=xU x.e a }:=by unfold jS;rw[iQ omQ,iQ (by rw[ha];exact λh=>h rfl),iQ omQ,iQ omQ,iQ omQ,iQ omQ,iQ omQ,iQ omQ]
theorem UV {x:q8} (h5:x.state=5):xZ x=Jj x.e:=by unfold xZ;rw[iQ omQ,iQ omQ,iQ omQ,iQ omQ,iQ omQ,iQ omQ,iQ omQ]
theorem V6 {x:q8} (h5:x.state=5) (hc:x.c=none) (hf:x.e.p.fin=2):xH x=xy { x with aj:=x.e.aj } 3 0 (-1):=by
 unfold xH;have h1:(xV x).1=2:=by unfold xV;rw[iQ omQ,iQ omQ];exact hf
 rw[h1,iQ od,iQ od];unfold xm;rw[iQ omQ,iQ omQ,iJ h5];unfold gF;rw[iQ (λh=>h hf)];unfold zo;rw[wT (by exact hc)];rfl
theorem MC {x:q8} (h5:x.state=5) (hc:x.c=none) (hf:x.e.p.fin=0):xH x=x :=
 YY (by unfold xV;rw[iQ omQ,iQ omQ];exact hf) (wT hc)
theorem qqo {r:List xj} {n:Int}:∀(k:Nat) {M:jD} {x:q8} {i:Nat} {p:JZ},xI S M me→wo S M r→x.state=5→x.c=none→x.e=⟨p,r,true,i,n⟩→p.fin=0→r.length=i+k+1→
  ∃E:QF,eP (k+1) x M (xy { x with e:=E,aj:=n } 3 0 (-1)) (bump M (k+1:Nat)):=by
 intro k
 induction k with
 |zero=>
  intro M x i p C R h5 hc he hp hl;have hi:i<r.length:=by omega
  have hm:=R.at_ _ (List.getElem_mem hi);have dF:zT r (i:Int)=r[i]:=by unfold zT;rw[Int.toNat_natCast,iW hi];rfl
  obtain⟨v,e,_,_⟩:=C.at ⟨hm.1,hm.2.1⟩;refine⟨{ x.e with at_:=(i:Int)+1,p:=zV p 2 0 (-1) },.step (o:=bg 3 r[i].1 0) ?_ (KB C ⟨hm.1,hm.2.1⟩) ?_⟩
  ·rw[UV h5,he];unfold Jj;dsimp only;rw[iQ (λh=>h hp),iQ od,dF]
  ·rw[GJ h5 rfl,he];have ex:xU ⟨p,r,true,i,n⟩ ⟨0,zQ M.l r[i].1,false,0⟩=⟨zV p 2 0 (-1),r,true,(i:Int)+1,n⟩:=by
    unfold xU;have:(qu p ⟨0,zQ M.l r[i].1,false,0⟩)=(decide (p.fin≠0),p):=by unfold qu;rw[iQ (λh=>h.2 rfl)]
    dsimp only;rw[this,e];dsimp only;rw[iQ (by rw[hp];decide),iQ od,iQ od,iQ (by rw[dF,hm.2.2,e];exact λh=>h rfl)];unfold JC;dsimp only;rw[iJ omQ]
   rw[ex];exact V6 h5 hc rfl
 |succ k ih=>
  intro M x i p C R h5 hc he hp hl;have hi:i<r.length:=by omega
  have hm:=R.at_ _ (List.getElem_mem hi);have dF:zT r (i:Int)=r[i]:=by unfold zT;rw[Int.toNat_natCast,iW hi];rfl
  obtain⟨v,e,_,_⟩:=C.at ⟨hm.1,hm.2.1⟩;have s1:eP 1 x M { x with e:=⟨p,r,true,((i+1:Nat):Int),n⟩ } (bump M 1):=by
   refine .step (o:=bg 3 r[i].1 0) ?_ (KB C ⟨hm.1,hm.2.1⟩) ?_
   ·rw[UV h5,he];unfold Jj;dsimp only;rw[iQ (λh=>h hp),iQ od,dF]
   ·rw[GJ h5 rfl,he];have ex:xU ⟨p,r,true,i,n⟩ ⟨0,zQ M.l r[i].1,false,0⟩=⟨p,r,true,((i+1:Nat):Int),n⟩:=by
     unfold xU;have:(qu p ⟨0,zQ M.l r[i].1,false,0⟩)=(decide (p.fin≠0),p):=by unfold qu;rw[iQ (λh=>h.2 rfl)]
     dsimp only;rw[this,e];dsimp only;rw[iQ (by rw[hp];decide),iQ od,iQ od,iQ (by rw[dF,hm.2.2,e];exact λh=>h rfl)];unfold JC;dsimp only;rw[iQ omQ];rfl
    rw[ex];exact MC h5 hc hp
  obtain⟨E,t⟩:=ih (M:=bump M 1) (x:={ x with e:=⟨p,r,true,((i+1:Nat):Int),n⟩ }) (i:=i+1) (p:=p) (C.bump 1) ⟨R.at_,R.un⟩ h5 hc rfl hp omQ;have:=s1.trans t;rw[wQ,show(1:Int)+((k+1:Nat):Int)=((k+1+1:Nat):Int) by omega,show 1+(k+1)=k+1+1 by omega]at this;exact⟨E,this⟩
theorem qK8 (C:xI S M me) {y:q8} (hc:y.c=none) (R:wo S M y.r) (_:y.set.af=y.set.af):∃(m:Nat) (E:QF),m≤y.r.length+1∧eP m (yA y 5) M (xy { y with e:=E,aj:=M.n } 3 0 (-1)) (bump M m):=by
 have pU:xZ (yA y 5)=some (bg 6 0 0):=by rw[UV rfl];rfl
 by_cases h0:y.r.length=0
 ·refine⟨1,{ Uh y.me y.set.af y.r with cV:=true,aj:=M.n,p:=zV (QM y.me y.set.af) 2 0 (-1) },by omega,.step pU (Oa M) ?_⟩;rw[GJ rfl rfl];have ex:xU (yA y 5).e ⟨M.n,b8,false,0⟩={ Uh y.me y.set.af y.r with cV:=true,aj:=M.n,p:=zV (QM y.me y.set.af) 2 0 (-1) }:=by
   show JC _=_;unfold JC;rw[iJ (by show(0:Int)=(y.r.length:Int);omega)];rfl
  rw[ex];exact V6 rfl hc rfl
 ·have s1:eP 1 (yA y 5) M { yA y 5 with e:=⟨QM y.me y.set.af,y.r,true,((0:Nat):Int),M.n⟩ } (bump M 1):=by
   refine .step pU (Oa M) ?_;rw[GJ rfl rfl];have ex:xU (yA y 5).e ⟨M.n,b8,false,0⟩=⟨QM y.me y.set.af,y.r,true,((0:Nat):Int),M.n⟩:=by show JC _=_;unfold JC;rw[iQ (by show¬(0:Int)=(y.r.length:Int);omega)];rfl
   rw[ex];exact MC rfl hc rfl
  obtain⟨E,t⟩:=qqo (y.r.length-1) (M:=bump M 1) (x:={ yA y 5 with e:=⟨QM y.me y.set.af,y.r,true,((0:Nat):Int),M.n⟩ }) (i:=0) (C.bump 1) ⟨R.at_,R.un⟩ rfl hc rfl rfl omQ;have:=s1.trans t;rw[wQ,show(1:Int)+((y.r.length-1+1:Nat):Int)=((1+(y.r.length-1+1):Nat):Int) by omega]at this;exact⟨_,E,by omega,this⟩
inductive Jm:Nat→zq→jD→zq→jD→Prop
  |nil {c:zq} {M:jD}:Jm 0 c M c M
  |cons {k:Nat} {c d:zq} {M N:jD} {o:dz} {a:cO} {M1:jD} {c1:zq} (hn:xP c=some o) (e:jC M o=(a,M1)) (h0:a.err=0) (h1:zj c a=c1) (h2:c1.p.fin=0) (r:Jm k c1 M1 d N):Jm (k+1) c M d N
theorem Jm.trans {a b:Nat} {x y z:zq} {M N O:jD} (s:Jm a x M y N) (t:Jm b y N z O):Jm (a+b) x M z O:=by
 induction s with
 |nil=>rw[Nat.zero_add];exact t
 |cons hn e h0 h1 h2 _ ih=>rw[Nat.add_right_comm];exact .cons hn e h0 h1 h2 (ih t)
theorem ZR {x:q8} {c:zq} (h6:x.state=6) (hc:x.c=some c):xZ x=xP c:=by unfold xZ;rw[iQ omQ,iQ omQ,iQ omQ,iQ omQ,iQ omQ,iQ omQ,iJ h6,hc];rfl
theorem Ol {x:q8} {a:cO} {c:zq} (h6:x.state=6) (ha:a.err=0) (hc:x.c=some c):jS x a=xH { x with c:=some (zj c a) }:=by unfold jS;rw[iQ omQ,iQ (by rw[ha];exact λh=>h rfl),iQ omQ,iQ omQ,iQ omQ,iQ omQ,iQ omQ,iJ h6,hc];rfl
theorem qWR {k:Nat} {c d:zq} {N:jD} (s:Jm k c M d N):∀{x:q8},x.state=6→x.c=some c→∃z,eP k x M { x with c:=some d,aj:=z } N:=by
 induction s with
 |nil=>intro x h6 hc;refine⟨x.aj,?_⟩;have:x={ x with c:=x.c,aj:=x.aj }:=rfl;rw[← hc];exact .nil
 | @cons k c d M N o a M1 c1 hn e h0 h1 h2 _ ih=>
  intro x h6 hc;have ht:∃z,jS x a={ x with c:=some c1,aj:=z }:=by
   rw[Ol h6 h0 hc,h1];unfold xH;have hf:(xV { x with c:=some c1 }).1=0:=by unfold xV;rw[iQ (by show¬x.state=3;omega),iJ (by exact h6)];exact h2
   rw[iJ hf];unfold zo
   split
   ·exact⟨ga c1,rfl⟩
   ·exact⟨x.aj,rfl⟩
  obtain⟨z,hz⟩:=ht;obtain⟨z',Ev⟩:=ih (x:={ x with c:=some c1,aj:=z }) h6 rfl;refine⟨z',.cons (o:=o) (by rw[ZR h6 hc];exact hn) ?_⟩;rw[e];dsimp only;rw[hz];exact Ev
theorem qjM {x:q8} {c c1:zq} {o:dz} {a:cO} {N:jD} (h6:x.state=6) (hc:x.c=some c) (hn:xP c=some o) (e:jC M o=(a,N)) (h0:a.err=0) (h1:zj c a=c1) (h2:c1.p.fin=2) (he:c1.p.err=0):eP 1 x M { xy { x with c:=some c1 } 2 0 (-1)with aj:=ga c1 } N:=by
 refine .step (by rw[ZR h6 hc];exact hn) e ?_;rw[Ol h6 h0 hc,h1];unfold xH;have hf:(xV { x with c:=some c1 }).1=2:=by unfold xV;rw[iQ (by show¬x.state=3;omega),iJ (by exact h6)];exact h2
 rw[hf,iQ od,iQ od];unfold xm;rw[iQ (by show¬x.state=3;omega),iQ (by show¬x.state=4;omega),iQ (by show¬x.state=5;omega)];dsimp only;rw[h2,he];unfold zo;rw[iJ (by show(decide ((7:Int)≠8)&&(wq c1||decide (c1.p.fin=2)))=true;rw[h2];simp)];rfl
end
end
section
theorem Ro {l:List cZ} {a b:Int} {x:cZ} (ha:0≤a) (hb:0≤b) (hl:a<l.length):zQ (l.set a.toNat x) b=if a=b then x else zQ l b:=by
 unfold zQ;rw[List.getElem?_set];by_cases h:a=b
 ·rw[iJ (by rw[h]),iJ omQ,iJ h];rfl
 ·rw[iQ omQ,iQ h]
def xp (me:Int) (l:List cZ) (ss:List Int):List cZ:=ss.foldl (λl s=>l.set s.toNat ((zQ l s).1,true,me)) l
def gp (n:Int) (l:List cZ) (ss:List Int):List cZ:=ss.foldl (λl s=>l.set s.toNat (n,false,0)) l
def Jw (w:List Int) (cs:List Cl):List Int:=cs.foldl (λw c=>w.set c.1.toNat c.2) w
theorem kw {me:Int}:∀{ss:List Int} {l:List cZ},(xp me l ss).length=l.length:=by
 intro ss
 induction ss with
 |nil=>intro l;rfl
 |cons s r ih=>intro l;exact ih.trans (List.length_set ..)
theorem Ge {n:Int}:∀{ss:List Int} {l:List cZ},(gp n l ss).length=l.length:=by
 intro ss
 induction ss with
 |nil=>intro l;rfl
 |cons s r ih=>intro l;exact ih.trans (List.length_set ..)
theorem Oh:∀{cs:List Cl} {w:List Int},(Jw w cs).length=w.length:=by
 intro cs
 induction cs with
 |nil=>intro l;rfl
 |cons s r ih=>intro l;exact ih.trans (List.length_set ..)
theorem OO {me:Int} {b:Int} (hb:0≤b):∀{ss:List Int} {l:List cZ},(∀s∈ss,0≤s∧s<l.length)→b∉ss→zQ (xp me l ss) b=zQ l b:=by
 intro ss
 induction ss with
 |nil=>intro l _ _;rfl
 |cons s r ih=>intro l h hn;have hs:=h s (iK ..);show zQ (xp me (l.set s.toNat ((zQ l s).1,true,me)) r) b=_;rw[ih (λt ht=>by rw[List.length_set];exact h t (iX _ ht)) (λht=>hn (iX _ ht)),Ro hs.1 hb hs.2,iQ (λe=>hn (by rw[e];exact iK ..))]
theorem qxu {n:Int} {b:Int} (hb:0≤b):∀{ss:List Int} {l:List cZ},(∀s∈ss,0≤s∧s<l.length)→zQ (gp n l ss) b=if b∈ss then(n,false,0)else zQ l b:=by
 intro ss
 induction ss with
 |nil=>intro l _;rfl
 |cons s r ih=>
  intro l h;have hs:=h s (iK ..);show zQ (gp n (l.set s.toNat (n,false,0)) r) b=_;rw[ih (λt ht=>by rw[List.length_set];exact h t (iX _ ht)),Ro hs.1 hb hs.2];by_cases h1:b∈r
  ·rw[iJ h1,iJ (iX _ h1)]
  ·rw[iQ h1];by_cases h2:s=b
   ·rw[iJ h2,iJ (by rw[h2];exact iK ..)]
   ·rw[iQ h2,iQ (λh=>by rcases List.mem_cons.1 h with h |h;exact h2 h.symm;exact h1 h)]
theorem qX5 {me:Int} {l:List cZ} {a:List Int} {s:Int}:xp me l (a++[s])=(xp me l a).set s.toNat ((zQ (xp me l a) s).1,true,me):=by unfold xp;rw[List.foldl_append];rfl
theorem qGi {n:Int} {l:List cZ} {a:List Int} {s:Int}:gp n l (a++[s])=(gp n l a).set s.toNat (n,false,0):=by unfold gp;rw[List.foldl_append];rfl
theorem qYB {w:List Int} {a:List Cl} {c:Cl}:Jw w (a++[c])=(Jw w a).set c.1.toNat c.2:=by unfold Jw;rw[List.foldl_append];rfl
section
variable {S:zR} {M:jD} {me:Int}
theorem qYU {p:JZ} {a:cO} (hp:p.fin=0) (ha:a.err=0):qu p a=(false,p):=by
 unfold qu;rw[iQ (λh=>h.2 ha)]
 congr 1
 exact iV (λh=>h hp)
theorem wy {c:zq} {a:cO} (hp:c.p.fin=0) (ha:a.err=0):zj c a=if c.state=0∨c.state=1 then kx c a
 else if c.state=2∨c.state=3 then gD c a
 else if c.state=4 then wZ c a.lk
 else if c.state=5 then yh { c with at_:=c.at_+1 }
 else if c.state=6 then y3 { c with at_:=c.at_+1 }
 else gQ { c with at_:=c.at_+1 }:=by
 unfold zj;rw[qYU hp ha];rfl
theorem qv0 {M N:jD} {o:dz} {a:cO} (hk:o.kind=1∨o.kind=2) (e:Jp M o=(a,N)) (h0:a.err=0):jC M o=(a,{ N with aX:=N.aX+1 }):=by
 have e':yH M o=(a,N):=by unfold yH;rw[iJ hk,e]
 rw[wF,e'];exact iJ h0
theorem Nt {M N:jD} {o:dz} {a:cO} (hk:o.kind=3∨o.kind=4∨o.kind=5) (e:QV M o=(a,N)) (h0:a.err=0):jC M o=(a,{ N with aX:=N.aX+1 }):=by
 have e':yH M o=(a,N):=by unfold yH;rw[iQ omQ,iJ hk,e]
 rw[wF,e'];exact iJ h0
theorem qvF {M N:jD} {o:dz} {a:cO} (hk:o.kind=6∨o.kind=7) (e:JO M o=(a,N)) (h0:a.err=0):jC M o=(a,{ N with aX:=N.aX+1 }):=by
 have e':yH M o=(a,N):=by unfold yH;rw[iQ omQ,iQ omQ,iJ hk,e]
 rw[wF,e'];exact iJ h0
theorem Xy {α:Type} {l:List α} {i:Nat} (h:i<l.length):l.take (i+1)=l.take i++[l[i]]:=by rw[List.take_add_one,iW h];rfl
theorem qX7 (C:xI S M me) (h4:S.aa≤4) {c:zq} (r5:c.me=me) (hp:c.p.fin=0) (nT:∀s∈c.s,0≤s∧s<S.al) (hr:c.s.Pairwise (· < ·)):∀(k:Nat) {i:Nat} {L:cZ} {z:Int},c.s.length=i+k→0<k→
  ∃L',Jm (2*k) { c with aR:=(c.s.take i).map (zQ M.l),lk:=L,state:=0 } { M with l:=xp me M.l (c.s.take i),aX:=z } { c with aR:=c.s.map (zQ M.l),lk:=L',state:=2 } { M with l:=xp me M.l c.s,aX:=z+(2*k:Nat) }:=by
 intro k
 induction k with
 |zero=>intro _ _ _ _ h;omega
 |succ k ih=>
  intro i L z hl _;have hi:i<c.s.length:=by omega
  have iH:=List.getElem_mem hi;have HQ:=nT _ iH;have hlen:=C.l;have s4:((c.s.take i).map (zQ M.l)).length=i:=by simp;omega
  have r6:qE c.s (i:Int)=c.s[i]:=by unfold qE;rw[Int.toNat_natCast,iW hi];rfl
  have oR:c.s[i]∉c.s.take i:=λh=>by
   obtain⟨j,hj⟩:=List.getElem?_of_mem h;have fE:=(List.getElem?_eq_some_iff.1 hj).1;simp at fE;rw[List.getElem?_take_of_lt omQ,iW omQ]at hj;have:=List.pairwise_iff_getElem.1 hr j i omQ hi omQ;have:=Option.some.inj hj;omega
  obtain⟨v,ev,v0,v1⟩:=C.at HQ;have Ia:=OO (me:=me) (b:=c.s[i]) HQ.1 (ss:=c.s.take i) (l:=M.l) (λs hs=>by have:=nT s (List.mem_of_mem_take hs);omega) oR;have hn:=C.n;have hm:=C.me;have d1:jC { M with l:=xp me M.l (c.s.take i),aX:=z } (bg 3 c.s[i] 0)=(⟨0,(v,false,0),false,0⟩,{ M with l:=xp me M.l (c.s.take i),aX:=z+1 }):=by
   have e:QV { M with l:=xp me M.l (c.s.take i),aX:=z } (bg 3 c.s[i] 0)=(⟨0,(v,false,0),false,0⟩,{ M with l:=xp me M.l (c.s.take i),aX:=z }):=by unfold QV;rw[iQ (by show¬(c.s[i]<0∨((xp me M.l (c.s.take i)).length:Int)≤c.s[i]);rw[kw];omega),iJ (by rfl)];show((⟨0,zQ (xp me M.l (c.s.take i)) c.s[i],false,0⟩:cO),_)=_;rw[Ia,ev]
   exact Nt (.inl rfl) e rfl
  have t1:zj { c with aR:=(c.s.take i).map (zQ M.l),lk:=L,state:=0 } ⟨0,(v,false,0),false,0⟩={ c with aR:=(c.s.take i).map (zQ M.l),lk:=(v,false,0),state:=1 }:=by rw[wy (by exact hp) rfl,iJ (.inl rfl)];unfold kx;rw[iQ (λh=>by cases h.2),iJ (by rfl)]
  have d2:jC { M with l:=xp me M.l (c.s.take i),aX:=z+1 } ⟨4,c.s[i],0,0,(v,false,0),(v,true,me)⟩=(⟨0,b8,true,0⟩,{ M with l:=xp me M.l (c.s.take (i+1)),aX:=z+2 }):=by
   have e:QV { M with l:=xp me M.l (c.s.take i),aX:=z+1 } ⟨4,c.s[i],0,0,(v,false,0),(v,true,me)⟩=(⟨0,b8,true,0⟩,{ M with l:=xp me M.l (c.s.take (i+1)),aX:=z+1 }):=by
    unfold QV
    rw[iQ (by show¬(c.s[i]<0∨((xp me M.l (c.s.take i)).length:Int)≤c.s[i]);rw[kw];omega),iQ (by show¬(4:Int)=3;decide),iQ (by
     show¬¬Y5 (v,true,me)
     exact λh=>h (Mt.2 ⟨by omega,by omega,by omega⟩)),iQ (by show¬(4:Int)=5;decide),iQ (by show¬zQ (xp me M.l (c.s.take i)) c.s[i]≠(v,false,0);rw[Ia,ev];exact λh=>h rfl)]
    rw[Xy hi,qX5,Ia,ev]
   have:=Nt (.inr (.inl rfl)) e rfl;rw[this];show(_,({ M with l:=xp me M.l (c.s.take (i+1)),aX:=z+1+1 }:jD))=_;rw[Int.add_assoc];rfl
  have Ib:(c.s.take i).map (zQ M.l)++[(v,false,0)]=(c.s.take (i+1)).map (zQ M.l):=by rw[Xy hi,List.map_append,List.map_singleton,ev]
  have wl1:((c.s.take (i+1)).map (zQ M.l)).length=i+1:=by simp;omega
  have t2:zj { c with aR:=(c.s.take i).map (zQ M.l),lk:=(v,false,0),state:=1 } ⟨0,b8,true,0⟩={ c with aR:=(c.s.take (i+1)).map (zQ M.l),lk:=(v,false,0),state:=if i+1=c.s.length then 2 else 0 }:=by rw[wy (by exact hp) rfl,iJ (.inr rfl)];unfold kx;rw[iQ (λh=>by cases h.1),iQ (by show¬(1:Int)=0;decide),iJ (by rfl)];unfold Qk;dsimp only;rw[Ib,wl1]
  have n1:xP { c with aR:=(c.s.take i).map (zQ M.l),lk:=L,state:=0 }=some (bg 3 c.s[i] 0):=by unfold xP;rw[iQ (λh=>h hp),iJ (by rfl)];dsimp only;rw[s4,r6]
  have n2:xP { c with aR:=(c.s.take i).map (zQ M.l),lk:=(v,false,0),state:=1 }=some ⟨4,c.s[i],0,0,(v,false,0),(v,true,me)⟩:=by unfold xP;rw[iQ (λh=>h hp),iQ (by show¬(1:Int)=0;decide),iJ (by rfl)];dsimp only;rw[s4,r6,r5]
  have two:∀{k':Nat} {d:zq} {N:jD},Jm k' { c with aR:=(c.s.take (i+1)).map (zQ M.l),lk:=(v,false,0),state:=if i+1=c.s.length then 2 else 0 } { M with l:=xp me M.l (c.s.take (i+1)),aX:=z+2 } d N→
    Jm (k'+1+1) { c with aR:=(c.s.take i).map (zQ M.l),lk:=L,state:=0 } { M with l:=xp me M.l (c.s.take i),aX:=z } d N:=λr=>.cons n1 d1 rfl t1 hp (.cons n2 d2 rfl t2 hp r)
  by_cases hk:k=0
  ·subst hk;refine⟨(v,false,0),two ?_⟩;rw[iJ omQ,List.take_of_length_le omQ];exact .nil
  ·rw[iQ omQ]at two;obtain⟨L',r⟩:=ih (i:=i+1) (L:=(v,false,0)) (z:=z+2) omQ omQ;refine⟨L',?_⟩;have:=two r;rw[show 2*(k+1)=2*k+1+1 by omega,show z+((2*k+1+1:Nat):Int)=z+2+((2*k:Nat):Int) by omega];exact this
theorem qGn {c:zq} (hp:c.p.fin=0) (h0:c.s≠[]) (ff:∀q∈c.cells,1≤q.1∧q.1<M.w.length):∀(k:Nat) {i:Nat} {z:Int},c.cells.length=i+k→0<k→
  Jm k { c with state:=5,at_:=(i:Int) } { M with w:=Jw M.w (c.cells.take i),aX:=z } { c with state:=6,at_:=0 } { M with w:=Jw M.w c.cells,aX:=z+(k:Nat) }:=by
 intro k
 induction k with
 |zero=>intro _ _ _ h;omega
 |succ k ih=>
  intro i z hl _;have hi:i<c.cells.length:=by omega
  have pp:=ff _ (List.getElem_mem hi);have lX:wu c.cells (i:Int)=c.cells[i]:=by unfold wu;rw[Int.toNat_natCast,iW hi];rfl
  have n1:xP { c with state:=5,at_:=(i:Int) }=some (bg 2 c.cells[i].1 c.cells[i].2):=by unfold xP;rw[iQ (λh=>h hp),iQ (by show¬(5:Int)=0;decide),iQ (by show¬(5:Int)=1;decide),iQ (by show¬(5:Int)=2;decide),iQ (by show¬(5:Int)=3;decide),iQ (by show¬(5:Int)=4;decide),iJ (by rfl)];dsimp only;rw[lX]
  have d1:jC { M with w:=Jw M.w (c.cells.take i),aX:=z } (bg 2 c.cells[i].1 c.cells[i].2)=(fk,{ M with w:=Jw M.w (c.cells.take (i+1)),aX:=z+1 }):=by
   have e:Jp { M with w:=Jw M.w (c.cells.take i),aX:=z } (bg 2 c.cells[i].1 c.cells[i].2)=(fk,{ M with w:=Jw M.w (c.cells.take (i+1)),aX:=z }):=by unfold Jp;rw[iQ (by show¬(c.cells[i].1<1∨((Jw M.w (c.cells.take i)).length:Int)≤c.cells[i].1);rw[Oh];omega),iQ (by show¬(2:Int)=1;decide)];rw[Xy hi,qYB];rfl
   exact qv0 (.inr rfl) e rfl
  have t1:zj { c with state:=5,at_:=(i:Int) } fk=if i+1=c.cells.length then{ c with state:=6,at_:=0 }else{ c with state:=5,at_:=((i+1:Nat):Int) }:=by
   rw[wy (by exact hp) rfl,iQ (by show¬((5:Int)=0∨(5:Int)=1);decide),iQ (by show¬((5:Int)=2∨(5:Int)=3);decide),iQ (by show¬(5:Int)=4;decide),iJ (by rfl)];unfold yh;dsimp only;by_cases h:i+1=c.cells.length
   ·rw[iJ omQ,iJ h];unfold y3;dsimp only;have:0<c.s.length:=List.length_pos_iff.2 h0;rw[iQ omQ]
   ·rw[iQ omQ,iQ h];rfl
  by_cases hk:k=0
  ·subst hk;rw[iJ omQ]at t1;rw[show c.cells.take (i+1)=c.cells from List.take_of_length_le omQ]at d1;exact .cons n1 d1 rfl t1 hp .nil
  ·rw[iQ omQ]at t1;have r:=ih (i:=i+1) (z:=z+1) omQ omQ;rw[show z+((k+1:Nat):Int)=z+1+((k:Nat):Int) by omega];exact .cons n1 d1 rfl t1 hp r
theorem qVS {c:zq} (hp:c.p.fin=0) (rX:0≤c.now∧c.now<4611686018427387903) (nT:∀s∈c.s,0≤s∧s<M.l.length):∀(k:Nat) {i:Nat} {z:Int},c.s.length=i+k+1→
  Jm k { c with state:=6,at_:=(i:Int) } { M with l:=gp (c.now+1) M.l (c.s.take i),aX:=z } { c with state:=6,at_:=(c.s.length-1:Nat) } { M with l:=gp (c.now+1) M.l (c.s.take (c.s.length-1)),aX:=z+(k:Nat) }∧
  (xP { c with state:=6,at_:=(c.s.length-1:Nat) }=some ⟨5,qE c.s (c.s.length-1:Nat),0,0,b8,(c.now+1,false,0)⟩∧
   jC { M with l:=gp (c.now+1) M.l (c.s.take (c.s.length-1)),aX:=z+(k:Nat) } ⟨5,qE c.s (c.s.length-1:Nat),0,0,b8,(c.now+1,false,0)⟩=(fk,{ M with l:=gp (c.now+1) M.l c.s,aX:=z+(k+1:Nat) })∧
   zj { c with state:=6,at_:=(c.s.length-1:Nat) } fk={ c with state:=6,at_:=(c.s.length:Nat),p:=zV c.p 2 0 (-1) }):=by
 have step:∀{i:Nat} {z:Int},i<c.s.length→xP { c with state:=6,at_:=(i:Int) }=some ⟨5,qE c.s i,0,0,b8,(c.now+1,false,0)⟩∧
   jC { M with l:=gp (c.now+1) M.l (c.s.take i),aX:=z } ⟨5,qE c.s i,0,0,b8,(c.now+1,false,0)⟩=(fk,{ M with l:=gp (c.now+1) M.l (c.s.take (i+1)),aX:=z+1 })∧
   zj { c with state:=6,at_:=(i:Int) } fk=y3 { c with state:=6,at_:=(i:Int)+1 }:=by
  intro i z hi;have HQ:=nT _ (List.getElem_mem hi);have r6:qE c.s (i:Int)=c.s[i]:=by unfold qE;rw[Int.toNat_natCast,iW hi];rfl
  refine⟨?_,?_,?_⟩
  ·unfold xP;rw[iQ (λh=>h hp),iQ (by show¬(6:Int)=0;decide),iQ (by show¬(6:Int)=1;decide),iQ (by show¬(6:Int)=2;decide),iQ (by show¬(6:Int)=3;decide),iQ (by show¬(6:Int)=4;decide),iQ (by show¬(6:Int)=5;decide),iJ (by rfl)]
  ·rw[r6];have e:QV { M with l:=gp (c.now+1) M.l (c.s.take i),aX:=z } ⟨5,c.s[i],0,0,b8,(c.now+1,false,0)⟩=(fk,{ M with l:=gp (c.now+1) M.l (c.s.take (i+1)),aX:=z }):=by
    unfold QV
    rw[iQ (by show¬(c.s[i]<0∨((gp (c.now+1) M.l (c.s.take i)).length:Int)≤c.s[i]);rw[Ge];omega),iQ (by show¬(5:Int)=3;decide),iQ (by
     show¬¬Y5 (c.now+1,false,0)
     exact λh=>h (NU.2 ⟨by omega,rfl⟩)),iJ (by rfl)]
    rw[Xy hi,qGi]
   exact Nt (.inr (.inr rfl)) e rfl
  ·rw[wy (by exact hp) rfl,iQ (by show¬((6:Int)=0∨(6:Int)=1);decide),iQ (by show¬((6:Int)=2∨(6:Int)=3);decide),iQ (by show¬(6:Int)=4;decide),iQ (by show¬(6:Int)=5;decide),iJ (by rfl)]
 intro k
 induction k with
 |zero=>
  intro i z hl;obtain rfl:i=c.s.length-1:=by omega
  obtain⟨a,b,d⟩:=step (i:=c.s.length-1) (z:=z) omQ;rw[show z+((0:Nat):Int)=z by simp,show z+((0+1:Nat):Int)=z+1 by simp];refine⟨.nil,a,?_,?_⟩
  ·rw[b,show c.s.length-1+1=c.s.length by omega,List.take_length]
  ·rw[d];unfold y3;dsimp only;rw[iJ omQ];rw[show((c.s.length-1:Nat):Int)+1=((c.s.length:Nat):Int) by omega]
 |succ k ih=>
  intro i z hl;obtain⟨a,b,d⟩:=step (i:=i) (z:=z) omQ;obtain⟨r,q⟩:=ih (i:=i+1) (z:=z+1) omQ;have hd:zj { c with state:=6,at_:=(i:Int) } fk={ c with state:=6,at_:=((i+1:Nat):Int) }:=by rw[d];unfold y3;dsimp only;rw[iQ omQ];rfl
  rw[show z+((k+1:Nat):Int)=z+1+((k:Nat):Int) by omega,show z+((k+1+1:Nat):Int)=z+1+((k+1:Nat):Int) by omega];exact⟨.cons a b rfl hd hp r,q⟩
end
end
section
theorem OX {p v:Int} {l:List Cl} {c:Cl} (h:c∈yP p v l):c=(p,v)∨c∈l:=by
 induction l with
 |nil=>exact .inl (List.mem_singleton.1 h)
 |cons d l ih=>
  unfold yP at h
  split at h
  ·rename_i hd;rcases List.mem_cons.1 h with rfl |h
   ·exact .inl rfl
   ·exact .inr (iX _ h)
  ·rcases List.mem_cons.1 h with rfl |h
   ·exact .inr (iK ..)
   ·rcases ih h with h |h
    ·exact .inl h
    ·exact .inr (iX _ h)
theorem OY {cs:List Cl}:∀{l:List Cl} {c:Cl},c∈yF l cs→c∈cs∨c∈l:=by
 induction cs with
 |nil=>intro l c h;exact .inr h
 |cons d r ih=>
  intro l c h;rcases ih (l:=yP d.1 d.2 l) h with h |h
  ·exact .inl (iX _ h)
  ·rcases OX h with h |h
   ·exact .inl (by rw[h];exact iK ..)
   ·exact .inr h
theorem qVd:∀{lv:List bz} {out:List Cl} {c:Cl},c∈lv.foldl (λout x=>yF x.1 out) out→c∈out∨∃x∈lv,c∈x.1:=by
 intro lv
 induction lv with
 |nil=>intro out c h;exact .inl h
 |cons x r ih=>
  intro out c h;rcases ih h with h |⟨y,hy,h⟩
  ·rcases OY h with h |h
   ·exact .inl h
   ·exact .inr ⟨x,iK ..,h⟩
  ·exact .inr ⟨y,iX _ hy,h⟩
theorem YA {lv:List bz} {c:Cl} (h:c∈jA lv):∃x∈lv,c∈x.1:=by
 rcases qVd h with h |h
 ·cases h
 ·exact h
theorem Vf {lv:List bz} (h:∀x∈lv,∀c∈x.1,0≤c.2∧c.2<18446744073709551616):∀c∈jA lv,0≤c.2∧c.2<18446744073709551616:=λc hc=>by
 obtain⟨x,hx,h1⟩:=YA hc;exact h x hx c h1
def Av (n:Nat) (lv:List bz):Prop:=∀x∈lv,∀c∈x.1,1≤c.1∧c.1<n
theorem qji {n most:Nat} {lv:List bz} {p v:Int} (h:Av n lv) (hp:1≤p∧p<n):Av n (vL most lv p v).2:=by
 unfold vL;cases lv with
 |nil=>exact h
 |cons x r=>
  dsimp only
  split
  ·exact h
  ·split
   ·exact h
   ·intro y hy c hc;rcases List.mem_cons.1 hy with rfl |hy
    ·rcases OX hc with rfl |hc
     ·exact hp
     ·exact h x (iK ..) c hc
    ·exact h y (iX _ hy) c hc
theorem qK2 {n most:Nat} {aR:List bz} (hw:Av n aR):∀{cs:List Cl} {lv:List bz},Av n lv→(∀c∈cs,1≤c.1∧c.1<n)→Av n (vq most aR lv cs).2:=by
 intro cs
 induction cs with
 |nil=>intro lv h _;exact h
 |cons c cs ih=>
  intro lv h hc;rw[vP]
  split
  ·exact ih (qji h (hc c (iK ..))) λd hd=>hc d (iX _ hd)
  ·exact hw
def bY (V:VM):Prop:=Av V.sz V.lv
theorem bY.read {V:VM} (h:bY V) (p:Int):bY (qe V p).2:=by
 unfold qe
 repeat' split
 all_goals exact h
theorem bY.take {V:VM} (h:bY V) (cs:List Cl):bY (zJ V cs).2:=by
 unfold zJ
 split
 ·rename_i hc;exact qK2 h h hc
 ·exact h
theorem bY.ask {V:VM} (h:bY V) (b:Int):bY (jm V b).2:=by
 unfold jm
 repeat' split
 all_goals first |exact h |exact h.read _
theorem bY.again {V:VM} (h:bY V) (c b:Int):bY (xf V c b).2:=by
 unfold xf
 repeat' split
 all_goals first |exact h |exact h.read _ |exact(h.read _).take _
theorem bY.grown {V:VM} (h:bY V) (c:Int):bY (xe V c).2:=by
 unfold xe
 repeat' split
 all_goals first |exact h |exact h.read _ |exact(h.read _).take _
theorem bY.alloc {V:VM} (h:bY V) (n:Int):bY (jO V n).2:=by
 unfold jO
 repeat' split
 all_goals first |exact h |exact h.read _ |exact(h.read _).grown _ |exact(h.read _).again _ _
theorem bY.CF {V:VM} (h:bY V) (b:Int):bY (eL V b):=by
 intro x hx c hc;have hx:x∈Ji V.lv b:=hx;unfold Ji at hx;cases hl:V.lv with
 |nil=>rw[hl]at hx;cases hx
 |cons y r=>
  rw[hl]at hx;rcases List.mem_cons.1 hx with rfl |hx
  ·exact h y (by rw[hl];exact iK ..) c hc
  ·exact h x (by rw[hl];exact iX _ hx) c hc
theorem bY.free {V:VM} (h:bY V) (b:Int):bY (vV V b).2:=by
 unfold vV
 repeat' split
 all_goals first |exact(((h.ask _).take _).CF _) |exact(h.ask _).take _ |exact h.ask _
theorem bY.lg {V:VM} (h:bY V) (b:Int):bY (zY V b).2:=by
 unfold zY
 repeat' split
 all_goals first |exact((h.ask _).read _).take _ |exact(h.ask _).read _ |exact h.ask _
theorem bY.l7 {V:VM} (h:bY V):bY (yc V).2:=by
 unfold yc km
 split
 ·exact h
 ·intro x hx c hc;rcases List.mem_cons.1 hx with rfl |hx
  ·cases hc
  ·exact h x hx c hc
theorem bY.drop {V:VM} (h:bY V):bY (xB V).2:=by
 unfold xB ki
 split
 ·exact h
 ·intro x hx c hc;exact h x (List.mem_of_mem_tail hx) c hc
theorem bY.keep {V:VM} (h:bY V):bY (vJ V).2:=by
 intro x hx c hc;have hx:x∈(Qh V.lv).2:=hx;unfold Qh at hx
 split at hx
 ·rename_i a b r hl;rcases List.mem_cons.1 hx with rfl |hx
  ·rcases OY hc with hc |hc
   ·exact h a (by rw[hl];exact iK ..) c hc
   ·exact h b (by rw[hl];exact iX _ (iK ..)) c hc
  ·exact h x (by rw[hl];exact iX _ (iX _ hx)) c hc
 ·exact h x hx c hc
theorem bY.bV {V:VM} (h:bY V) {op a nx:Int} {s:IM}:bY (zS op a nx s V).v:=by
 unfold zS
 split<;>exact h.l7
theorem bY.pF {mt:List Int} {s:IM}:∀(o:List e9) {V:VM},bY V→bY (yf mt o s V).v:=by
 intro o
 induction o with
 |nil=>intro V h;exact h
 |cons p o ih=>
  intro V h;unfold yf
  split
  ·split
   ·exact(bY.bV h.drop)
   ·exact ih h.drop
  ·exact h.drop
theorem bY.uB {V:VM} (h:bY V) (mt:List Int) (s:IM) (op:Int):bY (kQ mt s V op).v:=by
 unfold kQ
 split
 ·exact bY.bV h
 ·split
  ·exact h.keep
  ·split
   ·exact h.keep
   ·split
    ·exact h.drop
    ·exact bY.pF _ h
theorem bY.pG {V:VM} (h:bY V) (s:IM) (x:qT):bY (jU s V x).2.2:=by
 unfold jU
 split
 ·split
  ·split<;>exact h.read _
  ·exact h
 ·split
  ·split
   ·exact h.take _
   ·exact h
  ·split
   ·split
    ·exact h
    ·split<;>exact h.alloc _
   ·split
    ·exact h
    ·exact h.free _
theorem qvs {c:Prop} [Decidable c] {a b:SM} (ha:bY a.v) (hb:bY b.v):bY (if c then a else b).v:=by
 split
 ·exact ha
 ·exact hb
theorem bY.Hw {V:VM} (h:bY V) (mt:List Int) (s:IM) (x:qT):bY (bK mt s V x).v:=by
 have ht:=h.pG s x;have hu:=h.uB mt s x.1;unfold bK;generalize jU s V x=T at*;generalize kQ mt s V x.1=U at*
 repeat' (first |exact h |exact ht |exact hu |apply qvs)
theorem bY.run {l:List qT} {mt:List Int}:∀(n:Nat) {s:IM} {V:VM},bY V→bY (jM l mt n s V).v:=by
 intro n
 induction n with
 |zero=>intro s V h;rw[gu];split<;>exact h
 |succ n ih=>
  intro s V h;have hd:=h.Hw mt s (qR l s.pc);rw[vR];generalize bK mt s V (qR l s.pc)=D at*
  split
  ·exact h
  ·split
   ·split
    ·exact hd
    ·exact ih hd
   ·split<;>exact hd
theorem bY.gives:∀(bs:List Int) (k:Nat) {V:VM},bY V→bY (jE V bs k).2:=by
 intro bs
 induction bs with
 |nil=>intro k V h;exact h
 |cons b r ih=>
  intro k V h;unfold jE
  split
  ·exact ih _ (h.lg b)
  ·exact h.lg b
end
section
theorem qka {cs:List Cl}:∀{w:List Int},(∀z∈w,0≤z∧z<18446744073709551616)→(∀c∈cs,0≤c.2∧c.2<18446744073709551616)→∀z∈Jw w cs,0≤z∧z<18446744073709551616:=by
 induction cs with
 |nil=>intro w h _;exact h
 |cons c r ih=>
  intro w h hc;refine ih (w:=w.set c.1.toNat c.2) (λz hz=>?_) λq hq=>hc q (iX _ hq);rcases List.mem_or_eq_of_mem_set hz with hz |rfl
  ·exact h z hz
  ·exact hc c (iK ..)
section
variable {S:zR} {M:jD} {me:Int}
theorem qVl (O:yY S) (C:xI S M me) (pU:M.n+1<4611686018427387902) {r:List xj} {cs:List Cl} (ff:cs≠[]) (hc:∀c∈cs,1≤c.1∧c.1<S.words) (hw:∀c∈cs,0≤c.2∧c.2<18446744073709551616) :
  ∃(k:Nat) (d c1:zq) (o:dz) (N0 N:jD),k≤3*16+2+cs.length∧Jm k (Js me S.af M.n r cs S.al S.wide) M d N0∧xP d=some o∧jC N0 o=(fk,N)∧zj d fk=c1∧c1.p.fin=2∧c1.p.err=0∧ga c1=M.n+1∧
   N.w=Jw M.w cs∧N.n=M.n+1∧N.s=M.s∧N.aX=M.aX+(k+1:Nat)∧xI S N me:=by
 have cC:=O.al;have iH:=λx=>XJ (n:=S.al) (w:=S.wide) (λc hx=>by have:=hc c hx;omega:∀c∈cs,0≤c.1) (x:=x);generalize hs:xk cs S.al S.wide=ss at*;have CG:ss.Pairwise (· < ·):=by rw[← hs];exact Q8
 have nT:∀s∈ss,0≤s∧s<S.al:=λs h=>by
  obtain⟨c,BJ,rfl⟩:=List.mem_map.1 ((iH s).1 h);exact Hy O (by have:=hc c BJ;omega)
 have r7:ss≠[]:=by obtain⟨c,r',rfl⟩:=List.exists_cons_of_ne_nil ff;exact List.ne_nil_of_mem ((iH _).2 (List.mem_map.2 ⟨c,iK ..,rfl⟩))
 have iP:0<ss.length:=List.length_pos_iff.2 r7;have hs16:ss.length≤16:=by rw[← hs];unfold xk;exact Nat.le_trans (List.length_filter_le ..) aN
 have dQ:0<cs.length:=List.length_pos_iff.2 ff;have hlen:=C.l;have hnn:=C.n
 let B:zq:=⟨QM me S.af,me,M.n,r,cs,ss,[],0,0,b8,0,false,0,0,0⟩
 have e0:Js me S.af M.n r cs S.al S.wide={ B with aR:=(B.s.take 0).map (zQ M.l),lk:=b8,state:=0 }:=by unfold Js Qk;rw[hs];dsimp only;rw[iQ (by show¬(0:Nat)=ss.length;omega)];rfl
 obtain⟨L',a1⟩:=qX7 C (by have:=O.aa;omega) (c:=B) rfl rfl nT CG ss.length (i:=0) (L:=b8) (z:=M.aX) (by show ss.length=0+ss.length;omega) iP
 let M1:jD:={ M with l:=xp me M.l ss,aX:=M.aX+(2*ss.length:Nat) }
 let c1:zq:={ B with aR:=ss.map (zQ M.l),lk:=L',state:=2 }
 have a1':Jm (2*ss.length) (Js me S.af M.n r cs S.al S.wide) M c1 M1:=by rw[e0];exact a1
 let c2:zq:={ c1 with now:=M.n,state:=3 }
 have t2:zj c1 ⟨M.n,b8,false,0⟩=c2:=by rw[wy (by rfl) rfl,iQ (by show¬((2:Int)=0∨(2:Int)=1);decide),iJ (.inl rfl)];unfold gD;rw[iQ (by show¬((2:Int)=2∧4611686018427387903≤M.n);omega),iJ (by rfl)]
 let M2:jD:={ M1 with aX:=M.aX+(2*ss.length:Nat)+1 }
 let M3:jD:={ M1 with n:=M.n+1,aX:=M.aX+(2*ss.length:Nat)+2 }
 have d3:jC M2 ⟨7,0,M.n,M.n+1,b8,b8⟩=(⟨0,b8,true,0⟩,M3):=by
  have e:JO M2 ⟨7,0,M.n,M.n+1,b8,b8⟩=(⟨0,b8,true,0⟩,{ M2 with n:=M.n+1 }):=by unfold JO;rw[iQ (by show¬(7:Int)=6;decide),iQ (by show¬M.n+1≤M.n;omega),iQ (by show¬4611686018427387904≤M.n+1;omega),iQ (by show¬M.n≠M.n;exact λh=>h rfl)]
  rw[qvF (.inr rfl) e rfl];show(_,({ M1 with n:=M.n+1,aX:=M.aX+((2*ss.length:Nat):Int)+1+1 }:jD))=_;rw[Int.add_assoc (M.aX+((2*ss.length:Nat):Int))];rfl
 let c3:zq:={ c2 with writing:=true,state:=5,at_:=((0:Nat):Int) }
 have t3:zj c2 ⟨0,b8,true,0⟩=c3:=by rw[wy (by rfl) rfl,iQ (by show¬((3:Int)=0∨(3:Int)=1);decide),iJ (.inr rfl)];unfold gD;rw[iQ (λh=>by cases h.1),iQ (by show¬(3:Int)=2;decide),iQ od,iJ (by rfl)];unfold wO yh;rw[iQ (by show¬(0:Int)=(cs.length:Int);omega)];rfl
 have a3:Jm (2*ss.length+2) (Js me S.af M.n r cs S.al S.wide) M c3 M3:=a1'.trans (.cons (o:=bg 6 0 0) rfl (by show _=(_,M2);rfl) rfl t2 rfl (.cons (o:=⟨7,0,M.n,M.n+1,b8,b8⟩) rfl d3 rfl t3 rfl .nil));have a4:=qGn (M:=M3) (c:=c3) rfl r7 (λq hq=>by have:=hc q hq;have:=C.w;show 1≤q.1∧q.1<(M.w.length:Int);omega) cs.length (i:=0) (z:=M3.aX) (by show cs.length=0+cs.length;omega) dQ;have a5:Jm (2*ss.length+2+cs.length) (Js me S.af M.n r cs S.al S.wide) M { c3 with state:=6,at_:=0 } { M3 with w:=Jw M.w cs,aX:=M3.aX+(cs.length:Nat) }:=a3.trans a4;obtain⟨g1,g2,g3,g4⟩:=qVS (M:={ M3 with w:=Jw M.w cs }) (c:={ c3 with state:=6,at_:=0 }) rfl (by show 0≤M.n∧M.n<_;omega) (λs h=>by have:=nT s h;show 0≤s∧s<((xp me M.l ss).length:Int);rw[kw];omega) (ss.length-1) (i:=0) (z:=M3.aX+(cs.length:Nat)) (by show ss.length=0+(ss.length-1)+1;omega);refine⟨2*ss.length+2+cs.length+(ss.length-1),_,_,_,_,_,by omega,a5.trans g1,g2,g3,g4,rfl,rfl,rfl,rfl,rfl,rfl,?_,?_⟩
 ·show M.aX+((2*ss.length:Nat):Int)+2+((cs.length:Nat):Int)+((ss.length-1+1:Nat):Int)=_;omega
 ·refine⟨?_,?_,C.s,C.me,λi hi=>?_,by show 0≤M.n+1∧M.n+1<_;omega,qka C.wd hw⟩
  ·show((Jw M.w cs).length:Int)=_;rw[Oh];exact C.w
  ·show((gp (M.n+1) (xp me M.l ss) ss).length:Int)=_;rw[Ge,kw];exact C.l
  ·have hi:i<(gp (M.n+1) (xp me M.l ss) ss).length:=hi;rw[Ge,kw]at hi;show∃v:Int,zQ (gp (M.n+1) (xp me M.l ss) ss) i=(v,false,0)∧0≤v∧v≤M.n+1;rw[qxu omQ (λs h=>by have:=nT s h;rw[kw];omega)]
   split
   ·exact⟨M.n+1,rfl,by omega,by omega⟩
   ·rename_i h;rw[OO omQ (λs h=>by have:=nT s h;omega) h];obtain⟨v,e,h0,h1⟩:=C.lk i hi;exact⟨v,e,h0,by omega⟩
theorem KC (C:xI S M me) {y:q8} (h7:y.state=7) (r5:y.me=me):eP 1 y M { y with state:=8 } { M with s:=M.s.set me.toNat 0,aX:=M.aX+1 }:=by
 refine .step (o:=bg 9 me 0) ?_ (K6 C) ?_
 ·unfold xZ;rw[iQ omQ,iQ omQ,iQ omQ,iJ h7,r5]
 ·unfold jS;rw[iQ omQ,iQ (λh=>h rfl),iQ omQ,iQ omQ,iQ omQ,iJ h7]
theorem qZN {j:JX} {V:VM} (_:jg V) (hj:bu True V j):(jz j V).1.1=1∨(jz j V).1.1=2∨(jz j V).1.1=3∨(jz j V).1.1=4:=by
 cases j with
 |prog q=>obtain⟨F,Q,gb,h,hl⟩:=hj;obtain⟨G,h0,h1,h2⟩:=h trivial;exact(Ho F Q q.left G h2).2.2.2.2
 |ao bs k=>
  unfold jz;dsimp only
  split
  ·exact .inl rfl
  ·split
   ·exact .inr (.inl rfl)
   ·exact .inr (.inr (.inr rfl))
theorem OI {j:JX} {V:VM} (h:bY V):bY (jz j V).2.2:=by
 cases j with
 |prog q=>exact bY.run _ h
 |ao bs k=>exact bY.gives _ _ h
structure D4 (S:zR) (M:jD) (me:Int) (R:(Int×Int)×JX×VM) (y:q8) (N:jD):Prop where
  st:y.state=8
  me_:y.me=me
  set:y.set=S
  fin:y.fin=R.1.1
  err:y.err=if R.1.1=4 then R.1.2 else 0
  lv:y.v.lv=R.2.2.lv
  ax:y.ax=R.2.1
  dB:y.dB= -1
  calm:xI S N me
  s:N.s=M.s.set me.toNat 0
  w:N.w=if R.1.1=2 then Jw M.w (jA R.2.2.lv)else M.w
  n:N.n=M.n+(if R.1.1=2∧jA R.2.2.lv≠[]then 1 else 0)
  aj:y.aj=N.n
  begun:y.begun=true
  kind:R.1.1=2∨R.1.1=3∨R.1.1=4
theorem Gt (O:yY S) (C:xI S M me) (pU:M.n+1<4611686018427387902) {j:JX} (hj:bu True (QN S.words S.writes) j) (Au:bu True (jR M.w S.writes) j) :
  ∃(m:Nat) (y:q8) (N:jD),m≤3*(QN S.words S.writes).sz+432∧eP m (GN me S j) M y N∧D4 S M me (jz j (jR M.w S.writes)) y N∧N.aX=M.aX+(m:Nat):=by
 have hm:=C.me;have hnn:=C.n;have hw:=O.words;have Rp:=C.w;have c1:xI S { M with s:=M.s.set me.toNat 1,aX:=M.aX+1 } me:=⟨C.w,C.l,by show((M.s.set me.toNat 1).length:Int)=_;rw[List.length_set];exact C.s,C.me,C.lk,C.n,C.wd⟩;have s1:eP 1 (GN me S j) M { GN me S j with state:=1 } { M with s:=M.s.set me.toNat 1,aX:=M.aX+1 }:=.step (o:=bg 9 me 1) rfl (K6 C) rfl;have s2:eP 1 { GN me S j with state:=1 } { M with s:=M.s.set me.toNat 1,aX:=M.aX+1 } { GN me S j with begun:=true,bV:=M.n,aj:=M.n,state:=2 } { M with s:=M.s.set me.toNat 1,aX:=M.aX+2 }:=by
  refine .step (o:=bg 6 0 0) rfl (by
   show(_,({ M with s:=M.s.set me.toNat 1,aX:=M.aX+1+1 }:jD))=(_,_)
   rw[Int.add_assoc];rfl) rfl
 have c2:xI S { M with s:=M.s.set me.toNat 1,aX:=M.aX+2 } me:=⟨c1.w,c1.l,c1.s,c1.me,c1.lk,c1.n,c1.wd⟩
 let M3:jD:={ M with s:=M.s.set me.toNat (zv .u64 (M.n+1)),aX:=M.aX+3 }
 have c3:xI S M3 me:=⟨C.w,C.l,by show((M.s.set me.toNat (zv .u64 (M.n+1))).length:Int)=_;rw[List.length_set];exact C.s,C.me,C.lk,C.n,C.wd⟩
 let x2:q8:={ GN me S j with begun:=true,bV:=M.n,aj:=M.n,state:=2 }
 have s3:eP 1 x2 { M with s:=M.s.set me.toNat 1,aX:=M.aX+2 } (xT x2) M3:=by refine .step (o:=bg 9 me (zv .u64 (M.n+1))) (a:=fk) rfl ?_ rfl;rw[K6 c2];show(_,({ M with s:=(M.s.set me.toNat 1).set me.toNat (zv .u64 (M.n+1)),aX:=M.aX+2+1 }:jD))=(_,_);rw[List.set_set,Int.add_assoc];rfl
 have B2:w8 x2:=by have h:=Nd (me:=me) O hj;exact⟨h.set,h.aC,h.sz,h.fr,h.r,h.ax.dead not_false,h.c⟩
 have hW:=Qg (m:=S.writes) C.wd;have bx:dt (M.w.length:Int)=dt S.words:=by rw[Rp]
 have P0:zb (QN S.words S.writes) (jR M.w S.writes):=⟨bx.symm,rfl,rfl,λp x h=>by cases h⟩;obtain⟨m,y,m1,m2,m3,m4,m5,m6,m7,m8,m9,m10,m11,m12,m13,m14⟩:=qJE O (me:=me) ((QN S.words S.writes).sz) (M:=M3) (x:=x2) (W:=jR M.w S.writes) c3 (by show(QN S.words S.writes).sz≤0+1+_;omega) rfl rfl rfl rfl ⟨λy h=>(by cases h),List.nodup_nil⟩ B2 hj P0 hW rfl rfl Au;have hszb:(QN S.words S.writes).sz≤256:=(MU S.words).2;have k3:=qZN hW Au
 have Ic:bY (jz j (jR M.w S.writes)).2.2:=OI (λx hx c hc=>by
  rcases List.mem_cons.1 hx with rfl |hx
  ·cases hc
  ·cases hx)
 have hR:jz x2.ax (jR M.w S.writes)=jz j (jR M.w S.writes):=rfl;rw[hR]at m2 m3 m4 m5;generalize jz j (jR M.w S.writes)=R at*;have head:=(s1.trans s2).trans s3;have base:=head.trans m2;clear s1 s2 s3 head m2;have cB:=c3.bump (m:Int);have mM:y.v.lv=R.2.2.lv:=m5.lv;have r7:(M3.s.set me.toNat 0)=M.s.set me.toNat 0:=by show(M.s.set me.toNat (zv .u64 (M.n+1))).set me.toNat 0=_;rw[List.set_set]
 unfold vD at base;rw[iQ m3]at base;by_cases h3:R.1.1=3
 ·rw[iJ h3]at base;obtain⟨k,E,k1,t⟩:=qK8 (C:=cB) (y:={ y with cj:=true }) m8 ⟨m10.at_,m10.un⟩ rfl;rw[wQ]at t;have cE:=c3.bump ((m:Int)+k);have l:=KC cE (y:=xy { y with cj:=true,e:=E,aj:=M.n } 3 0 (-1)) rfl m6;have tC:=m10.len O;refine⟨_,_,_,?_,(base.trans t).trans l,⟨rfl,m6,m7,h3.symm,by rw[h3];rfl,mM,m4,rfl,⟨cE.w,cE.l,by show(((bump M3 _).s.set me.toNat 0).length:Int)=_;rw[List.length_set];exact cE.s,cE.me,cE.lk,cE.n,cE.wd⟩,r7,?_,?_,?_,m12,.inr (.inl h3)⟩,?_⟩
  ·have:k≤y.r.length+1:=k1;omega
  ·rw[iQ omQ];rfl
  ·rw[iQ (λh=>by omega)];show M.n=M.n+0;omega
  ·rfl
  ·show M.aX+3+((m:Int)+k)+1=_;omega
 ·rw[iQ h3]at base;by_cases h4:R.1.1=4
  ·rw[iJ h4]at base;have l:=KC cB (y:=xy y 4 R.1.2 (-1)) rfl m6;refine⟨_,_,_,by omega,base.trans l,⟨rfl,m6,m7,h4.symm,by rw[iJ h4];rfl,mM,m4,rfl,⟨cB.w,cB.l,by show(((bump M3 _).s.set me.toNat 0).length:Int)=_;rw[List.length_set];exact cB.s,cB.me,cB.lk,cB.n,cB.wd⟩,r7,?_,?_,?_,m12,.inr (.inr h4)⟩,?_⟩
   ·rw[iQ omQ];rfl
   ·rw[iQ (λh=>by omega)];show M.n=M.n+0;omega
   ·exact m9
   ·show M.aX+3+(m:Int)+1=_;omega
  ·rw[iQ h4]at base;have h2:R.1.1=2:=by omega
   rw[mM]at base;by_cases ff:jA R.2.2.lv=[]
   ·rw[iJ ff]at base;have l:=KC cB (y:=xy y 2 0 (-1)) rfl m6;refine⟨_,_,_,by omega,base.trans l,⟨rfl,m6,m7,h2.symm,by rw[iQ h4];rfl,mM,m4,rfl,⟨cB.w,cB.l,by show(((bump M3 _).s.set me.toNat 0).length:Int)=_;rw[List.length_set];exact cB.s,cB.me,cB.lk,cB.n,cB.wd⟩,r7,?_,?_,?_,m12,.inl h2⟩,?_⟩
    ·rw[iJ h2,ff];rfl
    ·rw[iQ (λh=>h.2 ff)];show M.n=M.n+0;omega
    ·exact m9
    ·show M.aX+3+(m:Int)+1=_;omega
   ·rw[iQ ff]at base;have tP:=Ym m11.aC.ok;rw[mM]at tP;have Ie:∀c∈jA R.2.2.lv,0≤c.2∧c.2<18446744073709551616:=by rw[← mM];exact Vf m11.aC.wd.l
    have dA:∀c∈jA R.2.2.lv,1≤c.1∧c.1<S.words:=λc hc=>by
     obtain⟨x,hx,h1⟩:=YA hc;have:=Ic x hx c h1;have e1:=m5.sz;have e2:=m11.sz;rw[m7]at e2;omega
    obtain⟨k,d,e1,o,N0,N,k1,k2,k3',k4,k5,k6,k7,k8,k9,Rq,k11,k12,s7⟩:=qVl O cB pU (r:=y.r) ff dA Ie;have e0:Js y.me y.set.af y.aj y.r (jA R.2.2.lv) y.set.al y.set.wide=Js me S.af M.n y.r (jA R.2.2.lv) S.al S.wide:=by rw[m6,m7,m9]
    rw[e0]at base;obtain⟨z,tz⟩:=qWR k2 (x:={ y with state:=6,c:=some (Js me S.af M.n y.r (jA R.2.2.lv) S.al S.wide) }) rfl rfl;have tl:=qjM (x:={ y with state:=6,c:=some d,aj:=z }) (c:=d) rfl rfl k3' k4 rfl k5 k6 k7;have l:=KC s7 (y:={ xy { y with state:=6,c:=some e1,aj:=z } 2 0 (-1)with aj:=ga e1 }) rfl m6;refine⟨_,_,_,?_,((base.trans tz).trans tl).trans l,⟨rfl,m6,m7,h2.symm,by rw[iQ h4];rfl,mM,m4,rfl,⟨s7.w,s7.l,by show((N.s.set me.toNat 0).length:Int)=_;rw[List.length_set];exact s7.s,s7.me,s7.lk,s7.n,s7.wd⟩,?_,?_,?_,?_,m12,.inl h2⟩,?_⟩
    ·omega
    ·show N.s.set me.toNat 0=_;rw[k11];exact r7
    ·rw[iJ h2];exact k9
    ·rw[iJ ⟨h2,ff⟩];exact Rq
    ·show ga e1=N.n;rw[k8,Rq]
    ·show N.aX+1=_;rw[k12];show M.aX+3+(m:Int)+((k+1:Nat):Int)+1=_;omega
end
end
section
abbrev lB (z:Int):Prop:=0≤z∧z<18446744073709551616
structure uF (M:jD):Prop where
  w:∀z∈M.w,lB z
  n:lB M.n
  s:∀z∈M.s,lB z
theorem Rr {l:List Int} (h:∀z∈l,lB z) (i:Int):lB (qE l i):=by
 unfold qE;cases hi:l[i.toNat]? with
 |none=>exact⟨Int.le_refl _,by show(0:Int)<_;decide⟩
 |some z=>exact h z (List.mem_of_getElem? hi)
theorem Nf {l:List Int} (h:∀z∈l,lB z) {i:Nat} {w:Int} (hw:lB w):∀z∈l.set i w,lB z:=λz hz=>by
 rcases List.mem_or_eq_of_mem_set hz with hz |rfl
 ·exact h z hz
 ·exact hw
theorem NT {M:jD} {o:dz} (R:uF M) (ho:lB o.word):J1 (jC M o).1∧uF (jC M o).2:=by
 have z0:lB (0:Int):=⟨Int.le_refl _,by decide⟩;have key:J1 (yH M o).1∧uF (yH M o).2:=by
  unfold yH
  split
  ·unfold Jp
   split
   ·exact⟨z0,R⟩
   ·split
    ·exact⟨Rr R.w _,R⟩
    ·exact⟨z0,⟨Nf R.w ho,R.n,R.s⟩⟩
  ·split
   ·unfold QV
    repeat' split
    all_goals exact⟨z0,⟨R.w,R.n,R.s⟩⟩
   ·split
    ·unfold JO
     split
     ·exact⟨R.n,R⟩
     ·repeat' split
      all_goals first |exact⟨z0,R⟩ |exact⟨z0,⟨R.w,ho,R.s⟩⟩
    ·split
     ·unfold QH
      split
      ·exact⟨z0,R⟩
      ·split
       ·exact⟨Rr R.s _,R⟩
       ·exact⟨z0,⟨R.w,R.n,Nf R.s ho⟩⟩
     ·exact⟨z0,R⟩
 rw[wF]
 split
 ·exact⟨key.1,⟨key.2.w,key.2.n,key.2.s⟩⟩
 ·exact key
theorem Mq {M:jD} {o:dz}:(jC M o).2.aX≤M.aX+1∧M.aX≤(jC M o).2.aX:=by
 have h:=ZS (M:=M) (o:=o);rw[wF]
 split
 ·show(yH M o).2.aX+1≤_∧_≤(yH M o).2.aX+1;omega
 ·omega
theorem XT {c:zq} {f e y:Int}:(kz c f e y).cells=c.cells:=by unfold kz gQ;dsimp only;split<;>rfl
theorem VD {c:zq} {l:cZ}:(Qq c l).cells=c.cells:=by 
 unfold Qq
 split
 ·rfl
 ·exact XT
theorem MN {c:zq}:(y3 c).cells=c.cells:=by unfold y3;split<;>rfl
theorem VX {c:zq}:(yh c).cells=c.cells:=by 
 unfold yh
 split
 ·exact MN
 ·rfl
theorem Yw {c:zq}:(wO c).cells=c.cells:=VX
theorem KK:∀(n:Nat) (c:zq),(vT c n).cells=c.cells:=by
 intro n
 induction n with
 |zero=>intro c;exact Yw
 |succ n ih=>
  intro c;unfold vT
  split
  ·split
   ·rfl
   ·split
    ·exact XT
    ·exact ih _
  ·exact Yw
theorem qKc {c:zq} {a:cO}:(zj c a).cells=c.cells:=by
 unfold zj
 split
 ·rfl
 ·split
  ·unfold kx
   split
   ·exact VD
   ·split
    ·rfl
    ·split
     ·rfl
     ·rfl
  ·split
   ·unfold gD
    split
    ·exact XT
    ·split
     ·rfl
     ·split
      ·rfl
      ·split
       ·exact Yw
       ·exact KK _ _
   ·split
    ·unfold wZ
     split
     ·exact VD
     ·split
      ·exact XT
      ·exact KK _ _
    ·split
     ·exact VX
     ·split
      ·exact MN
      ·unfold gQ
       split<;>rfl
def JL (x:q8):Prop:=∀c,x.c=some c→∀q∈c.cells,lB q.2
theorem qGC {x:q8} {k e:Int} (G:jg x.v) (W:JL x):JL (vD x k e):=by
 unfold vD
 split
 ·exact W
 ·split
  ·exact W
  ·split
   ·exact W
   ·split
    ·exact W
    ·intro c hc;cases hc;exact Vf G.wd.l
theorem V5 {x:q8} (B:w8 x) (hj:bu True x.v x.ax) (W:JL x):JL (xT x):=by have D:=KO B.aC B.fr hj;refine qGC D.aC ?_;intro c hc;rw[D.same.2.2.2.2]at hc;exact W c hc
theorem MH {x:q8} {a:cO} (O:zE x) (W:JL x) (ha:J1 a):JL (jS x a):=by
 have cC:=O.st;have stamped:∀{y:q8},JL y→JL (zo y):=λ{y} h=>by
  unfold zo
  split
  ·split<;>exact h
  ·exact h
 have told:∀{y:q8},zE y→3≤y.state→y.state≤6→JL y→JL (xH y):=λ{y} O h3 h6 W=>by
  refine stamped ?_;show JL (if(xV y).1=0 then y else if(xV y).1=5 then xy y 5 0 (xV y).2 else xm y)
  split
  ·exact W
  ·split
   ·exact W
   ·unfold xm
    split
    ·rename_i hs;have hw:=GP (O.f hs).2;unfold x6
     split
     ·exact W
     ·split
      ·have hj:=(O.ax.same λ_=>by omega:bu True y.v y.ax).mL (p:=y.v.aK) hw;refine V5 ⟨O.set,Xq O.aC hw,by show((zu y.v y.v.aK (x9 y.f)).2.sz:Int)=y.set.words;rw[wB.2];exact O.sz,by show bD (zu y.v y.v.aK (x9 y.f)).2.lv<9000;rw[wB.1];exact O.fr,Y3 O.r,hj.same λh=>h.elim,O.c⟩ hj W
      ·split<;>exact W
    ·split
     ·exact W
     ·split
      ·exact W
      ·split<;>exact W
 unfold jS
 split
 ·exact W
 ·split
  ·exact W
  ·split
   ·exact W
   ·split
    ·exact W
    ·split
     ·exact V5 O.b (O.ax.same λ_=>by omega) W
     ·split
      ·exact W
      ·split
       ·rename_i hs;have hf:=O.f hs;refine told (y:={ x with f:=xC x.f a }) ?_ (by show 3≤x.state;omega) (by show x.state≤6;omega) W;exact⟨O.set,O.aC,O.sz,O.fr,O.r,O.ax,O.st,λ_=>⟨YG hf.1,Gi hf.2 ha⟩,O.aK,O.e,O.c,O.c0,O.c6⟩
       ·split
        ·rename_i hs;refine told (y:={ x with c:=x.c.map λc=>zj c a }) ?_ (by show 3≤x.state;omega) (by show x.state≤6;omega) ?_
         ·refine⟨O.set,O.aC,O.sz,O.fr,O.r,O.ax,O.st,O.f,O.aK,O.e,λc h=>?_,λh=>absurd h (by show¬x.state≤5;omega),λh hn=>O.c6 h ?_⟩
          ·obtain⟨c',h1,rfl⟩:=Option.map_eq_some_iff.1 h;exact Gn (O.c c' h1) ha
          ·exact Option.map_eq_none_iff.1 hn
         ·intro c h;obtain⟨c',h1,rfl⟩:=Option.map_eq_some_iff.1 h;rw[qKc];exact W c' h1
        ·refine told (y:={ x with e:=xU x.e a }) ?_ (by show 3≤x.state;omega) (by show x.state≤6;omega) W;exact⟨O.set,O.aC,O.sz,O.fr,O.r,O.ax,O.st,O.f,O.aK,λh1 h2=>Yg (O.e h1 h2),O.c,O.c0,O.c6⟩
theorem Mc {x:q8} {o:dz} (O:zE x) (W:JL x) (h:xZ x=some o):lB o.word:=by
 have z0:lB (0:Int):=⟨Int.le_refl _,by decide⟩;unfold xZ at h
 split at h
 ·cases h;exact⟨by show(0:Int)≤1;decide,by show(1:Int)<_;decide⟩
 ·split at h
  ·cases h;exact z0
  ·split at h
   ·cases h;exact DT _
   ·split at h
    ·cases h;exact z0
    ·split at h
     ·cases h
     ·split at h
      ·unfold KE at h
       split at h
       ·cases h
       ·split at h<;>(cases h;exact z0)
      ·split at h
       ·rename_i h6;cases hc:x.c with
        |none=>rw[hc]at h;cases h
        |some c=>
         rw[hc]at h;have hn:=(O.c c hc).now;have h:xP c=some o:=h;unfold xP at h
         split at h
         ·cases h
         ·split at h
          ·cases h;exact z0
          ·split at h
           ·cases h;exact z0
           ·split at h
            ·cases h;exact z0
            ·split at h
             ·cases h;exact⟨by show 0≤c.now+1;omega,by show c.now+1<_;omega⟩
             ·split at h
              ·cases h;exact z0
              ·split at h
               ·cases h;show lB (wu c.cells c.at_).2;unfold wu;cases hi:c.cells[c.at_.toNat]? with
                |none=>exact z0
                |some q=>exact W c hc q (List.mem_of_getElem? hi)
               ·split at h<;>(cases h;exact z0)
       ·unfold Jj at h
        split at h
        ·cases h
        ·split at h<;>(cases h;exact z0)
theorem Ig {me:Int} {S:zR} {j:JX}:JL (GN me S j):=λc h=>by cases h
end
namespace ed
variable {g h:AH} {L R:List SP}
def zG (a:Int×Int×Bool):List AV:=[.int .i64 a.1,.int .i64 a.2.1,.bool a.2.2]
end ed
section
variable {g h:AH} {L R:List SP}
def Ih (zs:List Int):List Int:=(List.range (dt zs.length)).map λi=>if i=0 then 0 else vN zs i
def uG (l:List Int) (c:Cl):List Int:=if 1≤c.1∧c.1<l.length then l.set c.1.toNat c.2 else l
def yS (zs:List Int) (cs:List Cl):List Int:=cs.foldl uG (Ih zs)
theorem qxf {l:List Int} {c:Cl} (h:1≤c.1∧c.1<l.length):uG l c=l.set c.1.toNat c.2:=iJ h
def uV (zs:List Int) (m:Int) (C:List Cl) (F:List Int):VM:={ jR zs m with lv:=[(C,F)] }
structure Rs (zs:List Int) (T c i:Nat):Prop where
  len:zs.length=T
  lo:32≤T
  hi:T≤256
  iz:1≤c∧c≤4
  nn:∀z∈zs,0≤z∧z<18446744073709551616
  head:vN zs c=0
  bump:vN zs 5=14+(i:Int)*(vZ c+1)
  hdr:∀j,j<i→∀p:Nat,(p:Int)=14+(j:Int)*(vZ c+1)→vN zs p=(c:Int)+8
end
namespace nX
open Go Go.Ae ed
set_option maxRecDepth 100000
variable {g h:AH} {L R:List SP}
end nX
section
theorem qqM {l:List qT} {mt:List Int}:∀(n:Nat) {s:IM} {V:VM},(jM l mt n s V).kind≠4→(jM l mt n s V).err=0:=by
 intro n
 induction n with
 |zero=>
  intro s V;rw[gu]
  split
  ·intro _;rfl
  ·intro h;exact absurd rfl h
 |succ n ih=>
  intro s V;rw[vR];generalize bK mt s V (qR l s.pc)=D
  split
  ·intro _;rfl
  ·split
   ·split
    ·intro _;rfl
    ·exact ih
   ·split
    ·intro _;rfl
    ·intro h;exact absurd rfl h
structure r8 (S:zR) (M:jD) (k:Int):Prop where
  w:(M.w.length:Int)=S.words
  wd:∀z∈M.w,lB z
  w0:M.w[0]? =some 0
  l:M.l=List.replicate S.al.toNat b8
  n:M.n=S.start
  s:M.s=List.replicate S.aa.toNat 0
  aX:0≤M.aX∧M.aX≤k
theorem Rt {S:zR} (O:yY S):r8 S (gU S) 0:=by
 have h1:=O.words;refine⟨by show((List.replicate S.words.toNat (0:Int)).length:Int)=_;rw[List.length_replicate];omega,λz hz=>?_,?_,rfl,rfl,rfl,⟨Int.le_refl _,Int.le_refl _⟩⟩
 ·have:=List.eq_of_mem_replicate hz;subst this;exact⟨Int.le_refl _,by decide⟩
 ·show(List.replicate S.words.toNat (0:Int))[0]? =some 0;rw[List.getElem?_replicate,iJ omQ]
theorem Vy {S:zR} {M:jD} {k at_ w:Int} (Q:r8 S M k) (ha:1≤at_) (hw:lB w):r8 S (jC M (bg 2 at_ w)).2 (k+1):=by
 have hc:=Mq (M:=M) (o:=bg 2 at_ w);have hq:=Q.aX;have e:(jC M (bg 2 at_ w)).2.w=(if at_<1∨(M.w.length:Int)≤at_ then M.w else M.w.set at_.toNat w)∧(jC M (bg 2 at_ w)).2.l=M.l∧(jC M (bg 2 at_ w)).2.n=M.n∧(jC M (bg 2 at_ w)).2.s=M.s:=by
  have eW:yH M (bg 2 at_ w)=if at_<1∨(M.w.length:Int)≤at_ then(ll 2,M)else(fk,{ M with w:=M.w.set at_.toNat w }):=by show(if at_<1∨(M.w.length:Int)≤at_ then(ll 2,M)else if(2:Int)=1 then _ else _)=_;rfl
  rw[wF,eW];by_cases h:at_<1∨(M.w.length:Int)≤at_
  ·rw[iJ h,iJ h]
   split<;>exact⟨rfl,rfl,rfl,rfl⟩
  ·rw[iQ h,iQ h]
   split<;>exact⟨rfl,rfl,rfl,rfl⟩
 refine⟨?_,?_,?_,by rw[e.2.1];exact Q.l,by rw[e.2.2.1];exact Q.n,by rw[e.2.2.2];exact Q.s,by omega⟩
 ·rw[e.1]
  split
  ·exact Q.w
  ·rw[List.length_set];exact Q.w
 ·rw[e.1]
  split
  ·exact Q.wd
  ·exact Nf Q.wd hw
 ·rw[e.1]
  split
  ·exact Q.w0
  ·rw[List.getElem?_set_ne omQ];exact Q.w0
theorem qYd {S:zR} {M:jD} {k me:Int} (O:yY S) (Q:r8 S M k) (hs:S.start<4611686018427387902) (hm:0≤me∧me<S.aa):xI S M me:=by have h1:=O.al;have h2:=O.aa;have h3:=O.start;refine⟨Q.w,by rw[Q.l,List.length_replicate];omega,by rw[Q.s,List.length_replicate];omega,hm,λi hi=>?_,by rw[Q.n];omega,Q.wd⟩;rw[Q.l,List.length_replicate]at hi;refine⟨0,?_,Int.le_refl _,by rw[Q.n];omega⟩;unfold zQ;rw[Q.l,Int.toNat_natCast,List.getElem?_replicate,iJ hi];rfl
theorem YD {w:List Int} {cs:List Cl} (h0:w[0]? =some 0) (h1:32≤w.length) (h2:w.length≤256) (hc:∀c∈cs,1≤c.1∧c.1<w.length):yS w cs=Jw w cs:=by
 have hb:Ih w=w:=by
  have bx:dt w.length=w.length:=by unfold dt;omega
  apply List.ext_getElem?;intro i;unfold Ih;rw[bx,List.getElem?_map];by_cases hi:i<w.length
  ·rw[List.getElem?_range hi];show some (if i=0 then 0 else vN w i)=_
   split
   ·rename_i h;subst h;exact h0.symm
   ·unfold vN;rw[iW hi];rfl
  ·rw[List.getElem?_eq_none (by simp;omega),List.getElem?_eq_none omQ];rfl
 unfold yS Jw;rw[hb];have:∀(cs:List Cl) (v:List Int),v.length=w.length→(∀c∈cs,1≤c.1∧c.1<w.length)→cs.foldl uG v=cs.foldl (λw c=>w.set c.1.toNat c.2) v:=by
  intro cs
  induction cs with
  |nil=>intro v _ _;rfl
  |cons c r ih=>intro v hv h;have hc:=h c (iK ..);rw[List.foldl_cons,List.foldl_cons,qxf omQ];exact ih _ (by rw[List.length_set];exact hv) λd hd=>h d (iX _ hd)
 exact this cs w rfl hc
end
section
open Go Go.Ae ed
set_option maxRecDepth 100000
variable {g h:AH} {L R:List SP}
def gg:VM→List Int→Int×VM
 |M,[]=>(0,M)
 |M,b::bs=>if(zY M b).1=0 then gg (zY M b).2 bs else((zY M b).1,(zY M b).2)
end
section
variable {g h:AH} {L R:List SP}
abbrev gd (l:List qT) (n:Nat) (zs:List Int) (m:Int):RM:=jM l (qP l) n YU (jR zs m)
def Qt (r:RM):List Cl:=if r.kind=2 then jA r.v.lv else[]
def gA (r:RM):List Int:=if r.kind=2 then vK r.v.lv else[]
def Gu (r:RM):List UInt8:=if r.kind=2 then Cg r.s.out else[]
end
section
def Aw:Nat→Nat→qr→jD→qr×jD
 | 0,_,t,M=>(t,M)
 |n+1,i,t,M=>match xD t with
  |none=>(t,M)
  |some o=>Aw n (i+1) (zO t (jC M o).1 0 ((i:Int)+1)) (jC M o).2
inductive Np:Nat→Nat→qr→jD→qr→jD→Prop
  |nil {i:Nat} {t:qr} {M:jD}:Np i 0 t M t M
  |cons {i m:Nat} {t u:qr} {M N:jD} {o:dz} (hn:xD t=some o) (r:Np (i+1) m (zO t (jC M o).1 0 ((i:Int)+1)) (jC M o).2 u N):Np i (m+1) t M u N
theorem Np.run {i m:Nat} {t u:qr} {M N:jD} (s:Np i m t M u N):∀n,Aw (m+n) i t M=Aw n (i+m) u N:=by
 induction s with
 |nil=>intro n;rw[Nat.zero_add];rfl
 |cons hn r ih=>
  intro n;rename_i i m t u M N o;rw[show m+1+n=(m+n)+1 by omega];have e:Aw ((m+n)+1) i t M=Aw (m+n) (i+1) (zO t (jC M o).1 0 ((i:Int)+1)) (jC M o).2:=by show(match xD t with |none=>(t,M) |some o=>Aw (m+n) (i+1) (zO t (jC M o).1 0 ((i:Int)+1)) (jC M o).2)=_;rw[hn]
  rw[e,ih,show i+1+m=i+(m+1) by omega]
theorem Np.trans {i m k:Nat} {t u v:qr} {M N P:jD} (s:Np i m t M u N):Np (i+m) k u N v P→Np i (m+k) t M v P:=by
 induction s with
 |nil=>intro r;rw[Nat.zero_add];exact r
 |cons hn r ih=>rename_i i m t u M N o;intro q;rw[show m+1+k=(m+k)+1 by omega];exact .cons hn (ih (by rw[show i+1+m=i+(m+1) by omega];exact q))
structure CH (t u:qr):Prop where
  fz:∃r,u.results=t.results++r
  aw:u.aw.length≤t.aw.length+1
structure QI (t u:qr):Prop where
  fz:u.results=t.results
  aw:u.aw=t.aw
theorem QI.refl (t:qr):QI t t:=⟨rfl,rfl⟩
theorem QI.trans {t u v:qr} (a:QI t u) (b:QI u v):QI t v:=⟨b.fz.trans a.fz,b.aw.trans a.aw⟩
theorem vF (t:qr):QI t (zB t):=by unfold zB;split<;>exact⟨rfl,rfl⟩
theorem zm (t:qr):QI t (jr t):=(QI.trans (u:={ t with ax:=t.ax+1,ao:=false,ag:=[],ah:=0,aF:=0 }) ⟨rfl,rfl⟩ (vF _))
theorem Q5 (t:qr) (d:Int):QI t (xl t d):=by
 unfold xl
 split
 ·exact(QI.trans (u:={ t with bA:=0,state:=3 }) ⟨rfl,rfl⟩ (vF _))
 ·exact⟨rfl,rfl⟩
theorem GT (t:qr):QI t (xi t):=by
 have key:∀u:qr,QI u (xz u):=λu=>by
  unfold xz
  split
  ·exact .refl u
  ·split
   ·exact(QI.trans (u:={ u with ad:=u.ad.filter λr=>!q9 u.ab r.2 }) ⟨rfl,rfl⟩ (zm _))
   ·exact(QI.trans (u:={ u with ad:=u.ad.filter (λr=>!q9 u.ab r.2),ao:=true,ag:=u.ad.filter (λr=>q9 u.ab r.2),ah:=0,aF:=0 }) ⟨rfl,rfl⟩ (vF _))
 unfold xi
 split
 ·exact(QI.trans (u:={ t with ab:=t.ab++[0] }) ⟨rfl,rfl⟩ (key _))
 ·exact key t
theorem Mg (t:qr):QI t (vE t):=by
 unfold vE
 split
 ·exact zm t
 ·exact(QI.trans (u:={ t with state:=5,ab:=[] }) ⟨rfl,rfl⟩ (GT _))
theorem Ut (t:qr) (f:Int):QI t (gE t f):=by
 unfold gE
 split
 ·exact(QI.trans (u:={ t with ad:=t.ad++t.ag }) ⟨rfl,rfl⟩ (zm _))
 ·exact zm t
theorem CH.of {t u v:qr} (a:QI u v) {r:List GS} (h:u.results=t.results++r) (hp:u.aw.length≤t.aw.length+1):CH t v:=⟨⟨r,a.fz.trans h⟩,by rw[a.aw];exact hp⟩
theorem qQN (t:qr) (x:q8) (d p:Int):CH t (xX t x d p):=by
 have h1:(t.aw++[jH t x p]).length≤t.aw.length+1:=by simp
 have h0:t.results=t.results++[]:=(List.append_nil _).symm;unfold xX;dsimp only
 split
 ·split
  ·exact⟨⟨[],h0⟩,h1⟩
  ·exact .of (u:={ t with aw:=t.aw++[jH t x p],ah:=t.ah+1,aF:=t.aF+1 }) (Q5 _ _) h0 h1
 ·split
  ·split
   ·exact .of (u:={ t with aw:=t.aw++[jH t x p],ah:=t.ah+1 }) (vF _) h0 h1
   ·exact⟨⟨[],h0⟩,h1⟩
  ·split
   ·exact .of (u:={ t with aw:=t.aw++[jH t x p],ah:=t.ah+1 }) (Ut _ _) h0 h1
   ·exact .of (u:={ t with aw:=t.aw++[jH t x p],ah:=t.ah+1,results:=t.results++[⟨jT x,xF x,zg x,x.aj⟩],ad:=t.ad++(zZ x).map λb=>(b,x.aj) }) (Mg _) rfl h1
theorem qGe (t:qr) (a:cO) (d p:Int):CH t (zO t a d p):=by
 have h0:t.results=t.results++[]:=(List.append_nil _).symm;have hr:CH t t:=⟨⟨[],h0⟩,Nat.le_succ _⟩;unfold zO
 split
 ·split
  ·exact hr
  ·rename_i x _;unfold kZ;dsimp only
   split
   ·exact⟨⟨[],h0⟩,Nat.le_succ _⟩
   ·have G:=qQN { t with now:=some (jS x a),born:=if(jS x a).begun=true∧x.begun=false then p else t.born } (jS x a) d p;exact⟨G.fz,G.aw⟩
 ·split
  ·split
   ·exact⟨⟨[],h0⟩,Nat.le_succ _⟩
   ·exact .of (u:=t) (Q5 _ _) h0 (Nat.le_succ _)
  ·split
   ·exact .of (u:={ t with ab:=t.ab++[if a.err≠0 then 0 else a.word] }) (GT _) h0 (Nat.le_succ _)
   ·exact hr
def cY (t:qr):Prop:=∀x,t.now=some x→JL x
theorem cY.same {t u:qr} (W:cY t) (h:u.now=t.now):cY u:=λx hx=>W x (h▸hx)
theorem gt (t:qr):cY (zB t):=by
 unfold zB
 split
 ·exact λx h=>by cases h
 ·intro x h;cases h
  split
  ·exact Ig
  ·exact Ig
theorem gB (t:qr):cY (jr t):=gt _
theorem Kl {t:qr} (W:cY t) (d:Int):cY (xl t d):=by
 unfold xl
 split
 ·exact gt _
 ·exact W.same rfl
theorem Mj {t:qr} (W:cY t):cY (xi t):=by
 have key:∀u:qr,cY u→cY (xz u):=λu W=>by
  unfold xz
  split
  ·exact W
  ·split
   ·exact gB _
   ·exact gt _
 unfold xi
 split
 ·exact key _ (W.same rfl)
 ·exact key _ W
theorem qJN {t:qr} (W:cY t) (x:q8) (d p:Int):cY (xX t x d p):=by
 unfold xX;dsimp only
 split
 ·split
  ·exact W.same rfl
  ·exact Kl (t:={ t with aw:=t.aw++[jH t x p],ah:=t.ah+1,aF:=t.aF+1 }) (W.same rfl) _
 ·split
  ·split
   ·exact gt _
   ·exact W.same rfl
  ·split
   ·unfold gE;exact gB _
   ·unfold vE
    split
    ·exact gB _
    ·exact Mj (t:={ t with aw:=t.aw++[jH t x p],ah:=t.ah+1,results:=t.results++[⟨jT x,xF x,zg x,x.aj⟩],ad:=t.ad++(zZ x).map λb=>(b,x.aj),state:=5,ab:=[] }) (W.same rfl)
theorem qVr {t:qr} (O:xn t) (W:cY t) {a:cO} (ha:J1 a) (d p:Int):cY (zO t a d p):=by
 unfold zO
 split
 ·rename_i h1
  split
  ·exact W
  ·rename_i x hx;have C:=O.c omQ;have hN:=(C.now x hx).1;have W1:JL (jS x a):=MH hN (W x hx) ha;unfold kZ;dsimp only
   split
   ·intro y hy;cases hy;exact W1
   ·refine qJN (λy hy=>?_) _ _ _;cases hy;exact W1
 ·split
  ·split
   ·exact W.same rfl
   ·exact Kl W _
  ·split
   ·exact Mj (t:={ t with ab:=t.ab++[if a.err≠0 then 0 else a.word] }) (W.same rfl)
   ·exact W
theorem VU {t:qr} {o:dz} (O:xn t) (W:cY t) (h:xD t=some o):lB o.word:=by
 have z0:lB (0:Int):=⟨Int.le_refl _,by decide⟩;unfold xD at h
 split at h
 ·rename_i h1;have C:=O.c omQ;cases hx:t.now with
  |none=>exact absurd hx C.some
  |some x=>rw[hx]at h;exact Mc (C.now x hx).1 (W x hx) h
 ·split at h
  ·cases h;exact z0
  ·split at h
   ·cases h;exact z0
   ·cases h
theorem MI {t:qr} {x:q8} {a:cO} {d p:Int} (h1:t.state=1) (hx:t.now=some x):zO t a d p=kZ t x (jS x a) d p:=by
 unfold zO;rw[iJ h1]
 split
 ·rename_i h2;rw[hx]at h2;cases h2
 ·rename_i y h2;rw[hx]at h2;cases h2;rfl
theorem Vm {t:qr} {x:q8} (h1:t.state=1) (hx:t.now=some x):xD t=xZ x:=by unfold xD;rw[iJ h1,hx];rfl
theorem qQ3 {x:q8} {o:dz} (h:xZ x=some o):jT x=0:=by unfold jT;rw[iJ];intro h8;unfold xZ at h;rw[iQ omQ,iQ omQ,iQ omQ,iQ omQ,iJ h8]at h;cases h
end
section
theorem qJ8 {S:zR} {M N:jD} {me fin:Int} {V:RM} {l:List qT} {y:q8} (E:D4 S M me ((V.kind,V.err),.prog ⟨l,V.s,fin,V.err,V.left⟩,V.v) y N) (r9:V.kind≠4→V.err=0) :
  jT y=V.kind∧xF y=V.err∧zZ y=gA V∧zg y=Gu V:=by
 have Ii:y.err=if V.kind=4 then V.err else 0:=E.err
 have hE:jT y=V.kind:=by unfold jT;rw[iQ (λh=>h E.st)];exact E.fin
 have hWr:zC y=false:=by unfold zC;rw[iV (λh=>h E.st)];rfl
 have Ru:xW y=decide (V.kind=2):=by unfold xW;rw[hE,hWr,Bool.or_false]
 refine⟨hE,?_,?_,?_⟩
 ·unfold xF;rw[iQ (λh=>h E.st),Ii];by_cases h4:V.kind=4
  ·rw[iJ h4]
  ·rw[iQ h4,r9 h4]
 ·unfold zZ gA;rw[Ru,E.lv,E.ax];by_cases k2:V.kind=2
  ·rw[iG k2,iJ rfl,iJ k2]
  ·rw[iV k2,iQ od,iQ k2]
 ·unfold zg Gu;rw[Ru,E.ax];by_cases k2:V.kind=2
  ·rw[iG k2,iJ rfl,iJ k2]
  ·rw[iV k2,iQ od,iQ k2]
theorem qk3:∀(bs:List Int) (V:VM) (k:Nat),(jE V bs k).1.2=(gg V bs).1∧(jE V bs k).2=(gg V bs).2:=by
 intro bs
 induction bs with
 |nil=>intro V k;exact⟨rfl,rfl⟩
 |cons b r ih=>
  intro V k;unfold jE gg;by_cases h:(zY V b).1=0
  ·rw[iJ h,iJ h];exact ih _ _
  ·rw[iQ h,iQ h];exact⟨rfl,rfl⟩
structure TJ (S:zR) (js:List (List qT)) (k:Nat) (t:qr) (M:jD):Prop where
  set:t.set=S
  me:t.me=0
  jobs:t.jobs=js
  ax:t.ax=k
  ao:t.ao=false
  ag:t.ag=[]
  ad:t.ad=[]
  cP:t.cP=false
  now:(k=js.length∧t.state=6)∨(k<js.length∧t.state=1∧t.now=some (y5 0 S ((js[k]?).getD [])))
  fz:t.results.length=k
  calm:xI S M 0
  sl:M.s=[0]
  w0:M.w[0]? =some 0
  n:M.n≤S.start+2*k
theorem qx9 {m:Nat} {x y:q8} {M N:jD} (s:eP m x M y N):zE x→JL x→uF M→zE y∧JL y∧uF N:=by
 induction s with
 |nil=>exact λa b c=>⟨a,b,c⟩
 |cons hn _ ih=>intro O W Q;have r:=NT Q (Mc O W hn);exact ih (XO O r.1) (MH O W r.1) r.2
theorem CI:∀(cs:List Cl) (w:List Int),w[0]? =some 0→(∀c∈cs,1≤c.1)→(cs.foldl (λw c=>w.set c.1.toNat c.2) w)[0]? =some 0:=by
 intro cs
 induction cs with
 |nil=>intro w h _;exact h
 |cons c r ih=>intro w h hc;have h1:=hc c (iK ..);rw[List.foldl_cons];exact ih _ (by rw[List.getElem?_set_ne omQ];exact h) λd hd=>hc d (iX _ hd)
end
section
def Nr (S:zR) (l:List qT) (w:List Int):List Int :=
 yS (yS w (Qt (gd l (zc S.fuel) w S.writes))) (jA (gg (jR (yS w (Qt (gd l (zc S.fuel) w S.writes))) S.writes) (gA (gd l (zc S.fuel) w S.writes))).2.lv)
theorem qVi {w:List Int} (h0:w[0]? =some 0) (h1:32≤w.length) (h2:w.length≤256):yS w []=w:=by rw[YD h0 h1 h2 (λc h=>by cases h)];rfl
end
section
inductive Xe (d p:Nat→Int):Nat→Nat→qr→jD→qr→jD→Prop
  |nil {i:Nat} {t:qr} {M:jD}:Xe d p i 0 t M t M
  |cons {i m:Nat} {t u:qr} {M N:jD} {o:dz} (hn:xD t=some o) (r:Xe d p (i+1) m (zO t (jC M o).1 (d i) (p i)) (jC M o).2 u N):Xe d p i (m+1) t M u N
variable {d p:Nat→Int}
theorem Xe.trans {i m k:Nat} {t u v:qr} {M N P:jD} (s:Xe d p i m t M u N):Xe d p (i+m) k u N v P→Xe d p i (m+k) t M v P:=by
 induction s with
 |nil=>intro r;rw[Nat.zero_add];exact r
 |cons hn r ih=>rename_i i m t u M N o;intro q;rw[show m+1+k=(m+k)+1 by omega];exact .cons hn (ih (by rw[show i+1+m=i+(m+1) by omega];exact q))
theorem Vs:∀(m:Nat) {i:Nat} {x y:q8} {M N:jD} {t:qr},eP (m+1) x M y N→jT y≠0→t.state=1→t.now=some x→
  ∃b,Xe d p i (m+1) t M (xX { t with now:=some y,born:=b } y (d (i+m)) (p (i+m))) N:=by
 intro m
 induction m with
 |zero=>
  intro i x y M N t s hy h1 hx;cases s with
  |cons hn r=>rename_i o;cases r;refine⟨if(jS x (jC M o).1).begun=true∧x.begun=false then p i else t.born,.cons ((Vm h1 hx).trans hn) ?_⟩;rw[MI h1 hx];unfold kZ;dsimp only;rw[iQ hy];exact .nil
 |succ m ih=>
  intro i x y M N t s hy h1 hx;cases s with
  |cons hn r=>
   rename_i o;have r0:=r;cases r with
   |cons n0 r2=>
    have hg:=qQ3 n0;have e:zO t (jC M o).1 (d i) (p i)={ t with now:=some (jS x (jC M o).1),born:=if(jS x (jC M o).1).begun=true∧x.begun=false then p i else t.born }:=by rw[MI h1 hx];unfold kZ;dsimp only;rw[iJ hg]
    obtain⟨b,q⟩:=ih (i:=i+1) (t:={ t with now:=some (jS x (jC M o).1),born:=if(jS x (jC M o).1).begun=true∧x.begun=false then p i else t.born }) r0 hy h1 rfl;refine⟨b,.cons ((Vm h1 hx).trans hn) ?_⟩;rw[e];rw[show i+1+m=i+(m+1) by omega]at q;exact q
def cm (l:List Int):Prop:=∀z∈l,z=0
theorem cm.num {l:List Int} (h:cm l) (i:Int):qE l i=0:=by
 unfold qE;cases hx:l[i.toNat]? with
 |none=>rfl
 |some z=>exact h z (List.mem_of_getElem? hx)
theorem cm.set {l:List Int} (h:cm l) {i:Nat}:cm (l.set i 0):=λz hz=>by
 rcases List.mem_or_eq_of_mem_set hz with h1 |h1
 ·exact h z h1
 ·exact h1
theorem cm.fb {l:List Int} (h:cm l):cm (l++[0]):=λz hz=>by
 rcases List.mem_append.1 hz with h1 |h1
 ·exact h z h1
 ·exact List.mem_singleton.1 h1
structure TQ (S:zR) (js:List (List qT)) (me B:Int) (k:Nat) (t:qr) (M:jD):Prop where
  set:t.set=S
  nJ:t.me=me
  jobs:t.jobs=js
  ax:t.ax=k
  ao:t.ao=false
  ag:t.ag=[]
  ad:t.ad.length≤9000*k
  now:(k=js.length∧t.state=6∧t.now=none)∨(k<js.length∧t.state=1∧t.now=some (y5 me S ((js[k]?).getD [])))
  fz:t.results.length=k
  calm:xI S M me
  sl:cm M.s
  w0:M.w[0]? =some 0
  n:M.n≤B+2*k
theorem Q2 {S:zR} {js:List (List qT)} {me B:Int} {k:Nat} {t:qr} {M:jD} (h1:t.set=S) (h2:t.me=me) (h3:t.jobs=js) (h4:t.ax=k) (hk:k<js.length) (h5:t.ad.length≤9000*(k+1)) (h6:t.results.length=k+1) (C:xI S M me) (hs:cm M.s) (hw:M.w[0]? =some 0) (hn:M.n≤B+2*(k+1:Nat)) :
  TQ S js me B (k+1) (jr t) M∧(jr t).ad=t.ad:=by
 subst h1 h2 h3;have e:(t.ax+1=(t.jobs.length:Int))↔k+1=t.jobs.length:=by rw[h4];omega
 unfold jr zB;dsimp only;by_cases c:k+1=t.jobs.length
 ·rw[iJ (e.2 c)];exact⟨⟨rfl,rfl,rfl,by show t.ax+1=_;rw[h4];rfl,rfl,rfl,h5,.inl ⟨c,rfl,rfl⟩,h6,C,hs,hw,hn⟩,rfl⟩
 ·rw[iQ (λh=>c (e.1 h)),iQ od];refine⟨⟨rfl,rfl,rfl,by show t.ax+1=_;rw[h4];rfl,rfl,rfl,h5,.inr ⟨by omega,rfl,?_⟩,h6,C,hs,hw,hn⟩,rfl⟩;show some (y5 t.me t.set ((t.jobs[(t.ax+1).toNat]?).getD []))=_;rw[h4,show((k:Int)+1).toNat=k+1 by omega]
theorem qz8 {S:zR} {M:jD} {me:Int} (C:xI S M me) (hs:cm M.s):uF M:=by have hn:=C.n;refine⟨C.wd,⟨by omega,by omega⟩,λz hz=>?_⟩;rw[hs z hz];exact⟨Int.le_refl _,by decide⟩
theorem Oe {S:zR} {js:List (List qT)} {me B:Int} {k i:Nat} {t:qr} {M:jD} (O:yY S) (Ax:jK S=S) (hb:B≤1000000) (hj:∀l∈js,(zf l).2=0∧Quiet l) (T:TQ S js me B k t M) (hk:k<js.length) (D5:js.length≤6) :
  ∃(m:Nat) (y:q8) (N:jD) (b:Int),m≤3*(QN S.words S.writes).sz+431∧Xe d p i (m+1) t M (xX { t with now:=some y,born:=b } y (d (i+m)) (p (i+m))) N∧zE y∧Cv y.ax=false∧
   D4 S M me (((gd js[k] (zc S.fuel) M.w S.writes).kind,(gd js[k] (zc S.fuel) M.w S.writes).err),.prog ⟨js[k],(gd js[k] (zc S.fuel) M.w S.writes).s,if(gd js[k] (zc S.fuel) M.w S.writes).kind=1 then 0 else(gd js[k] (zc S.fuel) M.w S.writes).kind,(gd js[k] (zc S.fuel) M.w S.writes).err,(gd js[k] (zc S.fuel) M.w S.writes).left⟩,(gd js[k] (zc S.fuel) M.w S.writes).v) y N:=by
 have hl:=hj _ (List.getElem_mem hk);have C:=T.calm;have hTn:=T.n;have hf:zc S.fuel≤400:=by unfold zc;omega
 have rq:bu True (QN S.words S.writes) (.prog ⟨js[k],YU,0,0,zc S.fuel⟩):=by have G:=Gb S.words S.writes;exact⟨Jn hl.1,hl.2,(Jv (l:=js[k]) rfl G).gb,λ_=>⟨Jv rfl G,rfl,rfl,by show(0:Nat)+zc S.fuel<9000;omega⟩,hf⟩
 have Au:bu True (jR M.w S.writes) (.prog ⟨js[k],YU,0,0,zc S.fuel⟩):=by have G:=Qg (m:=S.writes) C.wd;exact⟨Jn hl.1,hl.2,(Jv (l:=js[k]) rfl G).gb,λ_=>⟨Jv rfl G,rfl,rfl,by show bD (jR M.w S.writes).lv+zc S.fuel<9000;rw[Gf];omega⟩,hf⟩
 obtain⟨m,y,N,hm,st,E,_⟩:=Gt O C omQ rq Au;have eA:y5 me S js[k]=GN me S (.prog ⟨js[k],YU,0,0,zc S.fuel⟩):=by unfold y5;rw[Ax]
 have hOy:=(qx9 st (by rw[← eA];exact UP O.start.1 hl.1 hl.2) Ig (qz8 C T.sl)).1;have hkd:=E.kind;have hE:jT y≠0:=by unfold jT;rw[iQ (λh=>h E.st),E.fin];omega
 obtain⟨m,rfl⟩:∃m',m=m'+1:=by
  cases m with
  |zero=>cases st;exact absurd E.st (show¬(0:Int)=8 by decide)
  |succ m=>exact⟨m,rfl⟩
 have rX:t.state=1∧t.now=some (y5 me S js[k]):=by
  rcases T.now with⟨h,_⟩ |⟨_,h1,h2⟩
  ·omega
  ·rw[iW hk]at h2;exact⟨h1,h2⟩
 obtain⟨b,q⟩:=Vs (d:=d) (p:=p) m (i:=i) (t:=t) st hE rX.1 (by rw[rX.2,eA]);refine⟨m,y,N,b,by omega,q,hOy,by rw[E.ax];rfl,E⟩
theorem qza {sl:List Int} (h:cm sl) (l:List YN):(l.filter λr=>q9 sl r.2)=l∧(l.filter λr=>!q9 sl r.2)=[]:=by
 have h:∀z:Int,q9 sl z=true:=λz=>by
  unfold q9;rw[List.all_eq_true];intro x hx;rw[h x hx];simp
 constructor
 ·exact List.filter_eq_self.2 λr _=>h r.2
 ·exact List.filter_eq_nil_iff.2 λr _=>by rw[h];decide
theorem qwM {S:zR} {me:Int}:∀(n:Nat) {u:qr} {M:jD} {i:Nat},u.set=S→u.me=me→u.state=5→cm u.ab→S.aa≤u.ab.length+n→xI S M me→cm M.s→
  ∃(m:Nat) (sl:List Int),m≤n∧Xe d p i m (xi u) M (xz { u with ab:=sl }) (bump M m)∧cm sl∧S.aa≤sl.length:=by
 intro n
 induction n with
 |zero=>
  intro u M i h1 h2 h5 hz hn C hs;have hm:=C.me;refine⟨0,u.ab,Nat.le_refl _,?_,hz,by omega⟩;have e:xi u=xz u:=by unfold xi;rw[iQ (by rw[h2];omega)]
  have e2:bump M ((0:Nat):Int)=M:=by unfold bump;show({ M with aX:=M.aX+0 }:jD)=M;rw[Int.add_zero]
  rw[e,e2];exact .nil
 |succ n ih=>
  intro u M i h1 h2 h5 hz hn C hs;have hm:=C.me;have key:∀v:qr,v.set=S→v.me=me→v.state=5→cm v.ab→S.aa≤v.ab.length+(n+1)→(∀sl,({ v with ab:=sl }:qr)={ u with ab:=sl })→
    ∃(m:Nat) (sl:List Int),m≤n+1∧Xe d p i m (xz v) M (xz { u with ab:=sl }) (bump M m)∧cm sl∧S.aa≤sl.length:=λv v1 v2 v5 vz vn ve=>by
   by_cases hd:S.aa≤v.ab.length
   ·refine⟨0,v.ab,Nat.zero_le _,?_,vz,hd⟩;have e2:bump M ((0:Nat):Int)=M:=by unfold bump;show({ M with aX:=M.aX+0 }:jD)=M;rw[Int.add_zero]
    rw[e2,← ve];exact .nil
   ·have e:xz v=v:=by unfold xz;rw[iJ (by rw[v1];omega)]
    have u5:xD v=some (bg 8 v.ab.length 0):=by unfold xD;rw[iQ omQ,iQ omQ,iJ v5]
    have hdo:jC M (bg 8 v.ab.length 0)=(⟨0,b8,false,0⟩,bump M 1):=by
     have hl:=C.s;have e:QH M (bg 8 v.ab.length 0)=(⟨0,b8,false,0⟩,M):=by unfold QH;rw[iQ (by show¬((v.ab.length:Int)<0∨(M.s.length:Int)≤(v.ab.length:Int));omega),iJ (show(bg 8 (v.ab.length:Int) 0).kind=8 from rfl)];rw[show qE M.s (bg 8 (v.ab.length:Int) 0).at_=0 from hs.num _]
     have e0:jC M (bg 8 v.ab.length 0)=if(QH M (bg 8 v.ab.length 0)).1.err=0 then((QH M (bg 8 v.ab.length 0)).1,{ (QH M (bg 8 v.ab.length 0)).2 with aX:=(QH M (bg 8 v.ab.length 0)).2.aX+1 })else QH M (bg 8 v.ab.length 0):=rfl
     rw[e0,e];rfl
    have Ij:zO v (⟨0,b8,false,0⟩:cO) (d i) (p i)=xi { v with ab:=v.ab++[0] }:=by unfold zO;rw[iQ omQ,iQ omQ,iJ v5];rfl
    obtain⟨m,sl,mf,q,qz,ql⟩:=ih (u:={ v with ab:=v.ab++[0] }) (M:=bump M 1) (i:=i+1) v1 v2 v5 vz.fb (by show S.aa≤((v.ab++[(0:Int)]).length:Int)+n;rw[List.length_append,List.length_singleton];omega) (C.bump 1) hs;refine⟨m+1,sl,by omega,?_,qz,ql⟩;rw[e,← ve];refine .cons u5 ?_;rw[hdo];dsimp only;rw[Ij];rw[wQ,show(1:Int)+(m:Int)=((m+1:Nat):Int) by omega]at q;exact q
  unfold xi
  split
  ·exact key { u with ab:=u.ab++[0] } h1 h2 h5 hz.fb (by show S.aa≤((u.ab++[(0:Int)]).length:Int)+(n+1);rw[List.length_append,List.length_singleton];omega) λ_=>rfl
  ·exact key u h1 h2 h5 hz omQ λ_=>rfl
theorem ZQ {S:zR} {M N:jD} {me:Int} {R:(Int×Int)×JX×VM} {y:q8} (O:yY S) (C:xI S M me) (hs:cm M.s) (h0:M.w[0]? =some 0) (E:D4 S M me R y N) (I:bY R.2.2) (bx:R.2.2.sz=dt M.w.length) :
  N.w=yS M.w (if R.1.1=2 then jA R.2.2.lv else[])∧cm N.s∧N.w[0]? =some 0∧N.n≤M.n+1:=by
 have hl:=C.w;have hw:=O.words;have CJ:∀c∈jA R.2.2.lv,1≤c.1∧c.1<M.w.length:=λc hc=>by
  obtain⟨x,hx,h1⟩:=YA hc;have:=I x hx c h1;rw[bx]at this;unfold dt at this;omega
 refine⟨?_,by rw[E.s];exact hs.set,?_,?_⟩
 ·rw[E.w];by_cases k2:R.1.1=2
  ·rw[iJ k2,iJ k2,YD h0 omQ omQ CJ]
  ·rw[iQ k2,iQ k2,YD h0 omQ omQ (λc h=>by cases h)];rfl
 ·rw[E.w]
  split
  ·exact CI _ _ h0 λc hc=>(CJ c hc).1
  ·exact h0
 ·rw[E.n]
  split<;>omega
theorem qKs {S:zR} {js:List (List qT)} {me B:Int} {k i:Nat} {t:qr} {M:jD} (O:yY S) (Ax:jK S=S) (hb:B≤1000000) (hj:∀l∈js,(zf l).2=0∧Quiet l) (T:TQ S js me B k t M) (hk:k<js.length) (D5:js.length≤6)
  {V:RM} (hV:gd js[k] (zc S.fuel) M.w S.writes=V) (k3:V.kind≠3) :
  ∃(m:Nat) (t':qr) (M':jD),m≤6*(QN S.words S.writes).sz+868∧Xe d p i m t M t' M'∧TQ S js me B (k+1) t' M'∧(∃z,t'.results=t.results++[⟨V.kind,V.err,Gu V,z⟩])∧
   (t.ad=[]→(gg (jR (yS M.w (Qt V)) S.writes) (gA V)).1=0→t'.ad=[]∧M'.w=Nr S js[k] M.w)∧(∀z∈yS M.w (Qt V),0≤z∧z<18446744073709551616)∧(gA V).length≤9000:=by
 have hl:=hj _ (List.getElem_mem hk);have C:=T.calm;have hTn:=T.n;have Rp:=C.w;have hww:=O.words;have h4:=O.aa;have tC:=T.ad;obtain⟨m,y,N,b,hm,q,Oy,dM,E⟩:=Oe (d:=d) (p:=p) (i:=i) O Ax hb hj T hk D5;have r9:(gd js[k] (zc S.fuel) M.w S.writes).kind≠4→(gd js[k] (zc S.fuel) M.w S.writes).err=0:=qqM _
 have oT:bY (gd js[k] (zc S.fuel) M.w S.writes).v:=bY.run _ (λx hx c hc=>by
  rcases List.mem_cons.1 hx with rfl |hx
  ·cases hc
  ·cases hx)
 have CK:(gd js[k] (zc S.fuel) M.w S.writes).v.sz=dt M.w.length:=(Ho (Jn hl.1) hl.2 (zc S.fuel) (Rm (l:=js[k]) (zs:=M.w) (m:=S.writes) C.wd) (by rw[Gf];unfold zc;omega)).1.sz;have hA:Nr S js[k] M.w=yS (yS M.w (Qt V)) (jA (gg (jR (yS M.w (Qt V)) S.writes) (gA V)).2.lv):=by unfold Nr;rw[hV]
 rw[hA];rw[hV]at E r9 oT CK;obtain⟨hE,Ik,hF,hS⟩:=qJ8 E r9;obtain⟨w1,w2,w3,w4⟩:=ZQ O C T.sl T.w0 E oT CK;have w1:N.w=yS M.w (Qt V):=w1;have hkd:V.kind=2∨V.kind=3∨V.kind=4:=E.kind;have hlN:=E.calm.w;have Il:∀z∈yS M.w (Qt V),0≤z∧z<18446744073709551616:=by rw[← w1];exact E.calm.wd
 have Im:(gA V).length≤9000:=by rw[← hF];exact JY Oy dM
 let u:qr:={ t with now:=some y,born:=b,aw:=t.aw++[jH { t with now:=some y,born:=b } y (p (i+m))],ah:=t.ah+1,results:=t.results++[⟨V.kind,V.err,Gu V,y.aj⟩],ad:=t.ad++(gA V).map λb=>(b,y.aj) }
 have e1:xX { t with now:=some y,born:=b } y (d (i+m)) (p (i+m))=vE u:=by unfold xX;dsimp only;rw[iQ omQ,iQ omQ,iQ (by rw[T.ao];decide),hE,Ik,hF,hS]
 rw[e1]at q;have bL:u.results.length=k+1:=by show(t.results++[_]).length=_;rw[List.length_append,T.fz];rfl
 have Ay:u.ad.length≤9000*(k+1):=by show(t.ad++(gA V).map _).length≤_;rw[List.length_append,List.length_map];omega
 by_cases pz:u.ad=[]
 ·have e2:vE u=jr u:=by
   unfold vE;rw[iJ pz]
  rw[e2]at q;obtain⟨tq,hr⟩:=Q2 (B:=B) (t:=u) T.set T.nJ T.jobs T.ax hk Ay bL E.calm w2 w3 omQ;refine⟨m+1,_,N,by omega,q,tq,⟨y.aj,(zm u).fz⟩,λ_ _=>⟨hr.trans pz,?_⟩,Il,Im⟩;have hfn:gA V=[]:=List.map_eq_nil_iff.1 (List.append_eq_nil_iff.1 pz).2;rw[hfn,w1];rw[w1]at hlN w3;exact(qVi w3 omQ omQ).symm
 ·--it looks,then sweeps
  have e2:vE u=xi { u with state:=5,ab:=[] }:=by unfold vE;rw[iQ pz]
  rw[e2]at q;obtain⟨m1,sl,ly,q1,qz,ql⟩:=qwM (d:=d) (p:=p) (S:=S) (me:=me) S.aa.toNat (u:={ u with state:=5,ab:=[] }) (M:=N) (i:=i+(m+1)) T.set T.nJ rfl (λz hz=>by cases hz) (by show S.aa≤(([]:List Int).length:Int)+S.aa.toNat;simp;omega) E.calm w2;have Rv:=q.trans q1;clear q q1;have Dx:=qza qz u.ad
  let v:qr:={ u with me:=me,set:=S,ab:=sl,ad:=[],ao:=true,ag:=u.ad,ah:=0,aF:=0,born:=0,cP:=false,state:=1,now:=some (gZ me S (u.ad.map (·.1))) }
  have e3:xz { u with state:=5,ab:=sl }=v:=by unfold xz;rw[iQ (by show¬((sl.length:Int)<t.set.aa);rw[T.set];omega)];dsimp only;rw[Dx.1,Dx.2,iQ pz];unfold zB;rw[iQ (by show¬t.ax=(t.jobs.length:Int);rw[T.ax,T.jobs];omega)];dsimp only;rw[iJ rfl,show u.me=me from T.nJ,show u.set=S from T.set]
  have e3':(xz { ({ u with state:=5,ab:=[] }:qr)with ab:=sl })=v:=e3;rw[e3']at Rv;have Cb:xI S (bump N m1) me:=E.calm.bump _;have Io:=Cb.wd;have GW:=Qg (m:=S.writes) Io;have Am:(u.ad.map (·.1)).length≤100000:=by rw[List.length_map];omega
  obtain⟨m2,y2,N2,sC,Rw,E2,_⟩:=Gt O Cb (by show N.n+1<_;omega) (j:=.ao (u.ad.map (·.1)) 0) ⟨Nat.zero_le _,Am⟩ ⟨Nat.zero_le _,Am⟩
  have F9:bY (jz (.ao (u.ad.map (·.1)) 0) (jR N.w S.writes)).2.2:=OI (λx hx c hc=>by
   rcases List.mem_cons.1 hx with rfl |hx
   ·cases hc
   ·cases hx)
  have hg:=qk3 (u.ad.map (·.1)) (jR N.w S.writes) 0;have iq:=U7 (u.ad.map (·.1)) 0 GW;have Ip:(jz (.ao (u.ad.map (·.1)) 0) (jR N.w S.writes)).2.2.sz=dt N.w.length:=iq.2.1.sz;obtain⟨x1,x2,x3,x4⟩:=ZQ O Cb w2 w3 E2 F9 Ip;have x4:N2.n≤N.n+1:=x4;have pI:=E2.kind;have hR:jz (.ao (u.ad.map (·.1)) 0) (jR N.w S.writes)=(if(gg (jR N.w S.writes) (u.ad.map (·.1))).1=11 then(1,0)else if(gg (jR N.w S.writes) (u.ad.map (·.1))).1=0 then(2,0)else(4,(gg (jR N.w S.writes) (u.ad.map (·.1))).1),.ao (u.ad.map (·.1)) (jE (jR N.w S.writes) (u.ad.map (·.1)) 0).1.1,(gg (jR N.w S.writes) (u.ad.map (·.1))).2):=by rw[← hg.1,← hg.2];rfl
  have hE2:jT y2=(jz (.ao (u.ad.map (·.1)) 0) (jR N.w S.writes)).1.1:=by unfold jT;rw[iQ (λh=>h E2.st)];exact E2.fin
  have pJ:jT y2=(if(gg (jR N.w S.writes) (u.ad.map (·.1))).1=0 then 2 else 4):=by
   rw[hE2];have pI:(jz (.ao (u.ad.map (·.1)) 0) (jR N.w S.writes)).1.1=2∨(jz (.ao (u.ad.map (·.1)) 0) (jR N.w S.writes)).1.1=3∨(jz (.ao (u.ad.map (·.1)) 0) (jR N.w S.writes)).1.1=4:=pI;rw[hR]at pI ⊢;dsimp only at pI ⊢
   split at pI
   ·omega
   ·rename_i cD;rw[iQ cD]
    split<;>rfl
  obtain⟨m2,rfl⟩:∃m',m2=m'+1:=by
   cases m2 with
   |zero=>cases Rw;exact absurd E2.st (show¬(0:Int)=8 by decide)
   |succ m=>exact⟨m,rfl⟩
  obtain⟨b2,q2⟩:=Vs (d:=d) (p:=p) m2 (i:=i+(m+1+m1)) (t:=v) Rw (by rw[pJ];split<;>decide) rfl (by show some (gZ me S _)=_;unfold gZ;rw[Ax]);have qq:=Rv.trans q2;have e4:xX { v with now:=some y2,born:=b2 } y2 (d (i+(m+1+m1)+m2)) (p (i+(m+1+m1)+m2))=gE { v with now:=some y2,born:=b2,aw:=v.aw++[jH { v with now:=some y2,born:=b2 } y2 (p (i+(m+1+m1)+m2))],ah:=0+1 } (jT y2):=by unfold xX;dsimp only;rw[iQ (by rw[pJ];split<;>decide),iQ (by rw[pJ];split<;>decide),iJ rfl]
  rw[e4]at qq;have ly:m1≤4:=by omega
  have n0:N2.n≤B+2*(k+1:Nat):=by omega
  unfold gE at qq;by_cases sI:(gg (jR N.w S.writes) (u.ad.map (·.1))).1=0
  ·rw[pJ,iJ sI,iQ od]at qq;obtain⟨tq,hr⟩:=Q2 (B:=B) (t:={ v with now:=some y2,born:=b2,aw:=v.aw++[jH { v with now:=some y2,born:=b2 } y2 (p (i+(m+1+m1)+m2))],ah:=0+1 }) rfl rfl T.jobs T.ax hk (Nat.zero_le _) bL E2.calm x2 x3 n0;refine⟨_,_,N2,by omega,qq,tq,⟨y.aj,(zm _).fz⟩,λh0 dv=>⟨hr,?_⟩,Il,Im⟩;have Iq:u.ad.map (·.1)=gA V:=by
    show(t.ad++(gA V).map λb=>(b,y.aj)).map (·.1)=_;rw[h0,List.nil_append,List.map_map];exact List.map_id _
   have x1:N2.w=yS N.w (if(jz (.ao (u.ad.map (·.1)) 0) (jR N.w S.writes)).1.1=2 then jA (jz (.ao (u.ad.map (·.1)) 0) (jR N.w S.writes)).2.2.lv else[]):=x1;rw[x1,hR,Iq,w1];dsimp only;rw[dv];rfl
  ·rw[pJ,iQ sI,iJ rfl]at qq;obtain⟨tq,hr⟩:=Q2 (B:=B) (t:={ v with now:=some y2,born:=b2,aw:=v.aw++[jH { v with now:=some y2,born:=b2 } y2 (p (i+(m+1+m1)+m2))],ah:=0+1,ad:=[]++u.ad }) rfl rfl T.jobs T.ax hk (by show([]++u.ad).length≤_;rw[List.nil_append];exact Ay) bL E2.calm x2 x3 n0;refine⟨_,_,N2,by omega,qq,tq,⟨y.aj,(zm _).fz⟩,λh0 dv=>absurd ?_ sI,Il,Im⟩;have Iq:u.ad.map (·.1)=gA V:=by
    show(t.ad++(gA V).map λb=>(b,y.aj)).map (·.1)=_;rw[h0,List.nil_append,List.map_map];exact List.map_id _
   rw[Iq,w1];exact dv
end
section
variable {d p:Nat→Int}
structure Rx (S:zR) (l:List qT) (w:List Int):Prop where
  wd:∀z∈w,0≤z∧z<18446744073709551616
  len:(w.length:Int)=S.words
  w0:w[0]? =some 0
  az:∀z∈yS w (Qt (gd l (zc S.fuel) w S.writes)),0≤z∧z<18446744073709551616
  fs:(gA (gd l (zc S.fuel) w S.writes)).length≤9000
theorem qx0 {S:zR} {js:List (List qT)} {k:Nat} {B:Int} {M:jD} (O:yY S) (hk:(k:Int)<S.aa) (h6:js.length≤6) (C:xI S M k) (iP:cm M.s) (hw:M.w[0]? =some 0) (hn:M.n≤B):TQ S js k B 0 (kF k S js) M∧(kF k S js).ad=[]∧(kF k S js).results=[]:=by
 have ht:js.take 6=js:=List.take_of_length_le h6;have hh:=kL O;have hm:max 0 (min (k:Int) (S.aa-1))=(k:Int):=by omega
 unfold kF;rw[hh,hm,ht];unfold jr zB;dsimp only;by_cases c:js=[]
 ·subst c;rw[iJ (show(-1:Int)+1=(([]:List (List qT)).length:Int)from rfl)];exact⟨⟨rfl,rfl,rfl,rfl,rfl,rfl,Nat.zero_le _,.inl ⟨rfl,rfl,rfl⟩,rfl,C,iP,hw,by omega⟩,rfl,rfl⟩
 ·have hl:0<js.length:=List.length_pos_iff.2 c;rw[iQ (by show¬(-1:Int)+1=(js.length:Int);omega),iQ od];exact⟨⟨rfl,rfl,rfl,rfl,rfl,rfl,Nat.zero_le _,.inr ⟨hl,rfl,rfl⟩,rfl,C,iP,hw,by omega⟩,rfl,rfl⟩
structure Ir (S:zR) (jss:List (List (List qT))) (t:Nat) (m:kK):Prop where
  s:m.s=S
  len:(m.t.length:Int)=S.aa
  aw:∀(k:Nat) (u:qr),k<t→m.t[k]? =some u→u.state=6∧u.now=none
  fut:∀(k:Nat) (u:qr),t≤k→m.t[k]? =some u→u=kF k S ((jss[k]?).getD [])
  calm:∀k:Nat,(k:Int)<S.aa→xI S m.m k
  sl:cm m.m.s
  w0:m.m.w[0]? =some 0
  n:m.m.n≤S.start+4*t
end
section
def zA (n v:Int):List qT:=[(1,0,0,0,n),(10,1,0,0,0),(8,2,7,6,0),(9,1,2,0,0),(1,3,0,0,v),(9,1,3,1,0),(9,7,1,6,0)]
def eh:List qT:=[(8,0,7,6,0),(13,0,0,7,0),(8,1,0,0,0),(8,2,0,1,0),(9,7,1,6,0),(11,0,0,0,0),(21,2,0,0,0)]
def kH:List (List qT)→List Int→Option (List Int×List (Int×List UInt8))
 |[],w=>some (w,[])
 |l::js,w=>
  let V:=gd l 60 w 20
  let u:=yS w (Qt V)
  let g:=gg (jR u 20) (gA V)
  if g.1=0 then(kH js (yS u (jA g.2.lv))).map λp=>(p.1,(V.kind,Gu V)::p.2)else none
def x7 (n:Nat):Nat:=if n≤2 then 1 else if n≤4 then 2 else if n≤8 then 3 else 4
def zP:Nat→List Nat→List (List qT)
 |_,[]=>[]
 |i,n::ns=>zA n i::eh::zP (i+1) ns
def CL:List Int:=[0,0,0,0,0,14]++List.replicate 94 0
def oo (cs:List Nat) (c:Nat):Nat:=if c∈cs then 1+2 ^ c else 0
def Qm (cs:List Nat):Nat:=14+oo cs 1+oo cs 2+oo cs 3+oo cs 4
structure Al (s t:IM):Prop where
  r:∀k:Nat,1≤k→s.ap[k]? =t.ap[k]?
  out:s.out=t.out
  pc:s.pc=t.pc
  bf:s.bf=t.bf
  len:s.ap.length=t.ap.length
theorem Al.num {s t:IM} (a:Al s t) {i:Int} (h:1≤i):qE s.ap i=qE t.ap i:=by unfold qE;rw[a.r _ omQ]
theorem Al.set {s t:IM} (a:Al s t) {i v:Int}:Al (cU s i v) (cU t i v):=⟨λk hk=>by
 show(s.ap.set _ _)[k]? =(t.ap.set _ _)[k]?
 rw[List.getElem?_set,List.getElem?_set,a.len,a.r k hk],a.out,a.pc,a.bf,by show(s.ap.set _ _).length=(t.ap.set _ _).length;rw[List.length_set,List.length_set,a.len]⟩
def Safe (x:qT):Prop:=(x.1=1∨(x.1=8∧1≤x.2.2.1)∨(x.1=9∧1≤x.2.2.1∧1≤x.2.1))
theorem Ry {s:IM} {V:VM} {A B C N:Int}:jU s V (8,A,B,C,N)=(if(z7 (qE s.ap B) C).2=0 then(if(qe V (z7 (qE s.ap B) C).1).1.2=0 then(0,cU s A (qe V (z7 (qE s.ap B) C).1).1.1,(qe V (z7 (qE s.ap B) C).1).2)else((qe V (z7 (qE s.ap B) C).1).1.2,s,(qe V (z7 (qE s.ap B) C).1).2))else(2,s,V)):=rfl
theorem Rz {s:IM} {V:VM} {A B C N:Int}:jU s V (9,A,B,C,N)=(if(z7 (qE s.ap A) C).2=0 then((zJ V [((z7 (qE s.ap A) C).1,qE s.ap B)]).1,s,(zJ V [((z7 (qE s.ap A) C).1,qE s.ap B)]).2)else(2,s,V)):=rfl
theorem CM {mt:List Int} {s t:IM} {V:VM} {x:qT} (a:Al s t) (h:Safe x):(bK mt s V x).e=(bK mt t V x).e∧(bK mt s V x).nx=s.pc+1∧(bK mt t V x).nx=s.pc+1∧(bK mt s V x).bp=false∧(bK mt t V x).bp=false∧(bK mt s V x).v=(bK mt t V x).v∧Al (bK mt s V x).s (bK mt t V x).s:=by
 obtain⟨o,A,B,C,N⟩:=x;have fin:∀{r q:Int×IM×VM},r.1=q.1∧r.2.2=q.2.2∧Al r.2.1 q.2.1→(r.1=q.1∧s.pc+1=s.pc+1∧t.pc+1=s.pc+1∧false=false∧false=false∧r.2.2=q.2.2∧Al r.2.1 q.2.1):=λ⟨a1,a2,a3⟩=>⟨a1,rfl,by rw[a.pc],rfl,rfl,a2,a3⟩;rcases h with h |⟨h,hB⟩ |⟨h,hB,hA⟩
 ·have h:o=1:=h;subst h;exact⟨rfl,rfl,by rw[a.pc];rfl,rfl,rfl,rfl,a.set⟩
 ·have h:o=8:=h;subst h;have e:qE s.ap B=qE t.ap B:=a.num hB;refine fin (r:=jU s V (8,A,B,C,N)) (q:=jU t V (8,A,B,C,N)) ?_;rw[Ry,Ry,e]
  split
  ·split
   ·exact⟨rfl,rfl,a.set⟩
   ·exact⟨rfl,rfl,a⟩
  ·exact⟨rfl,rfl,a⟩
 ·have h:o=9:=h;subst h;have e:qE s.ap B=qE t.ap B:=a.num hB;have e2:qE s.ap A=qE t.ap A:=a.num hA;refine fin (r:=jU s V (9,A,B,C,N)) (q:=jU t V (9,A,B,C,N)) ?_;rw[Rz,Rz,e,e2]
  split
  ·exact⟨rfl,rfl,a⟩
  ·exact⟨rfl,rfl,a⟩
structure D6 (a b:RM):Prop where
  kind:a.kind=b.kind
  out:a.s.out=b.s.out
  v:a.v=b.v
theorem qwR {n m v:Int} {mt:List Int}:∀(f:Nat) {s t:IM} {V:VM} (p:Nat),Al s t→s.pc=(p:Int)→2≤p→p≤7→D6 (jM (zA n v) mt f s V) (jM (zA m v) mt f t V):=by
 intro f
 induction f with
 |zero=>
  intro s t V p a hp h2 h7;rw[gu,gu,← a.pc];show D6 (if s.pc=((7:Nat):Int)then _ else _) (if s.pc=((7:Nat):Int)then _ else _)
  split
  ·exact⟨rfl,a.out,rfl⟩
  ·exact⟨rfl,a.out,rfl⟩
 |succ f ih=>
  intro s t V p a hp h2 h7;rw[vR,vR,← a.pc];by_cases c:p=7
  ·rw[iJ (show s.pc=((zA n v).length:Int) by rw[hp,c];rfl),iJ (show s.pc=((zA m v).length:Int) by rw[hp,c];rfl)];exact⟨rfl,a.out,rfl⟩
  ·rw[iQ (show¬s.pc=((zA n v).length:Int) by show¬s.pc=((7:Nat):Int);omega),iQ (show¬s.pc=((zA m v).length:Int) by show¬s.pc=((7:Nat):Int);omega)];have hi:qR (zA n v) s.pc=qR (zA m v) s.pc∧Safe (qR (zA m v) s.pc):=by
    rw[hp];rcases(show p=2∨p=3∨p=4∨p=5∨p=6 by omega)with rfl |rfl |rfl |rfl |rfl
    ·exact⟨rfl,.inr (.inl ⟨rfl,show(1:Int)≤7 by decide⟩)⟩
    ·exact⟨rfl,.inr (.inr ⟨rfl,show(1:Int)≤2 by decide,show(1:Int)≤1 by decide⟩)⟩
    ·exact⟨rfl,.inl rfl⟩
    ·exact⟨rfl,.inr (.inr ⟨rfl,show(1:Int)≤3 by decide,show(1:Int)≤1 by decide⟩)⟩
    ·exact⟨rfl,.inr (.inr ⟨rfl,show(1:Int)≤1 by decide,show(1:Int)≤7 by decide⟩)⟩
   rw[hi.1];obtain⟨d1,d2,d3,d4,d5,d6,d7⟩:=CM (mt:=mt) (V:=V) a hi.2;rw[d1,d2,d3,d4,d5,d6]
   split
   ·simp only[Bool.false_eq_true,if_false];exact ih (p+1) ⟨d7.r,d7.out,rfl,d7.bf,d7.len⟩ (by show s.pc+1=_;omega) omQ omQ
   ·split
    ·exact⟨rfl,d7.out,rfl⟩
    ·exact⟨rfl,d7.out,rfl⟩
def mN (k:Int):IM:=⟨[k,0,0,0,0,0,0,0],[],1,[]⟩
theorem RA {k v:Int} {mt:List Int} {V:VM} (hk:k<2147483648):jM (zA k v) mt 59 (mN k) V=if(jO V k).1.2=0 then jM (zA k v) mt 58 { cU (mN k) 1 (jO V k).1.1 with pc:=2 } (jO V k).2
  else if(jO V k).1.2=11 then⟨1,0,59,mN k,(jO V k).2⟩else⟨4,(jO V k).1.2,59,mN k,(jO V k).2⟩:=by
 have hd:bK mt (mN k) V (10,1,0,0,0)=⟨(jU (mN k) V (10,1,0,0,0)).1,2,false,(jU (mN k) V (10,1,0,0,0)).2.1,(jU (mN k) V (10,1,0,0,0)).2.2⟩:=rfl;have ht:jU (mN k) V (10,1,0,0,0)=if 2147483648≤k then(3,mN k,V)else if(jO V k).1.2=0 then(0,cU (mN k) 1 (jO V k).1.1,(jO V k).2)else((jO V k).1.2,mN k,(jO V k).2):=rfl
 rw[iQ omQ]at ht;rw[vR,iQ (by show¬(1:Int)=((7:Nat):Int);decide:¬(mN k).pc=((zA k v).length:Int)),show qR (zA k v) (mN k).pc=(10,1,0,0,0)from rfl,hd,ht];by_cases c:(jO V k).1.2=0
 ·rw[iJ c,iJ c];rfl
 ·rw[iQ c,iQ c,iQ c]
theorem qKr {n m v:Int} {w:List Int} (hn:n<2147483648) (hm:m<2147483648) (h:zX n=zX m):D6 (gd (zA n v) 60 w 20) (gd (zA m v) 60 w 20):=by
 have ha:jO (jR w 20) n=jO (jR w 20) m:=by unfold jO;rw[h]
 show D6 (jM (zA n v) (qP (zA m v)) 60 YU (jR w 20)) (jM (zA m v) (qP (zA m v)) 60 YU (jR w 20));generalize qP (zA m v)=mt;generalize jR w 20=V at*;have e1:∀k:Int,jM (zA k v) mt 60 YU V=jM (zA k v) mt 59 (mN k) V:=λk=>by
  rw[vR];rfl
 rw[e1,e1,RA hn,RA hm,ha]
 split
 ·refine qwR 58 2 ⟨λk hk=>?_,rfl,rfl,rfl,rfl⟩ rfl omQ omQ
  match k,hk with
  |k+1,_=>rfl
 ·split
  ·exact⟨rfl,rfl,rfl⟩
  ·exact⟨rfl,rfl,rfl⟩
theorem qQh {n m v:Int} {w:List Int} {js:List (List qT)} (hn:n<2147483648) (hm:m<2147483648) (h:zX n=zX m):kH (zA n v::js) w=kH (zA m v::js) w:=by
 obtain⟨a,b,c⟩:=qKr (v:=v) (w:=w) hn hm h;have e1:Qt (gd (zA n v) 60 w 20)=Qt (gd (zA m v) 60 w 20):=by unfold Qt;rw[a,c]
 have e2:gA (gd (zA n v) 60 w 20)=gA (gd (zA m v) 60 w 20):=by unfold gA;rw[a,c]
 have e3:Gu (gd (zA n v) 60 w 20)=Gu (gd (zA m v) 60 w 20):=by unfold Gu;rw[a,b]
 unfold kH;dsimp only;rw[e1,e2,e3,a]
def CN (cs:List Nat):List (List qT):=zP 0 (cs.map λc=>2 ^ c)
def CO (n:Nat):List (Int×List UInt8):=(List.range n).flatMap λj=>[(2,[]),(2,[UInt8.ofNat (48+j)])]
def RC (cs:List Nat):Bool:=match kH (CN cs) CL with
 |some p=>(p.1[5]? ==some (Qm cs:Int))&&(p.2==CO cs.length)
 |none=>false
def uH:List Nat:=[1,2,3,4]
def Is:List (List Nat):=[[]]++uH.map (λc=>[c])++uH.flatMap (λc=>uH.map λd=>[c,d])++uH.flatMap λc=>uH.flatMap λd=>uH.map λe=>[c,d,e]
theorem qvT:(Is.all λcs=>RC cs)=true:=by kernel_rfl
end
section
theorem qJo {M:jD} {o:dz}:(jC M o).2.w.length=M.w.length∧(jC M o).2.l.length=M.l.length∧(jC M o).2.s.length=M.s.length:=by
 have key:(yH M o).2.w.length=M.w.length∧(yH M o).2.l.length=M.l.length∧(yH M o).2.s.length=M.s.length:=by
  unfold yH Jp QV JO QH
  repeat' split
  all_goals simp
 rw[wF]
 split
 ·exact key
 ·exact key
theorem qJ1 (t:qr) (W:cY t):cY (yL t):=by
 unfold yL
 split
 ·split
  ·exact gt _
  ·exact W.same rfl
 ·exact W
theorem qqm (t:qr) (W:cY t) (s v:Int):cY (yJ t s v):=by
 unfold yJ
 split
 ·exact W
 ·split
  ·split
   ·exact gt _
   ·split
    ·exact W.same rfl
    ·exact W
  ·exact W
theorem UK (t:qr):(yL t).aw=t.aw:=by
 unfold yL
 split
 ·split
  ·exact(vF _).aw
  ·rfl
 ·rfl
theorem Nu (t:qr) (s v:Int):(yJ t s v).aw=t.aw:=by
 unfold yJ
 split
 ·rfl
 ·split
  ·split
   ·exact(vF _).aw
   ·split<;>rfl
  ·rfl
structure G9 (m:kK):Prop where
  so:yY m.s
  r:uF m.m
  len:(m.t.length:Int)=m.s.aa
  w:(m.m.w.length:Int)=m.s.words
  l:(m.m.l.length:Int)=m.s.al
  sl:(m.m.s.length:Int)=m.s.aa
  t:∀(i:Nat) (t:qr),m.t[i]? =some t→xn t∧cY t∧(t.aw.length:Int)≤m.aM
  aM:0≤m.aM
  aX:0≤m.m.aX∧m.m.aX≤m.aM+1
theorem Jb {ts:List qr} {i:Nat} {s v:Int} {k:Nat}:(yT ts i s v)[k]? =(ts[k]?).map λt=>if k=i then t else yJ t s v:=by unfold yT;rw[List.getElem?_mapIdx]
theorem qJO {m:kK} (K:G9 m) {i:Nat} (hi:i<m.t.length) {draw:Int} (hd:0≤draw):G9 (vB m i draw)∧(vB m i draw).s=m.s∧(vB m i draw).aM=m.aM+1:=by
 obtain⟨t,ht⟩:∃t,m.t[i]? =some t:=⟨m.t[i],iW hi⟩;obtain⟨O,W,hp⟩:=K.t i t ht;have hpk:=K.aM;have uW:=K.aX;have CP:∀(u:qr) {k:Nat} {v:qr},(m.t.set i u)[k]? =some v→(k=i∧v=u)∨(k≠i∧m.t[k]? =some v):=λu k v h=>by
  by_cases e:k=i
  ·subst e;rw[List.getElem?_set_self hi]at h;exact .inl ⟨rfl,(Option.some.inj h).symm⟩
  ·rw[List.getElem?_set_ne (λh=>e h.symm)]at h;exact .inr ⟨e,h⟩
 unfold vB;rw[ht];dsimp only
 split
 ·refine⟨⟨K.so,K.r,by show((m.t.set i _).length:Int)=_;rw[List.length_set];exact K.len,K.w,K.l,K.sl,λk v hv=>?_,by show 0≤m.aM+1;omega,by show 0≤m.m.aX∧m.m.aX≤m.aM+1+1;omega⟩,rfl,rfl⟩;show xn v∧cY v∧(v.aw.length:Int)≤m.aM+1;rcases CP _ hv with⟨_,rfl⟩ |⟨_,h⟩
  ·exact⟨Zd O,qJ1 t W,by rw[UK];omega⟩
  ·obtain⟨a,b,c⟩:=K.t k v h;exact⟨a,b,by omega⟩
 ·rename_i o hn;have ho:=VU O W hn;obtain⟨a1,a2⟩:=NT K.r ho;have O':=MD O a1 hd (pick:=m.aM+1) (draw:=draw);have W':=qVr O W a1 draw (m.aM+1);have G:=(qGe t (jC m.m o).1 draw (m.aM+1)).aw;obtain⟨l1,l2,l3⟩:=qJo (M:=m.m) (o:=o);have lc:=Mq (M:=m.m) (o:=o);generalize jC m.m o=r at*;generalize zO t r.1 draw (m.aM+1)=u at*;have one:∀(k:Nat) (v:qr),(m.t.set i u)[k]? =some v→xn v∧cY v∧(v.aw.length:Int)≤m.aM+1:=λk v hv=>by
   rcases CP _ hv with⟨_,rfl⟩ |⟨_,h⟩
   ·exact⟨O',W',by omega⟩
   ·obtain⟨a,b,c⟩:=K.t k v h;exact⟨a,b,by omega⟩
  have base:∀ts:List qr,ts.length=m.t.length→(∀(k:Nat) (v:qr),ts[k]? =some v→xn v∧cY v∧(v.aw.length:Int)≤m.aM+1)→G9 { m with aM:=m.aM+1,last:=o,did:=true,m:=r.2,t:=ts }:=λts hl H=>⟨K.so,a2,by show(ts.length:Int)=_;rw[hl];exact K.len,by show(r.2.w.length:Int)=_;rw[l1];exact K.w,by show(r.2.l.length:Int)=_;rw[l2];exact K.l,by show(r.2.s.length:Int)=_;rw[l3];exact K.sl,H,by show 0≤m.aM+1;omega,by show 0≤r.2.aX∧r.2.aX≤m.aM+1+1;omega⟩
  refine⟨?_,rfl,rfl⟩
  split
  ·refine base _ (by unfold yT;simp) λk v hv=>?_;rw[Jb]at hv;cases hq:(m.t.set i u)[k]? with
   |none=>rw[hq]at hv;cases hv
   |some q=>
    rw[hq]at hv;have hv:(if k=i then q else yJ q o.at_ o.lk.1)=v:=Option.some.inj hv;obtain⟨b1,b2,b3⟩:=one k q hq;subst hv
    split
    ·exact⟨b1,b2,b3⟩
    ·exact⟨qV8 b1,qqm q b2 _ _,by rw[Nu];exact b3⟩
  ·exact base _ aN one
theorem qvu {s:zR} {jobs:List (List (List qT))} (hs:0≤s.start) (hj:∀js∈jobs,∀l∈js,(zf l).2=0∧Quiet l):G9 (QU s jobs):=by
 have so:yY (jK { s with aa:=((jobs.take 4).length:Int) }):=yq hs;have q1:=so.words;have q2:=so.al;have q3:=so.aa;have q4:=so.start;have Q:=Vy (Rt so) (at_:=5) (w:=14) od ⟨by decide,by decide⟩;unfold QU;dsimp only;generalize jK { s with aa:=((jobs.take 4).length:Int) }=S at*;refine⟨so,⟨Q.wd,by rw[Q.n];exact⟨q4.1,by omega⟩,λz hz=>?_⟩,?_,Q.w,?_,?_,λi t ht=>?_,Int.le_refl _,?_⟩
 ·rw[Q.s]at hz;rw[(List.mem_replicate.1 hz).2];exact⟨by decide,by decide⟩
 ·show((((List.range S.aa.toNat).map _).length:Nat):Int)=S.aa;rw[List.length_map,List.length_range];omega
 ·rw[Q.l,List.length_replicate];show((S.al.toNat:Nat):Int)=S.al;omega
 ·rw[Q.s,List.length_replicate];show((S.aa.toNat:Nat):Int)=S.aa;omega
 ·rw[List.getElem?_map]at ht;by_cases hi:i<S.aa.toNat
  ·rw[List.getElem?_range hi]at ht;have ht:=Option.some.inj ht;subst ht;have Az:∀l∈(((jobs.take 4)[i]?).getD []),(zf l).2=0∧Quiet l:=λl hl=>by
    cases hx:(jobs.take 4)[i]? with
    |none=>rw[hx]at hl;cases hl
    |some js=>rw[hx]at hl;exact hj js (List.mem_of_mem_take (List.mem_of_getElem? hx)) l hl
   refine⟨qwh q4.1 Az,gB _,?_⟩;have:(kF (i:Int) S (((jobs.take 4)[i]?).getD [])).aw=[]:=(zm _).aw;rw[this];exact Int.le_refl _
  ·rw[List.getElem?_eq_none (by simp;omega)]at ht;cases ht
 ·have:=Q.aX;show 0≤(jC (gU S) (bg 2 5 14)).2.aX∧_≤(0:Int)+1;omega
end
section
variable {d p:Nat→Int}
theorem CQ {S:zR} {js:List (List qT)} {me B:Int} (O:yY S) (Ax:jK S=S) (hb:B≤1000000) (hj:∀l∈js,(zf l).2=0∧Quiet l) (hc:∀l∈js,CA l) (D5:js.length≤6) (hf:S.fuel=60) (hw:S.writes=20) :
  ∀(n k i:Nat) {t:qr} {M:jD} {w':List Int} {ks:List (Int×List UInt8)},js.length=k+n→TQ S js me B k t M→kH (js.drop k) M.w=some (w',ks)→t.ad=[]→
  ∃(m:Nat) (t':qr) (M':jD) (rs:List GS),m≤n*(6*(QN S.words S.writes).sz+868)∧Xe d p i m t M t' M'∧TQ S js me B js.length t' M'∧t'.results=t.results++rs∧t'.ad=[]∧M'.w=w'∧(rs.map λr=>(r.kind,r.hX))=ks:=by
 intro n
 induction n with
 |zero=>
  intro k i t M w' ks hn T hE h0;obtain rfl:k=js.length:=by omega
  rw[List.drop_length]at hE;cases hE;exact⟨0,t,M,[],Nat.zero_le _,.nil,T,(List.append_nil _).symm,h0,rfl,rfl⟩
 |succ n ih=>
  intro k i t M w' ks hn T hE h0;have hk:k<js.length:=by omega
  have hl:=hj _ (List.getElem_mem hk);have C:=T.calm;have k3:(gd js[k] (zc S.fuel) M.w S.writes).kind≠3:=by
   have hf:zc S.fuel≤400:=by unfold zc;omega
   exact qzS (Jn hl.1) hl.2 (hc _ (List.getElem_mem hk)) _ (Rm (l:=js[k]) (zs:=M.w) (m:=S.writes) C.wd) (by rw[Gf];omega)
  obtain⟨m,t',M',hm,q,T',⟨z,hz⟩,hr,_,_⟩:=qKs (d:=d) (p:=p) (i:=i) O Ax hb hj T hk D5 rfl k3;have e60:zc S.fuel=60:=by rw[hf];rfl
  unfold Nr at hr;rw[e60,hw]at hr hz;rw[List.drop_eq_getElem_cons hk]at hE;unfold kH at hE;dsimp only at hE
  split at hE
  rotate_left
  ·cases hE
  rename_i hg;obtain⟨q1,hp,e⟩:=Option.map_eq_some_iff.1 hE;cases e;obtain⟨a,b⟩:=hr h0 hg;obtain⟨m2,t2,M2,rs,sC,q2,T2,DR,Hb,hw2,iq⟩:=ih (k+1) (i+m) omQ T' (w':=q1.1) (ks:=q1.2) (by rw[b];exact hp) a;exact⟨m+m2,t2,M2,_::rs,by rw[Nat.succ_mul];omega,q.trans q2,T2,by rw[DR,hz,List.append_assoc];rfl,Hb,hw2,by rw[List.map_cons,iq]⟩
theorem qJu {ns:List Nat} (hl:ns.length≤3) (hn:∀n∈ns,2≤n∧n≤16):∃w ks,kH (zP 0 ns) CL=some (w,ks)∧w[5]? =some (Qm (ns.map x7):Int)∧ks.length=2*ns.length∧∀j,j<ns.length→ks[2*j+1]? =some (2,[UInt8.ofNat (48+j)]):=by
 have dQ:∀n:Nat,1≤x7 n∧x7 n≤4:=λn=>by
  unfold x7
  repeat' split
  all_goals omega
 have rB:∀n:Nat,2≤n∧n≤16→zX (n:Int)=zX ((2 ^ x7 n:Nat):Int):=λn h=>by
  unfold x7;by_cases h1:n≤2
  ·rw[iJ h1];unfold zX;rw[iQ omQ,iJ omQ];rfl
  rw[iQ h1];by_cases h2:n≤4
  ·rw[iJ h2];unfold zX;rw[iQ omQ,iQ omQ,iJ omQ];rfl
  rw[iQ h2];by_cases h3:n≤8
  ·rw[iJ h3];unfold zX;rw[iQ omQ,iQ omQ,iQ omQ,iJ omQ];rfl
  ·rw[iQ h3];unfold zX;rw[iQ omQ,iQ omQ,iQ omQ,iQ omQ,iJ omQ];rfl
 have rb:∀n:Nat,2 ^ x7 n≤16:=λn=>by
  have:=dQ n;rcases(show x7 n=1∨x7 n=2∨x7 n=3∨x7 n=4 by omega)with e |e |e |e<;>rw[e]<;>decide
 have It:∀(l:List Nat) (i:Nat) (w:List Int),(∀n∈l,2≤n∧n≤16)→kH (zP i l) w=kH (zP i ((l.map x7).map λc=>2 ^ c)) w:=by
  intro l
  induction l with
  |nil=>intro i w _;rfl
  |cons n l ih=>
   intro i w h;have h0:=h n (iK ..);show kH (zA n i::eh::zP (i+1) l) w=kH (zA ((2 ^ x7 n:Nat):Int) i::eh::zP (i+1) ((l.map x7).map λc=>2 ^ c)) w;rw[qQh (m:=((2 ^ x7 n:Nat):Int)) omQ (by have:=rb n;omega) (rB n h0)];have he:=λw=>ih (i+1) w λn hn=>h n (iX _ hn);unfold kH;dsimp only
   split
   ·unfold kH;dsimp only
    split
    ·rw[he]
    ·rfl
   ·rfl
 have dA:∀cs:List Nat,cs.length≤3→(∀c∈cs,1≤c∧c≤4)→cs∈Is:=λcs hl hc=>by
  have h4:∀c,1≤c∧c≤4→c∈uH:=λc h=>by
   rcases(show c=1∨c=2∨c=3∨c=4 by omega)with rfl |rfl |rfl |rfl<;>decide
  unfold Is
  match cs,hl with
  |[],_=>simp
  |[c],_=>simp[h4 c (hc c aN)]
  |[c,d],_=>simp[h4 c (hc c aN),h4 d (hc d aN)]
  |[c,d,e],_=>exact List.mem_append.2 (.inr (List.mem_flatMap.2 ⟨c,h4 c (hc c aN),List.mem_flatMap.2 ⟨d,h4 d (hc d aN),List.mem_map.2 ⟨e,h4 e (hc e aN),rfl⟩⟩⟩))
 have hk:=List.all_eq_true.1 qvT (ns.map x7) (dA _ (by rw[List.length_map];exact hl) λc hc=>by
  obtain⟨n,_,rfl⟩:=List.mem_map.1 hc
  exact dQ n)
 unfold RC CN at hk;rw[← It ns 0 CL hn]at hk;cases he:kH (zP 0 ns) CL with
 |none=>rw[he]at hk;cases hk
 |some p=>
  rw[he]at hk;simp only[Bool.and_eq_true,beq_iff_eq]at hk;obtain⟨h5,ht⟩:=hk;refine⟨p.1,p.2,rfl,h5,?_,λj hj=>?_⟩
  ·rw[ht,List.length_map]
   match ns,hl with
   |[],_=>rfl
   |[_],_=>rfl
   |[_,_],_=>rfl
   |[_,_,_],_=>rfl
  ·rw[ht,List.length_map]
   match ns,hl,hj with
   |[_],_,hj=>
    obtain rfl:j=0:=by simp at hj;omega
    rfl
   |[_,_],_,hj=>rcases(show j=0∨j=1 by simp at hj;omega)with rfl |rfl<;>rfl
   |[_,_,_],_,hj=>rcases(show j=0∨j=1∨j=2 by simp at hj;omega)with rfl |rfl |rfl<;>rfl
theorem qWf {mm:kK} {th:qr} {M:jD} {o:dz} (ht:mm.t=[th]) (hm:mm.m=M) (hn:xD th=some o) (d:Int) :
  we mm=false∧(vB mm 0 d).t=[zO th (jC M o).1 d (mm.aM+1)]∧(vB mm 0 d).m=(jC M o).2∧(vB mm 0 d).aM=mm.aM+1:=by
 have BZ:¬th.state=4∧¬th.state=6:=by
  constructor<;>
  ·intro h;have:xD th=none:=by
    unfold xD;rw[iQ omQ,iQ omQ,iQ omQ]
   rw[this]at hn;cases hn
 refine⟨?_,?_⟩
 ·unfold we;rw[ht];simp[BZ.1,BZ.2]
 ·have ew:∀u s v,yT [u] 0 s v=[u]:=λu s v=>rfl;unfold vB;rw[ht,hm];simp only[List.getElem?_cons_zero];rw[hn];dsimp only;rw[List.set_cons_zero];refine⟨?_,rfl,rfl⟩
  split
  ·exact ew _ _ _
  ·rfl
theorem qVF {s:zR} {jss:List (List (List qT))} (hs:0≤s.start) (cC:s.start<1000):Ir (QU s jss).s jss 0 (QU s jss):=by
 have so:yY (jK { s with aa:=((jss.take 4).length:Int) }):=yq hs;have q3:=so.aa;have eS:(QU s jss).s=jK { s with aa:=((jss.take 4).length:Int) }:=rfl;have est:(jK { s with aa:=((jss.take 4).length:Int) }).start=s.start:=by show min s.start 4611686018427387903=s.start;omega
 have Q0:=Vy (Rt so) (at_:=5) (w:=14) od ⟨by decide,by decide⟩;have iP:=Q0.s;refine⟨rfl,?_,λk u hk _=>absurd hk (Nat.not_lt_zero _),λk u _ hu=>?_,λk hk=>qYd (me:=(k:Int)) so Q0 (by rw[eS,est];omega) ⟨by omega,by rw[eS]at hk;exact hk⟩,?_,Q0.w0,?_⟩
 ·show((((List.range (QU s jss).s.aa.toNat).map _).length:Nat):Int)=_;rw[List.length_map,List.length_range,eS];omega
 ·have hu:((List.range (QU s jss).s.aa.toNat).map λi:Nat=>kF i (QU s jss).s (((jss.take 4)[i]?).getD []))[k]? =some u:=hu;rw[List.getElem?_map]at hu;obtain⟨i,hi,rfl⟩:=Option.map_eq_some_iff.1 hu;have hk:k<(QU s jss).s.aa.toNat:=by
   have:=(List.getElem?_eq_some_iff.1 hi).1;simpa using this
  rw[List.getElem?_range hk]at hi;cases hi;have DV:k<4:=by rw[eS]at hk;omega
  rw[List.getElem?_take,iJ DV]
 ·intro z hz;have hz:z∈(jC (gU (jK { s with aa:=((jss.take 4).length:Int) })) (bg 2 5 14)).2.s:=hz;rw[iP]at hz;exact List.eq_of_mem_replicate hz
 ·show(jC (gU _) (bg 2 5 14)).2.n≤_;rw[Q0.n];have:(jK { s with aa:=((jss.take 4).length:Int) }).start≤(jK { s with aa:=((jss.take 4).length:Int) }).start+4*0:=by omega
  exact this
def GX (st wi:Int):zR:=⟨100,st,wi,0,0,0,20,60⟩
theorem qKB {st wi:Int} {js:List (List qT)} (h6:js.length≤6):∃S:zR,yY S∧jK S=S∧S.fuel=60∧S.writes=20∧S.words=100∧(QU (GX st wi) [js]).t=[kF 0 S js]∧(QU (GX st wi) [js]).m.w=CL∧
  TQ S js 0 0 0 (kF 0 S js) (QU (GX st wi) [js]).m∧(kF 0 S js).ad=[]∧(kF 0 S js).results=[]:=by
 have Q:=qVF (s:=GX st wi) (jss:=[js]) (show(0:Int)≤0 by decide) (show(0:Int)<1000 by decide);have O:yY (QU (GX st wi) [js]).s:=yq (show(0:Int)≤0 by decide);have e1:(QU (GX st wi) [js]).s.aa=1:=rfl;obtain⟨T,h0,h1⟩:=qx0 (js:=js) (k:=0) (B:=0) O (by rw[e1];decide) h6 (Q.calm 0 (by rw[e1];decide)) Q.sl Q.w0 Q.n;exact⟨_,O,kL O,rfl,rfl,rfl,rfl,rfl,T,h0,h1⟩
theorem qxs {a b:Int} (ha:0≤a∧a<18446744073709551616) (hb:0≤b∧b<18446744073709551616):(zf (zA a b)).2=0∧Quiet (zA a b)∧CA (zA a b):=by
 refine⟨?_,λx hx=>?_,λx hx=>?_⟩
 ·simp[zf,lf,zh,Jx,jc,kh,jt,xG,jq,Jh,Q6,zA,qE,vI,jk,dh]
 ·simp only[zA,List.mem_cons,List.not_mem_nil,or_false]at hx;rcases hx with rfl |rfl |rfl |rfl |rfl |rfl |rfl
  all_goals first |exact⟨by simp,ha⟩ |exact⟨by simp,hb⟩ |exact⟨by simp,by simp⟩
 ·simp only[zA,List.mem_cons,List.not_mem_nil,or_false]at hx;rcases hx with rfl |rfl |rfl |rfl |rfl |rfl |rfl<;>simp
theorem Iu:(zf eh).2=0∧Quiet eh∧CA eh:=⟨by decide,λx hx=>by
 simp only[eh,List.mem_cons,List.not_mem_nil,or_false]at hx;rcases hx with rfl |rfl |rfl |rfl |rfl |rfl |rfl<;>decide,λx hx=>by
 simp only[eh,List.mem_cons,List.not_mem_nil,or_false]at hx
 rcases hx with rfl |rfl |rfl |rfl |rfl |rfl |rfl<;>decide⟩
theorem RD:∀{ns:List Nat} {i:Nat},i+ns.length≤1000→(∀n∈ns,2≤n∧n≤16)→∀l∈zP i ns,((zf l).2=0∧Quiet l)∧CA l:=by
 intro ns
 induction ns with
 |nil=>intro i _ _ l hl;cases hl
 |cons n ns ih=>
  intro i hi hn l hl;have h0:=hn n (iK ..);simp only[List.length_cons]at hi;rcases List.mem_cons.1 hl with rfl |hl
  ·have:=qxs (a:=(n:Int)) (b:=(i:Int)) omQ omQ;exact⟨⟨this.1,this.2.1⟩,this.2.2⟩
  rcases List.mem_cons.1 hl with rfl |hl
  ·exact⟨⟨Iu.1,Iu.2.1⟩,Iu.2.2⟩
  ·exact ih omQ (λn Iv=>hn n (iX _ Iv)) l hl
theorem Uo:∀{ns:List Nat} {i:Nat},(zP i ns).length=2*ns.length:=by
 intro ns
 induction ns with
 |nil=>intro i;rfl
 |cons n ns ih=>intro i;show(zP (i+1) ns).length+1+1=2*(ns.length+1);rw[ih];omega
theorem qqO:∀{ns:List Nat} {i n:Nat},zP i (ns++[n])=zP i ns++[zA n (i+ns.length:Nat),eh]:=by
 intro ns
 induction ns with
 |nil=>intro i n;rfl
 |cons a ns ih=>intro i n;show zA a i::eh::zP (i+1) (ns++[n])=_;rw[ih,show i+1+ns.length=i+(a::ns).length by simp only[List.length_cons];omega];rfl
theorem qVL {st wi:Int} {ns:List Nat} (hl:ns.length≤3) (hn:∀n∈ns,2≤n∧n≤16) :
  ∃(S:zR) (k:Nat) (tE:qr) (ME:jD),k≤100000∧(QU (GX st wi) [zP 0 ns]).t=[kF 0 S (zP 0 ns)]∧
   Xe (λ_=>((0:Nat):Int)) (λj=>(j:Int)+1) 0 k (kF 0 S (zP 0 ns)) (QU (GX st wi) [zP 0 ns]).m tE ME∧tE.state=6∧wS tE=[]∧ME.w.length=100∧ME.w[5]? =some (Qm (ns.map x7):Int)∧
   tE.results.length=2*ns.length∧∀j,j<ns.length→∃r,tE.results[2*j+1]? =some r∧r.kind=2∧r.hX=[UInt8.ofNat (48+j)]:=by
 have h6:(zP 0 ns).length≤6:=by rw[Uo];omega
 obtain⟨S,O,hS,hf,hw,Io,e1,e2,T,hr0,r7⟩:=qKB (st:=st) (wi:=wi) h6;obtain⟨wE,ks,hE,h5,Cd,hk⟩:=qJu hl hn;have hj:=RD (i:=0) omQ hn;obtain⟨k,tE,ME,rs,hkk,q,T',bL,pE,hME,uE⟩:=CQ (d:=λ_=>((0:Nat):Int)) (p:=λj=>(j:Int)+1) O hS od (λl h=>(hj l h).1) (λl h=>(hj l h).2) h6 hf hw (zP 0 ns).length 0 0 omQ T (by rw[List.drop_zero,e2];exact hE) hr0;rw[r7,List.nil_append]at bL;have Ar:tE.state=6:=by
  rcases T'.now with⟨_,a,_⟩ |⟨h,_⟩
  ·exact a
  ·omega
 have bx:(QN S.words S.writes).sz≤100:=by rw[Io];show dt 100≤100;decide
 have hm:(zP 0 ns).length*(6*(QN S.words S.writes).sz+868)≤6*(6*100+868):=Nat.mul_le_mul h6 omQ;have hlen:rs.length=ks.length:=by rw[← uE,List.length_map]
 refine⟨S,k,tE,ME,by omega,e1,q,Ar,?_,?_,by rw[hME];exact h5,by rw[bL,hlen,Cd],λj rQ=>?_⟩
 ·unfold wS;rw[pE,T'.ag];rfl
 ·have:=T'.calm.w;omega
 ·have h1:=hk j rQ;rw[← uE,List.getElem?_map]at h1;obtain⟨r,hr,e⟩:=Option.map_eq_some_iff.1 h1;refine⟨r,by rw[bL];exact hr,congrArg Prod.fst e,congrArg Prod.snd e⟩
end
end Go.Proofs.YtefichdddddacaaGreatDoor
