/- Lemmas for 'quietus/quietuslaw28.MachineGoes': As if one by one: plain: a pick;As if one by one: plain: a new machine;the memory, whenever none is writing back;Lock-freedom: what a commit still has to do ... No condition. -/
import Derived.Test.YtemjbhdofokbhaaGreatDoorMachineGoesM6
import Derived.Test.YtemjbhdofokbhaaGreatDoorMachineGoesM4
import Derived.Test.YtemjbhdofokbhaaGreatDoorMachineGoesM5
import Derived.Test.YtemjbhdofokbhaaGreatDoorMachineGoesM2
import Derived.Test.YtemjbhdofokbhaaGreatDoorMachineGoesM1
namespace Go.Proofs.YtemjbhdofokbhaaGreatDoor
open Go Go.Ae
set_option maxRecDepth 100000
variable {EE:Env} {aD:List (List (List qR))} {al:Bool} {e f me sp v z:Int} {j k:Nat} {l:cK} {p:Prop} {r:List zd} {rl:Nat→List (Nat×Int)} {w:List Int}
section
variable {S:jz} {w0:List Int} {E F:Env} {G:QT} {i:Nat} {x y:qf} {t:qd} {r:yr} {d p:Int} {m:zl} {o:dG}
theorem xx.err (I:zt S w0 E) (A:xx S w0 E i x) (O:zG x) (hi:i<4) (hs:(i:Int)<E.M.s.length) (hn:jd x=some o):(qF E.M o).1.err=0:=by
 have cd:=O.st;by_cases h6:x.state=6
 ·obtain⟨c,hc⟩:∃c,x.c=some c:=by
   cases h:x.c with
   |none=>exact absurd h (O.c6 h6)
   |some c=>simp
  obtain⟨CL,hf⟩:=A.lk.c h6 c hc;obtain⟨o',bQ,K⟩:=Uf I.ml CL omQ hf;have:o'=o:=by unfold jd at hn;grind
  rw[← this];exact K.err
 ·exact(A.LL I O hs h6 hn).err
theorem qXi (h:t.state≠1):qi t=t.ao:=by
 unfold qi
 grind
structure Wq (S:jz) (w0:List Int) (E:Env) (i:Nat) (t u:qd) (M':jX) (G':QT):Prop where
  mem:zt S w0 ⟨M',G',cP E.C i (yV u)⟩
  lat:ye S E ⟨M',G',cP E.C i (yV u)⟩
  Hg:VU S w0 ⟨M',G',cP E.C i (yV u)⟩ i u
  carry:∀r∈qi t,QE r→∃r'∈qi u,QE r'∧r'.cells=r.cells∧r'.ad=r.ad
  new:∀k,G' k≠[]→G' k=E.G k∨∃r'∈qi u,QE r'∧r'.cells=G' k∧r'.ad=S.start+(k:Int)
theorem qyP {C:Nat→Option q9} {o:Option q9} (h:C i=o):cP C i o=C:=by
 grind[J1,wQ]
theorem jZu (K:UL m) (Z:Aj w0 m G) (ht:m.t[i]? =some t) (hn:jb t=some o) (Lu:ThrLk m.s (qF m.m o).2.n (jQ t (qF m.m o).1 d p) i) :
  ∃G',Wq m.s w0 (yI m G) i t (jQ t (qF m.m o).1 d p) (qF m.m o).2 G':=by
 obtain⟨O,W,L⟩:=K.t i t ht;have hi:=(List.getElem?_eq_some_iff.1 ht).1;have rW:i<4:=by have:=K.len;have:=K.th;omega
 have hs:(i:Int)<(yI m G).M.s.length:=by have:=Z.len;show(i:Int)<m.m.s.length;omega
 have T:=Z.t i t ht;have LU:(yI m G).C i=yV t:=by show(m.t[i]?).bind yV=_;grind
 by_cases h1:t.state=1
 ·obtain⟨x,hx⟩:∃x,t.now=some x:=by
   cases h:t.now with
   |none=>exact absurd h (O.c omQ).some
   |some x=>simp
  have OA:=((O.c omQ).now x hx).1;have bQ:jd x=some o:=by simp_all[jb]
  have Ab:=(Xs K.r (Q4 O W hn)).1;have A:=T.a h1 x hx;have hC:(yI m G).C i=vY x:=LU.trans (KA h1 hx);have ha:(qF m.m o).1.err=0:=A.ai.err Z.mem OA rW hs bQ;obtain⟨G',s1,s2,s3,s4,s5⟩:=A.ai.step K.so Z.mem OA rW hs hC bQ Ab;have s1:zt m.s w0 ⟨(qF m.m o).2,G',cP (yI m G).C i (vY (qL x (qF m.m o).1))⟩:=s1;have s2:ye m.s (yI m G) ⟨(qF m.m o).2,G',cP (yI m G).C i (vY (qL x (qF m.m o).1))⟩:=s2;have s3:xx m.s w0 ⟨(qF m.m o).2,G',cP (yI m G).C i (vY (qL x (qF m.m o).1))⟩ i (qL x (qF m.m o).1):=s3;have s4:∀k,G' k=G k∨(G' k=jk (qL x (qF m.m o).1).v.lv∧ql (qL x (qF m.m o).1)=true∧((qL x (qF m.m o).1).ad-m.s.start).toNat=k):=s4;have O':=XN OA Ab;have w7:=jQM OA (A.ai.ne6 Z.mem hC OA) ha;have bg:=jQD A.bg OA.st.1 ha;have on:=λhw=>qkM A.ai OA A.w7 hw ha;have bb:=λh2=>Ui (a:=(qF m.m o).1) (x:=x) h2;have et:jQ t (qF m.m o).1 d p=zU t x (qL x (qF m.m o).1) d p:=by simp_all[jQ]
  rw[et]at Lu ⊢;generalize qF m.m o=q at*;generalize qL x q.1=y at*;obtain⟨t1,t2⟩:=jX6 (x:=x) (d:=d) (p:=p) ⟨s3,w7,bg⟩ (λr hr=>(T.p r hr).later s2 Z.mem.env) h1 s1 J1 O' Lu;refine⟨G',by grind,by grind,by grind,λr hr hw=>?_,λk hk=>?_⟩
  ·rcases List.mem_append.1 hr with hr |hr
   ·exact⟨r,qz2 hr,hw,rfl,rfl⟩
   ·rw[hx]at hr;dsimp only at hr;by_cases hb:t.state=1∧x.begun=true
    ·rw[iJ hb]at hr;have er:=List.mem_singleton.1 hr;subst er;have hc:=GE hw;have h8:x.state≠8:=λh=>by
      simp_all[jd,omQ]
     obtain⟨w1,w2⟩:=Q5.1 hw;have CA:ql x=true:=by
      grind
     obtain⟨v1,v2,v3⟩:=on CA;obtain⟨r',g1,g2,g3,g4⟩:=qJp (t:=t) (x:=x) (d:=d) (p:=p) h1 ((bb (A.bg.1 hb.2)).b.trans hb.2) v3 (by grind);exact⟨r',g1,g2,by grind,by rw[g4];exact v2⟩
    grind
  ·rcases s4 k with e |⟨e1,e2,e3⟩
   ·exact .inl e
   ·have h6:¬y.state≤5:=λh=>by
     rw[zZ (O'.c0 h)]at e2;grind
    obtain⟨r',g1,g2,g3,g4⟩:=qJp (t:=t) (x:=x) (d:=d) (p:=p) h1 (bg.2 omQ) (.inr e2) (by grind);have:=(s3.t omQ).1;grind
 ·have hk:o.kind=8:=by
   unfold jb at hn;rw[iQ h1]at hn
   split at hn
   ·cases hn;rfl
   ·split at hn
    ·cases hn;rfl
    grind
  have e3:=V4 (M:=m.m) (o:=o) omQ;have N:ow (jQ t (qF m.m o).1 d p)∧(jQ t (qF m.m o).1 d p).ao=t.ao:=by
   unfold jQ;rw[iQ h1]
   split
   ·split
    ·exact⟨Jy h1,rfl⟩
    ·exact⟨Wm,(wL _ _).ao⟩
   ·split
    ·exact⟨Wn (by grind),(XA _).ao⟩
    ·exact⟨Jy h1,rfl⟩
  generalize qF m.m o=q at*;generalize jQ t q.1 d p=u at*;obtain⟨n1,n2⟩:=N;have eC:cP (yI m G).C i (yV u)=(yI m G).C:=qyP (by grind[Ym,XK]);have s2:=wR (S:=m.s) (E:=yI m G) (M':=q.2) e3;refine⟨G,by rw[eC];exact Z.mem.same e3,by rw[eC];exact s2,?_,λr hr hw=>⟨r,YB ?_,hw,rfl,rfl⟩,λk _=>.inl rfl⟩
  ·rw[eC];exact .fresh Lu n1 λr hr=>(T.p r (n2▸hr)).later s2 Z.mem.env
  grind[qXi]
theorem qkH (K:UL m) (Z:Aj w0 m G) (hi:i<m.t.length) (hd:0≤d):∃G',Aj w0 (jw m i d) G'∧ye m.s (yI m G) (yI (jw m i d) G'):=by
 obtain⟨K',ks,-,-,-⟩:=UJ K hi hd;obtain⟨t,ht⟩:∃t,m.t[i]? =some t:=⟨m.t[i],iW hi⟩;have iS:∀(u:qd),(m.t.set i u)[i]? =some u:=λu=>by grind
 have fY:∀(u:qd) {k:Nat},k≠i→(m.t.set i u)[k]? =m.t[k]?:=λu k hk=>by grind
 have LU:(yI m G).C i=yV t:=by show(m.t[i]?).bind yV=_;grind
 unfold jw at K' ks ⊢;rw[ht]at K' ks ⊢;dsimp only at K' ks ⊢;cases hn:jb t with
 |none=>
  rw[hn]at K';dsimp only at K' ⊢;have P:yV (jK t)=yV t∧VU m.s w0 (yI m G) i (jK t)∧∀r∈qi t,r∈qi (jK t):=by
   by_cases h1:t.state=1
   ·have e:jK t=t:=by unfold jK;grind
    rw[e];exact⟨rfl,Z.t i t ht,λr h=>h⟩
   ·refine⟨(XK (UK h1)).trans (Ym h1).symm,.fresh (K'.t i _ (iS _)).2.2 (UK h1) λr hr=>(Z.t i t ht).p r (n6.ao▸hr),λr hr=>YB ?_⟩;rw[qXi h1]at hr;rw[n6.ao];grind
  have ee:yI { m with aA:=m.aA+1,last:=bz 0 0 0,did:=false,t:=m.t.set i (jK t) } G=yI m G:=by
   refine Wp (M:=m.m) (C:=(yI m G).C) rfl λk=>?_;show((m.t.set i (jK t))[k]?).bind yV=_;by_cases hk:k=i
   ·grind
   ·rw[fY _ hk];rfl
  refine⟨G,⟨by rw[ee];exact Z.mem,λk v hv=>?_,λk hk=>?_,by show m.m.s.length=(m.t.set i _).length;rw[List.length_set];exact Z.len⟩,by rw[ee];exact wR ⟨rfl,rfl,rfl⟩⟩
  ·rw[ee];have hv:(m.t.set i (jK t))[k]? =some v:=hv;by_cases hk:k=i
   ·grind
   ·rw[fY _ hk]at hv;exact Z.t k v hv
  ·obtain⟨j,v,r,g1,g2,g3,g4,g5⟩:=Z.src k hk;by_cases hj:j=i
   ·grind
   ·exact⟨j,v,r,(fY _ hj).trans g1,g2,g3,g4,g5⟩
 |some o=>
  rw[hn]at K';dsimp only at K' ⊢;have hg:∃g:Nat→qd→qd,(∀(ts:List qd) (k:Nat),(if o.kind=5 then xm ts i o.at_ o.lk.1 else ts)[k]? =(ts[k]?).map (g k))∧(∀v,g i v=v)∧∀k v,g k v=v∨∃a b,g k v=jm v a b:=by
   by_cases h5:o.kind=5
   ·refine⟨λk v=>if k=i then v else jm v o.at_ o.lk.1,λts k=>by simp_all[Xr],λv=>iJ rfl,λk v=>?_⟩;grind
   ·exact⟨λ_ v=>v,λts k=>by grind,λv=>rfl,λk v=>.inl rfl⟩
  obtain⟨g,ux,pu,hg3⟩:=hg;have hlen:(if o.kind=5 then xm (m.t.set i (jQ t (qF m.m o).1 d (m.aA+1))) i o.at_ o.lk.1 else m.t.set i (jQ t (qF m.m o).1 d (m.aA+1))).length=m.t.length:=by
   grind[xm,List.length_mapIdx,List.length_set]
  have at':∀k,(if o.kind=5 then xm (m.t.set i (jQ t (qF m.m o).1 d (m.aA+1))) i o.at_ o.lk.1 else m.t.set i (jQ t (qF m.m o).1 d (m.aA+1)))[k]? =((m.t.set i (jQ t (qF m.m o).1 d (m.aA+1)))[k]?).map (g k):=λk=>ux _ k;have Ea:=(NL (M:=m.m) (o:=o)).2.2;have Lu:=(K'.t i (jQ t (qF m.m o).1 d (m.aA+1)) (by grind)).2.2;obtain⟨G',TS⟩:=jZu K Z ht hn (d:=d) (p:=m.aA+1) Lu;have KL:∀(k:Nat) (v:qd),((m.t.set i (jQ t (qF m.m o).1 d (m.aA+1)))[k]?).map (g k)=some v→ThrLk m.s (qF m.m o).2.n v k:=λk v hv=>(K'.t k v (by grind)).2.2;generalize T3:(if o.kind=5 then xm (m.t.set i (jQ t (qF m.m o).1 d (m.aA+1))) i o.at_ o.lk.1 else m.t.set i (jQ t (qF m.m o).1 d (m.aA+1)))=ts at*;clear K' T3 Lu;generalize qF m.m o=q at*;generalize jQ t q.1 d (m.aA+1)=u at*;have other:∀(k:Nat) (v:qd),k≠i→m.t[k]? =some v→VU m.s w0 ⟨q.2,G',cP (yI m G).C i (yV u)⟩ k (g k v)∧yV (g k v)=yV v∧∀r∈qi v,r∈qi (g k v):=λk v hk hv=>by
   have T0:=(Z.t k v hv).later Z.mem (by show(m.t[k]?).bind yV=_;grind) TS.lat;have L0:=KL k (g k v) (by grind);rcases hg3 k v with e |⟨a,b,e⟩
   ·grind
   grind[jVM]
  have ee:yI { m with aA:=m.aA+1,last:=o,did:=true,m:=q.2,t:=ts } G'=⟨q.2,G',cP (yI m G).C i (yV u)⟩:=by
   refine Wp rfl λk=>?_;show(ts[k]?).bind yV=_;rw[at'];by_cases hk:k=i
   ·simp_all[Option.map_some,J1]
   ·rw[fY _ hk,wQ hk];show((m.t[k]?).map (g k)).bind yV=(m.t[k]?).bind yV;cases hv:m.t[k]? with
    |none=>rfl
    |some v=>grind
  refine⟨G',⟨by rw[ee];exact TS.mem,λk v hv=>?_,λk hk=>?_,by show q.2.s.length=ts.length;rw[Ea,hlen];exact Z.len⟩,by rw[ee];exact TS.lat⟩
  ·rw[ee];have hv:ts[k]? =some v:=hv;rw[at']at hv;by_cases hk:k=i
   ·subst hk;rw[iS,Option.map_some,pu]at hv;cases hv;exact TS.Hg
   grind
  ·have Hh:ts[i]? =some u:=by grind
   rcases TS.new k hk with e |⟨r,g1,g2,g3,g4⟩
   ·rw[e]at hk ⊢;obtain⟨j,v,r,g1,g2,g3,g4,g5⟩:=Z.src k hk;by_cases hj:j=i
    ·subst hj;rw[ht]at g1;cases g1;obtain⟨r',f1,f2,f3,f4⟩:=TS.carry r g2 g3;exact⟨j,u,r',Hh,f1,f2,f3.trans g4,f4.trans g5⟩
    ·exact⟨j,g j v,r,by grind,(other j v hj g1).2.2 r g2,g3,g4,g5⟩
   grind
end
section
variable {S:jz} {w0:List Int} {E F:Env} {G:QT} {i:Nat} {m:zl}
theorem Mc {M:jX} {p k:Int}:(qF M (bz 2 p k)).2.n=M.n∧(qF M (bz 2 p k)).2.s=M.s∧(qF M (bz 2 p k)).2.l=M.l:=by
 have key:(yR M (bz 2 p k)).2.n=M.n∧(yR M (bz 2 p k)).2.s=M.s∧(yR M (bz 2 p k)).2.l=M.l:=by
  unfold yR;rw[iJ (.inr rfl)];unfold Kk
  grind
 grind[ve]
theorem jQ3 {s:jz} (hs:0≤s.start) (hj:∀js∈aD,∀l∈js,(xO l).2=0∧Quiet l):Aj (vu s aD).m.w (vu s aD) λ_=>[]:=by
 have K:=qYO hs hj;have Hg:∀(i:Nat) (t:qd),(vu s aD).t[i]? =some t→ow t∧t.ao=[]:=λi t ht=>by
  unfold vu at ht;dsimp only at ht;rw[List.getElem?_map]at ht;obtain⟨a,_,e⟩:=Option.map_eq_some_iff.1 ht;rw[← e];exact⟨gR,(yv _).ao⟩
 have st:(vu s aD).m.n=(vu s aD).s.start:=Mc.1;have sl:(vu s aD).m.s.length=(vu s aD).t.length:=by unfold vu;dsimp only;rw[Mc.2.1,List.length_map,List.length_range];exact List.length_replicate
 generalize vu s aD=m at*;have ee:yI m (λ_=>[])=⟨m.m,λ_=>[],λ_=>none⟩:=by
  refine Wp rfl λk=>?_;grind[XK]
 refine⟨?_,λi t ht=>.fresh (K.t i t ht).2.2 (Hg i t ht).1 λr hr=>(by grind),λk h=>absurd rfl h,sl⟩;rw[ee];refine⟨by grind,K.mem,λi c h=>(by grind),λi c h=>(by grind),λi c h=>(by grind),λi c h=>(by simp),λi j c d h=>(by simp),λ_ _=>rfl,rfl,λj z _ _ _ _ ht=>?_,λp _ _=>.inl ?_⟩
 ·obtain⟨q,hq,_⟩:=ht;grind
 ·show qg m.m.w p=hv (λ_=>[]) m.m.w (m.m.n-m.s.start).toNat p;exact(LN (Nat.zero_le _) λ_ _ _=>rfl).symm
def kI (m:zl):List (Nat×Int)→zl
 |[]=>m
 |(i,d)::l=>kI (jw m i d) l
end
section
def b3 (p:Prop) [Decidable p]:Nat:=if p then 3 else 0
theorem Hi [Decidable p]:b3 p≤3:=by grind[b3]
theorem Hj [Decidable p] (h:p):b3 p=3:=iJ h
theorem Hk [Decidable p] (h:¬p):b3 p=0:=iQ h
def gd (c:q9) (M:jX):Nat:=if c.state=1 then b3 (qP M.l (qg c.s c.aw.length)≠c.lk)else if c.state=3 then b3 (M.n≠c.now)else 0
def Ku (c:q9):Nat:=(if c.state=0 then 60+3*(c.s.length-c.aw.length)else if c.state=1 then 59+3*(c.s.length-c.aw.length)else if c.state=2 then 53 else if c.state=3 then 52 else if c.state=4 then 25+(c.seen.length-c.at_.toNat)else if c.state=7 then c.aw.length-c.at_.toNat+1 else 0)
def K4 (c:q9):Nat:=10*((if c.state≤1 then c.s.length-c.aw.length else 0)+if c.state≤3 then 1 else 0)
def yn (c:q9) (M:jX):Nat:=c.p.af.toNat+Ku c+gd c M+K4 c
inductive lq (S:jz) (M M':jX) (me:Int):Nat→Prop
  |same (hl:M'.l=M.l) (hn:M'.n=M.n):lq S M M' me 0
  |take (z:Int) (h0:0≤z) (h1:z<S.ae) (hf:(qP M.l z).2=(false,0)) (hl:M'.l=M.l.set z.toNat ((qP M.l z).1,true,me)) (hn:M'.n=M.n):lq S M M' me 10
  |tick (hl:M'.l=M.l) (hn:M'.n=M.n+1):lq S M M' me 10
  |drop (z:Int) (h0:0≤z) (h1:z<S.ae) (hh:(qP M.l z).2=(true,me)) (hl:M'.l=M.l.set z.toNat ((qP M.l z).1,false,0)) (hn:M'.n=M.n):lq S M M' me 0
def xY (M:jX) (r:List zd):Prop:=∃y∈r,y.2≠(qP M.l y.1).1
def vU (S:jz) (M:jX) (o:Int):Prop:=∃z,0≤z∧z<S.ae∧(qP M.l z).2=(true,o)
def jKI (S:jz) (M:jX) (me:Int) (r:List zd) (fin ch:Int):Prop:=fin=4∨(fin=5∧((ch= -1∧xY M r)∨(ch<me∧vU S M ch)))
inductive Ws (S:jz) (M:jX) (c:q9) (me:Int) (M':jX) (d:q9):Prop
  |iU (h:d.writing=true) (f:d.p.fin=0∨d.p.fin=2)
  |idle (e:d=c) (hl:M'.l=M.l) (hn:M'.n=M.n) (o:Int) (h:vU S M o) (ho:me<o)
  |go (k:Nat) (E:lq S M M' me k) (h:yn d M'+k+1≤yn c M) (w:d.writing=false) (p:d.p.fin=0) (st:d.state≤4) (sc:c.state≤4)
  |lS (k:Nat) (E:lq S M M' me k) (h:yn d M'+k+1≤yn c M) (w:d.writing=false) (p:d.p.fin=0∨d.p.fin=d.bf∧d.p.ch=d.iP) (st:d.state=7) (b:(c.state=7∧d.bf=c.bf∧d.iP=c.iP)∨(c.state≤4∧jKI S M me c.seen d.bf d.iP))
variable {S:jz} {M M':jX} {c d:q9}
theorem GW {y:Int} (hs:c.p.af≤4) (hw:c.aw.length≤16):yn (jN c f e y) M≤21∧(jN c f e y).state=7∧(jN c f e y).bf=f∧(jN c f e y).iP=y∧(jN c f e y).writing=c.writing∧((jN c f e y).p.fin=c.p.fin∨(jN c f e y).p.fin=f∧(jN c f e y).p.ch=y):=by
 have key:∀p:Ja,p.af=c.p.af→yn { c with p:=p,bf:=f,fX:=e,iP:=y,at_:=0,state:=7 } M≤21:=λp hp=>by
  show(p.af.toNat+(c.aw.length-0+1))+0+10*(0+0)≤21;grind
 unfold jN zc;dsimp only
 split
 ·exact⟨key _ rfl,rfl,rfl,rfl,rfl,.inr ⟨rfl,rfl⟩⟩
 grind
theorem qkD:∀{s:List Int} {w:List cK} {x:Int},QS s w x=none→∀{k:Nat},s[k]? =some x→¬k<w.length:=by
 intro s
 induction s with
 |nil=>simp
 |cons a s ih=>
  intro w x h k hk hl;cases w with
  |nil=>grind
  |cons q w=>
   unfold QS at h
   grind
theorem Od (z0:0≤z) (z1:z<S.ae) (hl:qP M.l z=l) (hh:l.2.1=true) (hs:0≤c.p.af∧c.p.af≤4) (hw:c.aw.length≤16) (h4:c.state=0∨c.state=4) (dZ:c.writing=false) (hp:c.p.fin=0) (mc:c.p.me=me) (hnm:l.2.2≠me)
  (hc:26≤yn c M) (dW:M'.l=M.l) (ou:M'.n=M.n):Ws S M c me M' (zx c l):=by
 have hb:vU S M l.2.2:=⟨z,z0,z1,by grind⟩;have cc:∀c:q9,yn c M'=yn c M:=λc=>by grind[yn,gd]
 unfold zx jA;by_cases h1:c.p.me<l.2.2
 ·rw[iJ h1,iJ rfl];exact .idle rfl dW ou _ hb (by grind)
 ·rw[iQ h1];by_cases h2:0≤c.p.af-1
  ·rw[iJ (iG h2)];refine .go 0 (.same dW ou) ?_ dZ hp (by grind) omQ;grind[yn,Ku,gd,K4]
  ·rw[iQ (by grind)];obtain⟨q1,q2,q3,q4,q5,q6⟩:=GW (c:={ c with p:={ c.p with af:=c.p.af-1 } }) (M:=M) (f:=5) (e:=0) (y:=l.2.2) (by grind) hw;refine .lS 0 (.same dW ou) (by grind) (q5.trans dZ) ?_ q2 (.inr ⟨by omega,?_⟩)
   ·grind
   ·rw[q3,q4];exact .inr ⟨rfl,.inr ⟨by omega,hb⟩⟩
theorem UZ (hp:c.p.fin=0):(zj c).writing=true∧((zj c).p.fin=0∨(zj c).p.fin=2):=by
 unfold zj jo zg;dsimp only
 repeat' split
 ·exact⟨rfl,.inr rfl⟩
 all_goals grind
theorem qKH:∀(k:Nat) {c:q9},c.p.fin=0→c.writing=false→c.p.af≤4→c.aw.length≤16→0≤c.at_→c.at_≤c.seen.length→
  (∀(j:Nat) (z:Int) (w:cK),c.s[j]? =some z→c.aw[j]? =some w→(qP M.l z).1=w.1)→
  let d:=ja { c with state:=4 } k
  (d.writing=true∧(d.p.fin=0∨d.p.fin=2))∨(d.writing=false∧d.p.fin=0∧d.state=4∧d.p=c.p∧d.seen=c.seen∧c.at_≤d.at_)∨(d.state=7∧yn d M≤21∧d.writing=false∧(d.p.fin=0∨d.p.fin=d.bf∧d.p.ch=d.iP)∧d.bf=5∧d.iP= -1∧xY M c.seen):=by
 have own:∀{s:List Int} {w:List cK} {x v:Int},QS s w x=some v→∃(j:Nat) (q:cK),s[j]? =some x∧w[j]? =some q∧q.1=v:=by
  intro s
  induction s with
  |nil=>nofun
  |cons a s ih=>
   intro w x v h;cases w with
   |nil=>cases h
   |cons q w=>
    unfold QS at h
    split at h
    ·rename_i e;cases h;exact⟨0,q,by grind,rfl,rfl⟩
    ·obtain⟨j,p,h1,h2,h3⟩:=ih h;exact⟨j+1,p,h1,h2,h3⟩
 intro k
 induction k with
 |zero=>intro c hp _ _ _ _ _ _;exact .inl (UZ hp)
 |succ k ih=>
  intro c hp hw hs hl h0 hle hv;dsimp only;unfold ja;dsimp only;by_cases ax:c.at_<(c.seen.length:Int)
  ·rw[iJ ax]
   split
   ·grind
   ·rename_i v e;by_cases bJ:v≠(jZ c.seen c.at_).2
    ·rw[iJ bJ];obtain⟨q1,q2,q3,q4,q5,q6⟩:=GW (c:={ c with state:=4 }) (M:=M) (f:=5) (e:=0) (y:=-1) hs hl;refine .inr (.inr ⟨q2,q1,q5.trans hw,?_,q3,q4,?_⟩)
     ·grind
     ·obtain⟨j,q,h1,h2,h3⟩:=own e;have hi:c.at_.toNat<c.seen.length:=by omega
      have es:jZ c.seen c.at_=c.seen[c.at_.toNat]:=by unfold jZ;rw[iW hi];rfl
      refine⟨_,List.getElem_mem hi,?_⟩;rw[← es,hv j _ q h1 h2,h3];grind
    ·rw[iQ bJ];have:=ih (c:={ c with at_:=c.at_+1 }) hp hw hs hl (by grind) (by grind) hv;dsimp only at this;rcases this with h |⟨a1,a2,a3,a4,a5,a6⟩ |h
     ·grind
     ·grind
     grind
  ·rw[iQ ax];exact .inl (UZ hp)
def Hl (M:jX) (c:q9) (me:Int):Prop:=∀(k:Nat) (z:Int) (w:cK),c.s[k]? =some z→c.aw[k]? =some w→(6≤c.state→c.at_≤k)→qP M.l z=(w.1,true,me)
theorem jK2 (MO:yu S M) (C:wY S M.n c me) (hm:0≤me∧me<4) (hp:c.p.fin=0) (Wj:c.state≠5∧c.state≠6) (dZ:c.writing=false) (hpm:c.p.me=me) (a0:c.state≤3→c.at_=0) (f7:c.state=7→c.bf=4∨c.bf=5) (hold:Hl M c me) (own:∀z,0≤z→z<S.ae→(qP M.l z).2=(true,me)→holds c z) (Wt:c.state=4→QS c.s c.aw (jZ c.seen c.at_).1=none) :
  ∃o,xX c=some o∧Ws S M c me (qF M o).2 (qn c (qF M o).1):=by
 have O:=C.ok;have cd:=O.st;have hs16:=O.s;have hseen:c.seen.length≤16:=by have h:=O.ar;grind[zF]
 have hat0:0≤c.at_:=by have h:=O.ar;grind[zF]
 have oX:c.aw.length≤c.s.length:=by have h:=O.ar;grind[zF]
 have lP:xX c=(if c.state=0 then some (bz 3 (qg c.s c.aw.length) 0)
   else if c.state=1 then some ⟨4,qg c.s c.aw.length,0,0,c.lk,(c.lk.1,true,c.me)⟩
   else if c.state=2 then some (bz 6 0 0)
   else if c.state=3 then some ⟨7,0,c.now,c.now+1,bK,bK⟩
   else if c.state=4 then some (bz 3 (jZ c.seen c.at_).1 0)
   else if c.state=5 then some (bz 2 (yF c.cells c.at_).1 (yF c.cells c.at_).2)
   else if c.state=6 then some ⟨5,qg c.s c.at_,0,0,bK,(c.now+1,false,0)⟩
   else some ⟨5,qg c.s c.at_,0,0,bK,qP c.aw c.at_⟩):=by
  simp_all[xX]
 have ik:∀k:Nat,k<c.s.length→∃z,c.s[k]? =some z∧qg c.s (k:Int)=z∧0≤z∧z<S.ae:=λk hk=>⟨c.s[k],iW hk,GV hk,C.s _ (List.getElem_mem hk)⟩
 have hnn:=MO.n;by_cases s0:c.state=0
 ·have ig:=O.hY hp omQ;obtain⟨z,hz,hn,z0,z1⟩:=ik _ ig;refine⟨bz 3 z 0,by grind,?_⟩;rw[VV MO z0 z1];have et:qn c ⟨0,qP M.l z,false,0⟩=if(qP M.l z).2.1=true then zx c (qP M.l z)else{ c with lk:=qP M.l z,state:=1 }:=by
   rw[jj hp rfl,iJ (.inl s0)];simp_all[yH,qP]
  dsimp only;rw[et];have dS:yn c M=c.p.af.toNat+(60+3*(c.s.length-c.aw.length))+0+10*((c.s.length-c.aw.length)+1):=by grind[yn,Ku,gd,K4]
  by_cases hh:(qP M.l z).2.1=true
  ·rw[iJ hh];refine Od z0 z1 rfl hh (O.p hp omQ) omQ (.inl s0) dZ hp hpm (λh=>?_) omQ rfl rfl;obtain⟨k,h1,h2,_⟩:=own z z0 z1 (Prod.ext hh h);have:=MM O.cZ h1 hz;omega
  ·rw[iQ hh];refine .go 0 (.same rfl rfl) ?_ dZ hp (by simp) omQ;have:yn { c with lk:=qP M.l z,state:=1 } { M with aT:=M.aT+1 }=c.p.af.toNat+(59+3*(c.s.length-c.aw.length))+b3 (qP M.l (qg c.s c.aw.length)≠qP M.l z)+10*((c.s.length-c.aw.length)+1):=rfl;rw[this,dS,Hk (by grind)];omega
 by_cases s1:c.state=1
 ·have ig:=O.hY hp omQ;obtain⟨z,hz,hn,z0,z1⟩:=ik _ ig;obtain⟨l1,l2⟩:=C.s1 s1;have hl:=MO.l;refine⟨⟨4,z,0,0,c.lk,(c.lk.1,true,c.me)⟩,by grind,?_⟩;have rG:=(MO.lk z z0 z1).1;have dS:yn c M=c.p.af.toNat+(59+3*(c.s.length-c.aw.length))+b3 (qP M.l z≠c.lk)+10*((c.s.length-c.aw.length)+1):=by
   grind[yn,Ku,gd,K4]
  by_cases he:qP M.l z=c.lk
  ·have hx:vn (c.lk.1,true,c.me):=by
    rw[J4,C.me];omega
   have e:qF M ⟨4,z,0,0,c.lk,(c.lk.1,true,c.me)⟩=(⟨0,bK,true,0⟩,{ M with l:=M.l.set z.toNat (c.lk.1,true,c.me),aT:=M.aT+1 }):=by refine J3 (M:=M) (N:={ M with l:=M.l.set z.toNat (c.lk.1,true,c.me) }) (.inr (.inl rfl)) ?_ rfl;simp_all[Xi,iQ]
   rw[e];have et:qn c ⟨0,bK,true,0⟩=ju { c with aw:=c.aw++[c.lk] }:=by rw[jj hp rfl,iJ (.inr s1)];unfold yH;grind
   dsimp only;rw[et];rw[Hk (λh=>h he)]at dS;have hwl':(c.aw++[c.lk]).length=c.aw.length+1:=by simp
   refine .go 10 (.take z z0 z1 (by grind) (by rw[he,C.me]) rfl) ?_ dZ hp ?_ omQ
   ·unfold ju;dsimp only;by_cases hf:(c.aw++[c.lk]).length=c.s.length
    ·rw[iJ hf];show c.p.af.toNat+53+0+10*(0+1)+10+1≤_;omega
    ·rw[iQ hf];show c.p.af.toNat+(60+3*(c.s.length-(c.aw++[c.lk]).length))+0+10*((c.s.length-(c.aw++[c.lk]).length)+1)+10+1≤_;omega
   grind[ju]
  ·have hx:vn (c.lk.1,true,c.me)∨¬vn (c.lk.1,true,c.me):=Classical.em _;have hx:vn (c.lk.1,true,c.me):=by rw[J4,C.me];omega
   have e:qF M ⟨4,z,0,0,c.lk,(c.lk.1,true,c.me)⟩=(dM,{ M with aT:=M.aT+1 }):=by refine J3 (M:=M) (N:=M) (.inr (.inl rfl)) ?_ rfl;simp_all[Xi,iQ]
   rw[e];have et:qn c dM={ c with state:=0 }:=by rw[jj hp rfl,iJ (.inr s1)];unfold yH;rw[iQ (λh=>s0 h.1),iQ s0,iQ (by nofun)]
   dsimp only;rw[et];rw[Hj he]at dS;refine .go 0 (.same rfl rfl) ?_ dZ hp (by simp) omQ;show c.p.af.toNat+(60+3*(c.s.length-c.aw.length))+0+10*((c.s.length-c.aw.length)+1)+0+1≤_;omega
 by_cases s2:c.state=2
 ·refine⟨bz 6 0 0,by grind,?_⟩;have e:qF M (bz 6 0 0)=(⟨M.n,bK,false,0⟩,{ M with aT:=M.aT+1 }):=kt (.inl rfl) rfl rfl;rw[e];have et:qn c ⟨M.n,bK,false,0⟩=if 4611686018427387903≤M.n then jN c 4 7 (-1)else{ c with now:=M.n,state:=3 }:=by
   rw[jj hp rfl,iQ omQ,iJ (.inl s2)];simp_all[xe]
  have dS:yn c M=c.p.af.toNat+53+0+10*(0+1):=by grind[yn,Ku,gd,K4]
  dsimp only;rw[et];by_cases hc:4611686018427387903≤M.n
  ·rw[iJ hc];obtain⟨q1,q2,q3,q4,q5,q6⟩:=GW (c:=c) (M:={ M with aT:=M.aT+1 }) (f:=4) (e:=7) (y:=-1) (O.p hp omQ).2 omQ;refine .lS 0 (.same rfl rfl) omQ (q5.trans dZ) ?_ q2 (.inr ⟨by omega,?_⟩)
   ·grind
   ·exact .inl q3
  ·rw[iQ hc];refine .go 0 (.same rfl rfl) ?_ dZ hp (by simp) omQ;have:yn { c with now:=M.n,state:=3 } { M with aT:=M.aT+1 }=c.p.af.toNat+52+b3 (M.n≠M.n)+10*(0+1):=rfl;rw[this,Hk (λh=>h rfl)];omega
 have proved:∀(c':q9) (k:Nat) {M':jX},c'.p=c.p→c'.writing=false→c'.aw=c.aw→c'.s=c.s→c'.seen=c.seen→c.at_≤c'.at_→c'.at_≤c'.seen.length→c.state≤4→M'.l=M.l→(∀(j:Nat) (z:Int) (w:cK),c.s[j]? =some z→c.aw[j]? =some w→(qP M.l z).1=w.1)→lq S M M' me k→
   c.p.af.toNat+25+(c.seen.length-c'.at_.toNat)+k+1≤yn c M→21+k+1≤yn c M→Ws S M c me M' (xF c'):=by
  intro c' k M' e1 e2 e3 e4 e5 e6 e7 h4 hl hv E h1 h2;have I3:c'.p.fin=0:=by grind
  have:=qKH (M:=M) (c'.seen.length+1) (c:=c') I3 e2 (by rw[e1];exact(O.p hp omQ).2) (by grind) omQ e7 (by grind);dsimp only at this;have ep:xF c'=ja { c' with state:=4 } (c'.seen.length+1):=rfl;rw[ep];generalize ja { c' with state:=4 } (c'.seen.length+1)=d at*;have cc:gd d M'=0∨d.state≠4∧d.state≠7:=by
   by_cases h:d.state=4∨d.state=7
   ·refine .inl ?_;unfold gd;grind
   grind
  rcases this with h |⟨a1,a2,a3,a4,a5,a6⟩ |⟨a1,a2,a3,a4,a5,a6,a7⟩
  ·exact .iU h.1 h.2
  ·refine .go k E ?_ a1 a2 omQ h4;have:yn d M'=d.p.af.toNat+(25+(d.seen.length-d.at_.toNat))+0+10*(0+0):=by
    unfold yn Ku gd K4;grind
   grind
  ·refine .lS k E ?_ a3 a4 a1 (.inr ⟨h4,by rw[a5,a6];exact .inr ⟨rfl,.inl ⟨rfl,by grind⟩⟩⟩);grind[yn,gd]
 have hv4:c.state≤4→∀(j:Nat) (z:Int) (w:cK),c.s[j]? =some z→c.aw[j]? =some w→(qP M.l z).1=w.1:=λh4 j z w h1 h2=>by rw[hold j z w h1 h2 (λh=>by omega)]
 by_cases s3:c.state=3
 ·have ma:=C.s3 s3;have lW:0≤c.now:=by have:=O.ar;grind[zF]
  refine⟨⟨7,0,c.now,c.now+1,bK,bK⟩,by grind,?_⟩;have dS:yn c M=c.p.af.toNat+52+b3 (M.n≠c.now)+10*(0+1):=by grind[yn,Ku,gd,K4]
  by_cases he:M.n=c.now
  ·have e:qF M ⟨7,0,c.now,c.now+1,bK,bK⟩=(⟨0,bK,true,0⟩,{ M with n:=c.now+1,aT:=M.aT+1 }):=by
    refine kt (M:=M) (N:={ M with n:=c.now+1 }) (.inr rfl) ?_ rfl;unfold JZ;grind
   rw[e];have et:qn c ⟨0,bK,true,0⟩=if c.now=c.ad then zj c else xF c:=by rw[jj hp rfl,iQ omQ,iJ (.inr s3)];simp[xe];omega
   dsimp only;rw[et];have E:lq S M { M with n:=c.now+1,aT:=M.aT+1 } me 10:=.tick rfl (by grind)
   split
   ·exact .iU (UZ hp).1 (UZ hp).2
   ·have Ly:=a0 omQ;exact proved c 10 rfl dZ rfl rfl rfl (Int.le_refl _) omQ omQ rfl (hv4 omQ) E (by grind) (by grind)
  ·have e:qF M ⟨7,0,c.now,c.now+1,bK,bK⟩=(dM,{ M with aT:=M.aT+1 }):=by
    refine kt (M:=M) (N:=M) (.inr rfl) ?_ rfl;unfold JZ;grind
   rw[e];have et:qn c dM={ c with state:=2 }:=by rw[jj hp rfl,iQ omQ,iJ (.inr s3)];unfold xe;rw[iQ (λh=>s2 h.1),iQ s2,iJ (show dM.done=false from rfl)]
   dsimp only;rw[et];rw[Hj he]at dS;refine .go 0 (.same rfl rfl) ?_ dZ hp (by simp) omQ;show c.p.af.toNat+53+0+10*(0+1)+0+1≤_;omega
 by_cases s4:c.state=4
 ·have ig:=O.A3 hp s4;have hi:c.at_.toNat<c.seen.length:=by omega
  have es:jZ c.seen c.at_=c.seen[c.at_.toNat]:=by unfold jZ;grind
  obtain⟨z0,z1⟩:=C.seen _ (List.getElem_mem hi);refine⟨bz 3 (jZ c.seen c.at_).1 0,by grind,?_⟩;rw[es,VV MO z0 z1];have et:qn c ⟨0,qP M.l c.seen[c.at_.toNat].1,false,0⟩=xI c (qP M.l c.seen[c.at_.toNat].1):=by rw[jj hp rfl,iQ omQ,iQ omQ,iJ s4]
  have dS:yn c M=c.p.af.toNat+(25+(c.seen.length-c.at_.toNat))+0+10*(0+0):=by grind[yn,Ku,gd,K4]
  dsimp only;rw[et];unfold xI;by_cases hh:(qP M.l c.seen[c.at_.toNat].1).2.1=true
  ·rw[iJ hh];refine Od z0 z1 rfl hh (O.p hp omQ) omQ (.inr s4) dZ hp hpm (λh=>?_) omQ rfl rfl;obtain⟨k,h1,h2,_⟩:=own _ z0 z1 (Prod.ext hh h);have h3:=Wt s4;rw[es]at h3;exact qkD h3 h1 h2
  rw[iQ hh];by_cases bJ:(qP M.l c.seen[c.at_.toNat].1).1≠(jZ c.seen c.at_).2
  ·rw[iJ bJ];obtain⟨q1,q2,q3,q4,q5,q6⟩:=GW (c:=c) (M:={ M with aT:=M.aT+1 }) (f:=5) (e:=0) (y:=-1) (O.p hp omQ).2 omQ;refine .lS 0 (.same rfl rfl) omQ (q5.trans dZ) ?_ q2 (.inr ⟨by omega,?_⟩)
   ·grind
   ·rw[q3,q4];refine .inr ⟨rfl,.inl ⟨rfl,_,List.getElem_mem hi,?_⟩⟩;grind
  ·rw[iQ bJ];exact proved { c with at_:=c.at_+1 } 0 rfl dZ rfl rfl rfl (by grind) (by grind) omQ rfl (hv4 omQ) (.same rfl rfl) (by grind) (by grind)
 have s7:c.state=7:=by omega
 have ig:=O.Dn hp s7;have hi:c.at_.toNat<c.aw.length:=by omega
 obtain⟨z,hz,hn,z0,z1⟩:=ik c.at_.toNat omQ;have dJ:((c.at_.toNat:Nat):Int)=c.at_:=by omega
 rw[dJ]at hn;have ew:qP c.aw c.at_=c.aw[c.at_.toNat]:=by unfold qP;grind
 obtain⟨w1,w2⟩:=C.aw _ (List.getElem_mem hi);have hh:=hold c.at_.toNat z _ hz (iW hi) (λ_=>by omega);have rG:=(MO.lk z z0 z1).1;have hx:vn (c.aw[c.at_.toNat]):=by rw[hh,J4]at rG;have:c.aw[c.at_.toNat]=(c.aw[c.at_.toNat].1,false,0):=Prod.ext rfl w1;rw[this,Yh];omega
 refine⟨⟨5,z,0,0,bK,c.aw[c.at_.toNat]⟩,by grind,?_⟩;rw[Oi MO z0 z1 hx];have et:qn c dM=zc { c with at_:=c.at_+1 }:=by rw[jj hp rfl,iQ omQ,iQ omQ,iQ s4,iQ omQ,iQ omQ]
 have dS:yn c M=c.p.af.toNat+(c.aw.length-c.at_.toNat+1)+0+10*(0+0):=by grind[yn,Ku,gd,K4]
 dsimp only;rw[et];have E:lq S M { M with l:=M.l.set z.toNat c.aw[c.at_.toNat],aT:=M.aT+1 } me 0:=by
  refine .drop z z0 z1 (by rw[hh]) ?_ rfl;grind
 unfold zc;dsimp only
 split
 ·refine .lS 0 E ?_ dZ (.inr ⟨rfl,rfl⟩) s7 (.inl ⟨s7,rfl,rfl⟩);grind[yn,zW,Ku,gd,K4]
 ·refine .lS 0 E ?_ dZ (.inl hp) s7 (.inl ⟨s7,rfl,rfl⟩);grind[yn,Ku,gd,K4]
end
section
variable {S:jz} {n:Int} {w0:List Int} {E:Env} {i:Nat} {M M':jX} {c d:q9} {x y:qf} {a:cE}
structure fD (x:qf):Prop where
  f:x.state=3→x.f.p.me=x.me∧(x.f.state=0∨x.f.state=1∨x.f.state=2)
  e:x.state=4∨x.state=5→x.e.p.me=x.me
  c:x.state=6→∀c,x.c=some c→c.p.me=x.me∧(c.state=4→QS c.s c.aw (jZ c.seen c.at_).1=none)
  o:x.state=7→x.fin=2∨x.fin=3∨x.fin=4∨x.fin=5
  sp:x.state=6→∀c,x.c=some c→c.p.af≤4
theorem XM {p:Ja}:(jA p l).2.me=p.me:=by grind[jA]
theorem qJU (c:q9):(zc c).p.me=c.p.me∧(zc c).state=c.state:=by unfold zc;split<;>exact⟨rfl,rfl⟩
theorem V2 (c:q9) (f e y:Int):(jN c f e y).p.me=c.p.me∧(jN c f e y).state=7:=qJU _
theorem XL (c:q9):(zj c).p.me=c.p.me∧(zj c).state≠4:=by
 unfold zj jo zg;dsimp only
 repeat' split
 all_goals exact⟨rfl,λh=>by grind⟩
theorem qkF (c:q9) (l:cK):(zx c l).p.me=c.p.me∧((zx c l).state=7∨((zx c l).state=c.state∧(zx c l).s=c.s∧(zx c l).aw=c.aw∧(zx c l).seen=c.seen∧(zx c l).at_=c.at_)):=by
 unfold zx
 split
 ·exact⟨XM,.inr ⟨rfl,rfl,rfl,rfl,rfl⟩⟩
 grind[V2,jA,trans,XM]
theorem ZO:∀(k:Nat) (c:q9),(ja { c with state:=4 } k).p.me=c.p.me∧((ja { c with state:=4 } k).state=4→QS (ja { c with state:=4 } k).s (ja { c with state:=4 } k).aw (jZ (ja { c with state:=4 } k).seen (ja { c with state:=4 } k).at_).1=none):=by
 intro k
 induction k with
 |zero=>exact λc=>⟨(XL _).1,λh=>absurd h (XL _).2⟩
 |succ k ih=>
  intro c;unfold ja;dsimp only
  split
  ·split
   ·grind
   ·split
    ·simp[V2,od]
    ·exact ih { c with at_:=c.at_+1 }
  simp[XL]
theorem qGR (hp:c.p.fin=0) (ha:a.err=0) (h4:c.state=4→QS c.s c.aw (jZ c.seen c.at_).1=none) :
  (qn c a).p.me=c.p.me∧((qn c a).state=4→QS (qn c a).s (qn c a).aw (jZ (qn c a).seen (qn c a).at_).1=none):=by
 have no:∀{d:q9},d.p.me=c.p.me→d.state≠4→d.p.me=c.p.me∧(d.state=4→QS d.s d.aw (jZ d.seen d.at_).1=none):=λh1 h2=>⟨h1,λh=>absurd h h2⟩;have held:∀l,(zx c l).p.me=c.p.me∧((zx c l).state=4→QS (zx c l).s (zx c l).aw (jZ (zx c l).seen (zx c l).at_).1=none):=λl=>by
  grind[qkF]
 have stop:∀f e y,(jN c f e y).p.me=c.p.me∧((jN c f e y).state=4→QS (jN c f e y).s (jN c f e y).aw (jZ (jN c f e y).seen (jN c f e y).at_).1=none):=λf e y=>no (V2 c f e y).1 (by simp[V2]);rw[jj hp ha]
 split
 ·rename_i h01;unfold yH
  split
  ·grind
  ·split
   ·simp
   ·split
    ·refine no rfl ?_;grind[ju]
    simp
 ·split
  ·unfold xe
   split
   ·grind
   ·split
    ·simp
    ·split
     ·simp
     ·split
      ·simp[XL]
      ·exact ZO _ c
  ·split
   ·unfold xI
    split
    ·grind
    ·split
     ·grind
     ·exact ZO _ { c with at_:=c.at_+1 }
   ·rename_i n4
    split
    ·rename_i h5;refine no ?_ ?_
     all_goals
      unfold jo zg;dsimp only
      repeat' split
      all_goals first |rfl |(exact λh=>by grind) |grind
    ·split
     ·rename_i h6;refine no ?_ ?_
      all_goals
       unfold zg
       split
       all_goals trivial
     grind[qJU]
def N9 (z:Int):Prop:=z=0∨z=2∨z=4∨z=5
theorem Om (hp:c.p.fin=0) (h:N9 c.bf):N9 (zc c).p.fin:=by
 unfold zc
 split
 ·exact h
 ·exact .inl hp
theorem UN {y:Int} (hp:c.p.fin=0) (h:N9 f):N9 (jN c f e y).p.fin:=Om (c:={ c with bf:=f,fX:=e,iP:=y,at_:=0,state:=7 }) hp h
theorem Us (hp:c.p.fin=0):N9 (zj c).p.fin:=by
 rcases(UZ hp).2 with h |h
 ·exact .inl h
 ·exact .inr (.inl h)
theorem O5 (hp:c.p.fin=0):N9 (zx c l).p.fin:=by
 unfold zx
 split
 ·exact .inl (cJ.trans hp)
 ·exact UN (c:={ c with p:=(jA c.p l).2 }) (cJ.trans hp) (.inr (.inr (.inr rfl)))
theorem ND:∀(k:Nat) (c:q9),c.p.fin=0→N9 (ja { c with state:=4 } k).p.fin:=by
 intro k
 induction k with
 |zero=>exact λc hp=>Us (c:={ c with state:=4 }) hp
 |succ k ih=>
  intro c hp;unfold ja;dsimp only
  split
  ·split
   ·exact .inl hp
   ·split
    ·exact UN (c:={ c with state:=4 }) hp (.inr (.inr (.inr rfl)))
    ·exact ih { c with at_:=c.at_+1 } hp
  grind[Us]
theorem qKf (hp:c.p.fin=0) (ha:a.err=0) (h7:c.state=7→c.bf=4∨c.bf=5) (cd:0≤c.state∧c.state≤7):N9 (qn c a).p.fin:=by
 rw[jj hp ha]
 split
 ·unfold yH
  split
  ·grind[O5]
  ·split
   ·exact .inl hp
   ·split
    ·exact .inl hp
    ·exact .inl hp
 ·split
  ·unfold xe
   split
   ·exact UN hp (.inr (.inr (.inl rfl)))
   ·split
    ·exact .inl hp
    ·split
     ·exact .inl hp
     ·split
      ·grind[Us]
      ·exact ND _ c hp
  ·split
   ·unfold xI
    split
    ·grind[O5]
    ·split
     ·exact UN hp (.inr (.inr (.inr rfl)))
     ·exact ND _ { c with at_:=c.at_+1 } hp
   ·split
    ·unfold jo zg;dsimp only
     repeat' split
     ·exact .inr (.inl rfl)
     ·exact .inl hp
     ·exact .inl hp
    ·split
     ·unfold zg
      split
      ·exact .inr (.inl rfl)
      ·exact .inl hp
     ·refine Om (c:={ c with at_:=c.at_+1 }) hp ?_;rcases h7 omQ with h |h
      ·exact .inr (.inr (.inl h))
      ·exact .inr (.inr (.inr h))
theorem qKT (c:q9):(zc c).p.af=c.p.af:=by unfold zc;split<;>rfl
theorem Vn (c:q9) (f e y:Int):(jN c f e y).p.af=c.p.af:=qKT _
theorem MD (c:q9):(zj c).p.af=c.p.af:=by
 unfold zj jo zg;dsimp only
 repeat' split
 all_goals rfl
theorem qXa {p:Ja}:(jA p l).2.af≤p.af:=by
 unfold jA
 grind
theorem qXS (c:q9) (l:cK):(zx c l).p.af≤c.p.af:=by
 unfold zx
 split
 all_goals simp[qXa,Vn]
theorem ON:∀(k:Nat) (c:q9),(ja { c with state:=4 } k).p.af=c.p.af:=by
 intro k
 induction k with
 |zero=>exact λc=>MD _
 |succ k ih=>
  intro c;unfold ja;dsimp only
  split
  ·split
   ·rfl
   ·split
    ·simp[Vn]
    ·exact ih { c with at_:=c.at_+1 }
  simp[MD]
theorem qVp (hp:c.p.fin=0) (ha:a.err=0):(qn c a).p.af≤c.p.af:=by
 rw[jj hp ha]
 split
 ·unfold yH
  split
  ·simp[qXS]
  ·split
   ·simp
   ·split
    ·exact Int.le_refl _
    simp
 ·split
  ·unfold xe
   split
   ·simp[Vn]
   ·split
    ·simp
    ·split
     ·simp
     ·split
      ·simp[MD]
      ·exact Int.le_of_eq (ON _ c)
  ·split
   ·unfold xI
    split
    ·simp[qXS]
    ·split
     ·simp[Vn]
     ·exact Int.le_of_eq (ON _ { c with at_:=c.at_+1 })
   ·split
    ·unfold jo zg;dsimp only
     repeat' split
     all_goals exact Int.le_refl _
    ·split
     ·unfold zg
      split<;>exact Int.le_refl _
     simp[qKT]
theorem qVs {f:wJ} (ha:a.err=0) (hp:f.p.fin=0) (h:f.state=0∨f.state=1∨f.state=2):(jP f a).p.me=f.p.me∧((jP f a).state=0∨(jP f a).state=1∨(jP f a).state=2):=by
 unfold jP;rw[Qq hp ha,iQ (λh=>by grind)]
 split
 ·simp
 ·split
  ·trivial
  ·unfold gD
   split
   ·split
    ·exact⟨XM,.inl rfl⟩
    ·exact⟨XM,.inl rfl⟩
   ·split
    ·exact⟨rfl,.inl rfl⟩
    simp
theorem qX8 (e:wO):(kB e).p.me=e.p.me:=by unfold kB;split<;>rfl
theorem qVd {e:wO} (ha:a.err=0) (hp:e.p.fin=0):(zw e a).p.me=e.p.me:=by
 unfold zw;rw[Qq hp ha,iQ (λh=>by grind)]
 split
 ·simp[qX8]
 ·split
  ·split
   ·exact XM
   ·exact XM
  ·split
   ·rfl
   simp[qX8]
theorem fD.none (h:x.state≤2∨x.state=8):fD x:=⟨λh'=>by omega,λh'=>by omega,λh'=>by omega,λh'=>by omega,λh'=>by omega⟩
theorem fD.stamped (A:fD x):fD (jV x):=by
 unfold jV
 repeat' split
 all_goals exact⟨A.f,A.e,A.c,A.o,A.sp⟩
theorem fD.ask (p:Int):fD (QF x p):=⟨λ_=>⟨rfl,.inl rfl⟩,λh=>(by rcases h with h |h<;>cases h),λh=>(by cases h),λh=>(by cases h),λh=>by cases h⟩
theorem fD.later {s:Int} (h:s=4∨s=5):fD (wX x s):=⟨λh'=>(by have h':s=3:=h';omega),λ_=>rfl,λh'=>(by have h':s=6:=h';omega),λh'=>(by have h':s=7:=h';omega),λh'=>by have h':s=6:=h';omega⟩
theorem fD.out (h:f=2∨f=3∨f=4∨f=5):fD (zT x f e z):=⟨λh'=>(by cases h'),λh'=>(by rcases h' with h' |h'<;>cases h'),λh'=>(by cases h'),λ_=>h,λh'=>by cases h'⟩
theorem fD.iR (x:qf):fD (zn x):=by
 unfold zn yX
 split
 ·simp[ask]
 ·split
  ·exact .later (.inr rfl)
  ·split
   ·exact .out (.inr (.inr (.inl rfl)))
   ·split
    ·exact .out (.inl rfl)
    ·refine⟨λh=>(by grind),λh=>(by grind),λ_ c hc=>?_,λh=>(by grind),λ_ c hc=>?_⟩
     ·cases hc;refine⟨rfl,λh=>?_⟩;grind[Jv,ju]
     ·cases hc;show max 0 (min _ 4)≤4;omega
theorem fD.told (A:fD x) (hs:x.state=3∨x.state=4∨x.state=5∨x.state=6) (hc:x.state=6→∀c,x.c=some c→N9 c.p.fin):fD (q8 x):=by
 unfold q8;refine fD.stamped ?_
 split
 ·grind
 ·split
  ·exact .out (.inr (.inr (.inr rfl)))
  ·rename_i h0 h5;unfold jr
   split
   ·unfold jt
    split
    ·exact .later (.inl rfl)
    ·split
     ·simp[iR]
     ·split
      ·exact .out (.inr (.inr (.inr rfl)))
      ·exact .out (.inr (.inr (.inl rfl)))
   ·split
    ·simp[ask]
    ·split
     ·exact .out (.inr (.inl rfl))
     ·rename_i n3 n4 n5;have h6:x.state=6:=by omega
      unfold zN at h0 h5;rw[iQ n3,iJ h6]at h0 h5
      split
      ·rename_i c hx;have hf:=hc h6 c hx;rw[hx]at h0 h5;dsimp only at h0 h5;unfold N9 at hf;exact .out omQ
      grind
theorem fD.dl (A:fD x) (L:vM S n x me) (he:x.state=4∨x.state=5→x.e.p.fin=0) (h7:x.state=6→∀c,x.c=some c→c.state=7→c.bf=4∨c.bf=5) (ha:a.err=0) (cd:0≤x.state∧x.state≤8):fD (qL x a):=by
 unfold qL
 split
 ·grind
 rename_i s8;rw[iQ (λh=>h ha)]
 split
 ·simp[none]
 rename_i s0
 split
 ·simp[none]
 rename_i s1
 split
 ·simp[iR]
 rename_i s2
 split
 ·exact .none (.inr rfl)
 rename_i s7
 split
 ·rename_i s3;have h:=qVs ha (L.f s3).2 (A.f s3).2;exact fD.told (x:={ x with f:=jP x.f a }) ⟨λ_=>⟨h.1.trans (A.f s3).1,h.2⟩,λh'=>A.e h',λh'=>A.c h',λh'=>A.o h',λh'=>A.sp h'⟩ (.inl s3) λh'=>by grind
 split
 ·rename_i s3 s6;have some_:∀c,({ x with c:=x.c.map λc=>qn c a }:qf).c=some c→∃c0,x.c=some c0∧c=qn c0 a:=λc hc=>by
   have hc:(x.c.map λc=>qn c a)=some c:=hc;cases hx:x.c with
   |none=>grind
   |some c0=>grind
  refine fD.told (x:={ x with c:=x.c.map λc=>qn c a }) ⟨λh'=>A.f h',λh'=>A.e h',λh' c hc=>?_,λh'=>A.o h',λh' c hc=>?_⟩ (.inr (.inr (.inr s6))) λ_ c hc=>?_
  ·obtain⟨c0,hx,rfl⟩:=some_ c hc;obtain⟨h1,h2⟩:=A.c s6 c0 hx;have h:=qGR (L.c s6 c0 hx).2 ha h2;grind
  ·obtain⟨c0,hx,rfl⟩:=some_ c hc;exact Int.le_trans (qVp (L.c s6 c0 hx).2 ha) (A.sp s6 c0 hx)
  ·obtain⟨c0,hx,rfl⟩:=some_ c hc;exact qKf (L.c s6 c0 hx).2 ha (h7 s6 c0 hx) (L.c s6 c0 hx).1.ok.st
 ·refine fD.told (x:={ x with e:=zw x.e a }) ⟨λh'=>A.f h',λh'=>?_,λh'=>A.c h',λh'=>A.o h',λh'=>A.sp h'⟩ ?_ λh'=>by grind
  ·exact(qVd ha (he h')).trans (A.e h')
  grind
end
section
variable {S:jz} {n:Int} {w0:List Int} {E:Env} {i:Nat} {M M':jX} {c d:q9} {x y:qf} {a:cE} {f:wJ} {e:wO}
open Classical in
noncomputable def mY (p:Prop):Nat:=if p then 40 else 0
theorem LW:mY p≤40:=by grind[mY]
theorem Zl (h:p):mY p=40:=iJ h
theorem Zj (h:¬p):mY p=0:=iQ h
def Qn (S:jz) (M:jX) (st:Int):Prop:=∃z,0≤z∧z<S.ae∧st<(qP M.l z).1
theorem qxr (MO:yu S M):¬Qn S M M.n:=λ⟨z,h0,h1,h2⟩=>by have:=(MO.lk z h0 h1).2;omega
def GU (f:wJ) (M:jX):Nat:=if f.state=1∨f.state=2 then b3 (qP M.l f.aB≠f.lk)else 0
def J5 (f:wJ) (M:jX):Nat:=f.p.af.toNat+(if f.state=0 then 3 else if f.state=1 then 2 else 1)+GU f M
theorem LX (h:f.state=0):J5 f M=f.p.af.toNat+3:=by grind[J5,GU]
theorem jXt (h:f.state=1):J5 f M=f.p.af.toNat+2+b3 (qP M.l f.aB≠f.lk):=by grind[J5,GU]
theorem jXm (h:f.state=2):J5 f M=f.p.af.toNat+1+b3 (qP M.l f.aB≠f.lk):=by grind[J5,GU]
theorem jV0 (hp:f.p.fin=0) (mc:f.p.me=me) (cd:f.state=0∨f.state=1∨f.state=2) (ha:a.err=0) (hk:f.state≠1→a.lk=qP M.l f.aB) (rG:f.state=1∨f.state=2→f.lk.2=(false,0)) (h0:0≤f.aB∧f.aB<S.ae) (own:(qP M.l f.aB).2≠(true,me)) :
  (jP f a=f∧∃o,vU S M o∧me<o)∨((jP f a).p.fin=0∧J5 (jP f a) M+1≤J5 f M)∨((jP f a).p.fin=5∧vU S M (jP f a).p.ch∧(jP f a).p.ch<me)∨
  ((jP f a).p.fin=6∧Qn S M f.ad)∨(jP f a={ f with p:=zW f.p 2 0 (-1) }∧f.lk=qP M.l f.aB):=by
 unfold jP;rw[Qq hp ha,iQ (λh=>by grind)];by_cases s1:f.state=1
 ·rw[iJ s1];refine .inr (.inl ⟨hp,?_⟩);rw[jXm (f:={ f with word:=a.word,state:=2 }) rfl,jXt s1];grind
 rw[iQ s1];have hk:=hk s1;by_cases s2:f.state=2∧a.lk=f.lk
 ·grind
 rw[iQ s2,hk];have hC:f.state=0∧J5 f M=f.p.af.toNat+3∨J5 f M=f.p.af.toNat+4:=by
  grind[LX,absurd,jXm,Hj,qP]
 unfold gD;by_cases hh:(qP M.l f.aB).2.1=true
 ·rw[iJ hh];have hb:vU S M (qP M.l f.aB).2.2:=⟨f.aB,h0.1,h0.2,Prod.ext hh rfl⟩;unfold jA;by_cases h1:f.p.me<(qP M.l f.aB).2.2
  ·rw[iJ h1,iJ rfl];rcases hC with⟨s0,_⟩ |hC
   ·refine .inl ⟨?_,_,hb,by grind⟩;obtain⟨p,q1,q2,q3,q4,q5,q6⟩:=f;grind
   ·refine .inr (.inl ⟨hp,?_⟩);rw[LX (f:={ f with state:=0,p:=f.p }) rfl];grind
  ·rw[iQ h1];by_cases h2:0≤f.p.af-1
   ·rw[iJ (iG h2)];refine .inr (.inl ⟨hp,?_⟩);have e:=LX (M:=M) (f:={ f with state:=0,p:={ f.p with af:=f.p.af-1 } }) rfl;grind
   ·rw[iQ (by grind)];refine .inr (.inr (.inl ⟨rfl,hb,?_⟩));show(qP M.l f.aB).2.2<me;grind
 ·rw[iQ hh];by_cases hl:f.ad<(qP M.l f.aB).1
  ·rw[iJ hl];exact .inr (.inr (.inr (.inl ⟨rfl,_,h0.1,h0.2,hl⟩)))
  ·rw[iQ hl];refine .inr (.inl ⟨hp,?_⟩);rw[jXt (f:={ f with lk:=qP M.l f.aB,state:=1 }) rfl,Hk (λh=>h rfl)];grind
def Jd (e:wO):Nat:=e.p.af.toNat+(if e.aR=false then e.seen.length+2 else e.seen.length-e.at_.toNat+1)
theorem jKc (hp:e.p.fin=0) (mc:e.p.me=me) (ha:a.err=0) (hw:e.aR=false→a.word=M.n) (hk:e.aR=true→a.lk=qP M.l (jZ e.seen e.at_).1) (l0:e.aR=false→e.at_=0) (dJ:e.aR=true→0≤e.at_∧e.at_<e.seen.length)
  (hr:∀y∈e.seen,0≤y.1∧y.1<S.ae) (own:∀z,0≤z→z<S.ae→(qP M.l z).2≠(true,me)) :
  (zw e a=e∧∃o,vU S M o∧me<o)∨
  ((((zw e a).p.fin=0∧Jd (zw e a)+1≤Jd e)∨(zw e a).p.fin=2)∧(zw e a).aR=true∧(e.aR=false→(zw e a).ad=M.n)∧(e.aR=true→(zw e a).ad=e.ad))∨
  ((zw e a).p.fin=5∧(((zw e a).p.ch= -1∧xY M e.seen)∨(vU S M (zw e a).p.ch∧(zw e a).p.ch<me))):=by
 have on:∀q:wO,q.p.fin=0→q.aR=true→q.p=e.p→q.seen=e.seen→q.seen.length-q.at_.toNat+1+e.p.af.toNat+1≤Jd e→(((kB q).p.fin=0∧Jd (kB q)+1≤Jd e)∨(kB q).p.fin=2)∧(kB q).aR=true∧(kB q).ad=q.ad:=λq h1 h2 h3 h4 h5=>by
  unfold kB
  split
  ·exact⟨.inr rfl,h2,rfl⟩
  ·refine⟨.inl ⟨h1,?_⟩,h2,rfl⟩;unfold Jd at h5 ⊢;grind
 unfold zw;rw[Qq hp ha,iQ (λh=>by grind)];by_cases hl:e.aR=false
 ·rw[iJ hl];have h:=on { e with aR:=true,ad:=a.word } hp rfl rfl rfl (by unfold Jd;simp_all;omega);grind
 ·rw[iQ hl];have hl:e.aR=true:=by grind
  rw[hk hl];obtain⟨a0,a1⟩:=dJ hl;have hi:e.at_.toNat<e.seen.length:=by omega
  have es:jZ e.seen e.at_=e.seen[e.at_.toNat]:=by simp_all[jZ]
  obtain⟨z0,z1⟩:=hr _ (List.getElem_mem hi);rw[es];have hC:Jd e=e.p.af.toNat+(e.seen.length-e.at_.toNat+1):=by simp_all[Jd]
  by_cases hh:(qP M.l e.seen[e.at_.toNat].1).2.1=true
  ·rw[iJ hh];have hb:vU S M (qP M.l e.seen[e.at_.toNat].1).2.2:=⟨_,z0,z1,Prod.ext hh rfl⟩;unfold jA;by_cases h1:e.p.me<(qP M.l e.seen[e.at_.toNat].1).2.2
   ·rw[iJ h1,iJ rfl];grind
   ·rw[iQ h1];by_cases h2:0≤e.p.af-1
    ·rw[iJ (iG h2)];refine .inr (.inl ⟨.inl ⟨hp,?_⟩,hl,λh=>(by grind),λ_=>rfl⟩);simp[Jd];omega
    ·rw[iQ (by grind)];refine .inr (.inr ⟨rfl,.inr ⟨hb,?_⟩⟩);show(qP M.l e.seen[e.at_.toNat].1).2.2<me;grind
  ·rw[iQ hh]
   split
   ·rename_i bJ;exact .inr (.inr ⟨rfl,.inl ⟨rfl,_,List.getElem_mem hi,λh=>bJ h.symm⟩⟩)
   ·have h:=on { e with at_:=e.at_+1 } hp hl rfl rfl (by simp;omega);grind
noncomputable def vi (S:jz) (x:qf) (M:jX):Nat :=
 if x.state≤2 then 8*x.v.sz+374-x.state.toNat
 else if x.state=3 then 8*(x.v.sz-x.v.K.length)+mY (Qn S M x.ad)+J5 x.f M+320
 else if x.state=4 then 8*(x.v.sz-x.v.K.length)+mY (x.e.aR=true∧Qn S M x.e.ad)+Jd x.e+330
 else if x.state=5 then Jd x.e+200
 else if x.state=6 then(match x.c with |some c=>yn c M+20 |none=>0)
 else if x.state=7 then 15 else 0
def zR (x:qf):Option Int :=
 if x.state=7∨x.state=8 then(if x.fin=5 then some x.ch else none)
 else if x.state=6 then(match x.c with |some c=>if c.state=7∧c.bf=5 then some c.iP else none |none=>none)else none
def eA (x:qf):Nat:=if x.state=0 then 3 else if x.state≤2 then 2 else if x.state≤7 then 1 else 0
def Oq (x:qf):Prop:=ql x=true∨(x.state=7∧(x.fin=2∨x.fin=4))
theorem wD (h:x.state≤5):zR x=none:=by unfold zR;grind
theorem qvu (hc:x.c=none) (_:x.state≠6):q8 x=if(zN x).1=0 then x else if(zN x).1=5 then zT x 5 0 (zN x).2 else jr x:=by
 unfold q8;refine Jk ?_
 split
 ·grind[zZ]
 ·split
  ·exact zZ hc
  ·unfold jr
   split
   ·unfold jt
    split
    ·exact zZ hc
    ·split
     ·grind[UG]
     ·split<;>exact zZ hc
   ·split
    ·exact zZ hc
    ·split
     ·exact zZ hc
     grind[zZ]
theorem jV4 {st:Int} {cs:List Cl} {k w:Int}:yn (Jv me sp st r cs k w) M≤282∧(Jv me sp st r cs k w).state≠7:=by
 have hs:(xJ cs k w).length≤16:=by unfold xJ;grind
 have hp:((KF me sp).af).toNat≤4:=by show(max 0 (min sp 4)).toNat≤4;omega
 unfold Jv ju;dsimp only
 split
 ·refine⟨?_,by simp⟩;show(KF me sp).af.toNat+53+0+10*(0+1)≤282;omega
 ·refine⟨?_,by simp⟩;show(KF me sp).af.toNat+(60+3*((xJ cs k w).length-0))+0+10*(((xJ cs k w).length-0)+1)≤282;omega
theorem qgl (hr:r.length≤16):Jd (VR me sp r)≤22:=by
 have hp:((KF me sp).af).toNat≤4:=by show(max 0 (min sp 4)).toNat≤4;omega
 show(KF me sp).af.toNat+(r.length+2)≤22;omega
theorem qWb {p:Int}:vi S (QF x p) M≤8*(x.v.sz-x.v.K.length)+mY (Qn S M x.ad)+327:=by
 have hp:((KF x.me x.set.af).af).toNat≤4:=by show(max 0 (min x.set.af 4)).toNat≤4;omega
 have:vi S (QF x p) M=8*(x.v.sz-x.v.K.length)+mY (Qn S M x.ad)+J5 (A0 x.me p (ofM p x.set.ae x.set.wide) x.set.af x.ad) M+320:=rfl;rw[this,LX rfl];show _+((KF x.me x.set.af).af.toNat+3)+320≤_;omega
structure Hm (S:jz) (M:jX) (x y:qf):Prop where
  loc:vi S y M+2≤8*(x.v.sz-x.v.K.length)+mY (Qn S M x.ad)+330
  Hn:zR y=none
  r:y.r=x.r
  st:3≤y.state∧y.state≤7
theorem qWf (B:Qk x) (hj:bS True x.v x.aN):Oq (zn x)∨Hm S M x (zn x):=by
 have D:=GC B.aJ B.fr hj;unfold zn;generalize(xK x).1=ke at*;generalize(xK x).2=y at*;obtain⟨s1,s2,s3,s4,s5⟩:=D.same;unfold yX
 split
 ·refine .inr ⟨?_,wD (by show(3:Int)≤5;simp),s3,by show(3:Int)≤3∧(3:Int)≤7;simp⟩;have:=qWb (S:=S) (M:=M) (x:=y) (p:=y.v.aC);rw[s4,D.kept.1,D.kept.2.1]at this;omega
 ·split
  ·refine .inr ⟨?_,wD (by show(5:Int)≤5;simp),s3,by show(3:Int)≤5∧(5:Int)≤7;simp⟩;have:=qgl (me:=y.me) (sp:=y.set.af) (r:=y.r) (by rw[s3];exact B.r);show Jd (VR y.me y.set.af y.r)+200+2≤_;omega
  ·split
   ·exact .inl (.inr ⟨rfl,.inr rfl⟩)
   ·split
    ·exact .inl (.inr ⟨rfl,.inl rfl⟩)
    ·have hc:=jV4 (M:=M) (me:=y.me) (sp:=y.set.af) (st:=y.ad) (r:=y.r) (cs:=jk y.v.lv) (k:=y.set.ae) (w:=y.set.wide);refine .inr ⟨?_,?_,s3,by simp⟩
     ·show yn (Jv y.me y.set.af y.ad y.r (jk y.v.lv) y.set.ae y.set.wide) M+20+2≤_;omega
     ·show(if(Jv y.me y.set.af y.ad y.r (jk y.v.lv) y.set.ae y.set.wide).state=7∧_ then _ else _)=none;grind
end
section
variable {S:jz} {n:Int} {w0:List Int} {E:Env} {i:Nat} {M M':jX} {c d:q9} {x y:qf} {a:cE} {o:dG}
structure AGo (S:jz) (M:jX) (x:qf) (me:Int) (M':jX) (y:qf) (k q:Nat):Prop where
  E:lq S M M' me k
  sl:(q=0∧M'.s=M.s∧1≤x.state∧1≤y.state∧y.state≤7)∨(q=1∧∃v,M'.s=M.s.set me.toNat v∧(v≠0↔1≤y.state∧y.state≤7))
  e:eA y+q≤eA x
  L:vi S y M'+k+1≤vi S x M
  D:zR y=zR x∨(zR x=none∧((∃j,zR y=some j∧j<me∧vU S M j)∨(zR y=some (-1)∧xY M x.r)))
  r:xY M y.r→xY M x.r
  st:x.state≠7→y.state≤7
inductive Vj (S:jz) (M:jX) (x:qf) (me:Int) (M':jX) (y:qf):Prop
  |iU (h:Oq y)
  |idle (e:y=x) (hl:M'.l=M.l) (hn:M'.n=M.n) (hs:M'.s=M.s) (o:Int) (h:vU S M o) (ho:me<o)
  |go (k q:Nat) (g:AGo S M x me M' y k q)
theorem Ak (h:o.kind≤7):(qF M o).2.s=M.s:=by
 grind[qF,Kk,Xi,JZ,VO]
theorem qXL (h:xX c=some o):o.kind≤7:=by
 unfold xX at h
 repeat' split at h
 all_goals cases h
 all_goals first |(show(3:Int)≤7;simp) |(show(4:Int)≤7;simp) |(show(6:Int)≤7;simp) |(show(7:Int)≤7;simp) |(show(2:Int)≤7;simp) |simp
theorem XY (hl:M'.l=M.l) (hn:M'.n=M.n):vi S x M'=vi S x M:=by unfold vi Qn J5 GU yn gd;rw[hl,hn]
theorem Ug:vi S (zT x f e z) M=15:=by rfl
theorem XW:zR (zT x f e z)=if f=5 then some z else none:=iJ (.inl rfl)
theorem Ho (h:x.state=3):vi S x M=8*(x.v.sz-x.v.K.length)+mY (Qn S M x.ad)+J5 x.f M+320:=by simp_all[vi,omQ]
theorem Bc (h:x.state=4):vi S x M=8*(x.v.sz-x.v.K.length)+mY (x.e.aR=true∧Qn S M x.e.ad)+Jd x.e+330:=by simp_all[vi,omQ]
theorem DD (h:x.state=5):vi S x M=Jd x.e+200:=by simp_all[vi,omQ]
theorem DE (h:x.state=6) (hc:x.c=some c):vi S x M=yn c M+20:=by simp_all[vi,omQ]
theorem Hp (h:x.state=7):vi S x M=15:=by simp_all[vi,omQ]
theorem e1 (h:3≤x.state∧x.state≤7):eA x=1:=by unfold eA;grind
theorem qX1 {f:wJ}:1≤J5 f M:=by
 grind[J5]
theorem jQ9 {s:zd} (h:(gT r s).1=14):∃y∈r,y.1=s.1∧y.2≠s.2:=by
 unfold gT at h
 grind
theorem Hq (A:xx S w0 E i x) (O:zG x) (Q:fD x) (h3:x.state=3) (own:∀z,0≤z→z<S.ae→(qP E.M.l z).2≠(true,(i:Int))) {r:cE×jX} (R:Ag S E.M x r) (hs:r.2.s=E.M.s) :
  Vj S E.M x i r.2 (q8 { x with f:=jP x.f r.1 }):=by
 obtain⟨h0,hf⟩:=A.lk.f h3;have V:=A.f h3;have iM:=O.c0 omQ;obtain⟨q1,q2⟩:=Q.f h3;obtain⟨_,hl,hn⟩:=R.same;have ef:∀f:wJ,zN { x with f:=f }=(f.p.fin,f.p.ch):=λf=>by simp_all[zN]
 have tz:∀f:wJ,q8 { x with f:=f }=if f.p.fin=0 then{ x with f:=f }else if f.p.fin=5 then zT { x with f:=f } 5 0 f.p.ch else jt { x with f:=f }:=λf=>by
  simp_all[qvu,jr]
 have hx:=Ho (S:=S) (M:=E.M) h3;have go:∀{y:qf},3≤y.state∧y.state≤7→vi S y E.M+1≤vi S x E.M→(zR y=zR x∨(zR x=none∧((∃j,zR y=some j∧j<(i:Int)∧vU S E.M j)∨(zR y=some (-1)∧xY E.M x.r))))→(xY E.M y.r→xY E.M x.r)→Vj S E.M x i r.2 y:=λ{y} a1 a2 a3 a4=>.go 0 0 ⟨.same hl hn,.inl ⟨rfl,hs,by omega,by omega,a1.2⟩,by rw[e1 a1,e1 omQ];simp,by grind[XY],a3,a4,λ_=>a1.2⟩
 have dx:zR x=none:=wD omQ;have fg:=jV0 (S:=S) (M:=E.M) hf (q1.trans A.lk.me) q2 R.err (R.hk h3) (λh=>(V.lk h).1) h0 (own _ h0.1 h0.2);generalize jP x.f r.1=g at*;rw[tz];rcases fg with⟨e,o,h1,h2⟩ |⟨g0,gc⟩ |⟨g5,gh,gl⟩ |⟨g6,gl⟩ |⟨e,gl⟩
 ·subst e;rw[iJ hf];exact .idle rfl hl hn hs o h1 h2
 ·rw[iJ g0];grind[wD,trans,id,Ho]
 ·rw[iQ omQ,iJ g5];refine go (by show(3:Int)≤7∧(7:Int)≤7;simp) (by grind[Ug]) (.inr ⟨dx,.inl ⟨_,by rfl,gl,gh⟩⟩) id
 ·rw[iQ omQ,iQ omQ];unfold jt;rw[iJ (show({ x with f:=g }:qf).f.p.fin=6 from g6)];refine go (by show(3:Int)≤4∧(4:Int)≤7;simp) ?_ (.inl ((wD (by show(4:Int)≤5;simp)).trans dx.symm)) id;rw[Bc rfl,hx,Zl (p:=Qn S E.M x.ad) (by rw[← V.ad];grind)];show 8*(x.v.sz-x.v.K.length)+mY (false=true∧_)+Jd (VR x.me x.set.af x.r)+330+1≤_;rw[Zj (λh=>by grind)];have:=qgl (me:=x.me) (sp:=x.set.af) O.r;omega
 ·subst e;rw[iQ (by nofun),iQ (by nofun)];have es:yZ { x.f with p:=zW x.f.p 2 0 (-1) }=(x.f.aB,x.f.lk.1):=by
   rfl
  have ew:xn { x.f with p:=zW x.f.p 2 0 (-1) }=x.f.word:=by rfl
  unfold jt;rw[iQ (by nofun)];dsimp only;rw[es,ew];have lR:=O.aC omQ omQ
  split
  ·rename_i h0';obtain⟨a1,a2,a3⟩:=qZ7 h0';have B:=O.b;have hj:bS True x.v x.aN:=O.aN.same λ_=>by omega
   have rS:=(O.f h3).2;have k:=kQ (V:=x.v) (p:=x.v.aC) (x:=x.f.word);have kn:=qkP (x:=x.f.word) lR.1 lR.2.1 lR.2.2;have B':Qk { x with f:={ x.f with p:=zW x.f.p 2 0 (-1) },r:=(gT x.r (x.f.aB,x.f.lk.1)).2,v:=(xz x.v x.v.aC x.f.word).2 } :=
    ⟨B.set,Qu B.aJ rS,by rw[k.2];exact B.sz,by rw[k.1];exact B.fr,Xv B.r,(hj.lN (p:=x.v.aC) rS).dead not_false,B.c⟩
   rcases qWf (S:=S) (M:=E.M) B' (hj.lN (p:=x.v.aC) rS)with h |W
   ·exact .iU h
   ·refine go W.st (Nat.le_trans (Nat.le_sub_one_of_lt W.loc) ?_) (.inl (W.Hn.trans dx.symm)) λhs=>?_
    ·have hk:((xz x.v x.v.aC x.f.word).2.K).length≤(xz x.v x.v.aC x.f.word).2.sz:=by
      have O':dT (xz x.v x.v.aC x.f.word).2:=B'.aJ.ok;have hu:(((xz x.v x.v.aC x.f.word).2.K).map (·.1)).Nodup:=O'.un;have:=Ke (xz x.v x.v.aC x.f.word).2.sz _ hu λz hz=>by
       obtain⟨c,hc,rfl⟩:=List.mem_map.1 hz;have:=O'.ins c hc;omega
      grind
     show 8*((xz x.v x.v.aC x.f.word).2.sz-(xz x.v x.v.aC x.f.word).2.K.length)+mY (Qn S E.M x.ad)+330-1≤_;grind[List.length_append,List.length_singleton,qX1]
    ·obtain⟨y,hy,bJ⟩:=hs;rw[W.r]at hy;rcases a3 y hy with h |h
     ·exact⟨y,h,bJ⟩
     grind
  ·split
   ·rename_i oO;obtain⟨y,hy,y1,y2⟩:=jQ9 oO;refine go (by show(3:Int)≤7∧(7:Int)≤7;simp) (by grind[Ug]) (.inr ⟨dx,.inr ⟨by rfl,y,hy,?_⟩⟩) id;grind
   ·exact .iU (.inr ⟨rfl,.inr rfl⟩)
theorem jKR (A:xx S w0 E i x) (I:zt S w0 E) (O:zG x) (Q:fD x) (pG:x.state=4∨x.state=5) (own:∀z,0≤z→z<S.ae→(qP E.M.l z).2≠(true,(i:Int))) {r:cE×jX} (R:Ag S E.M x r) (hs:r.2.s=E.M.s) :
  Vj S E.M x i r.2 (q8 { x with e:=zw x.e r.1 }):=by
 have V:=A.e pG;have EO:=O.e omQ omQ;have iM:=O.c0 omQ;obtain⟨_,hl,hn⟩:=R.same;have ef:∀e:wO,zN { x with e:=e }=(e.p.fin,e.p.ch):=λe=>by
  unfold zN;grind
 have tz:∀e:wO,q8 { x with e:=e }=if e.p.fin=0 then{ x with e:=e }else if e.p.fin=5 then zT { x with e:=e } 5 0 e.p.ch else if x.state=4 then QF { x with e:=e,ad:=yt e } x.v.aC else zT { x with e:=e,ad:=yt e } 3 0 (-1):=λe=>by
  rw[qvu (x:={ x with e:=e }) iM (by grind),ef];dsimp only;by_cases h0:e.p.fin=0
  ·grind
  rw[iQ h0,iQ h0];by_cases h5:e.p.fin=5
  ·grind
  rw[iQ h5,iQ h5];unfold jr;grind
 have dx:zR x=none:=wD omQ;have go:∀{y:qf},3≤y.state∧y.state≤7→vi S y E.M+1≤vi S x E.M→(zR y=zR x∨(zR x=none∧((∃j,zR y=some j∧j<(i:Int)∧vU S E.M j)∨(zR y=some (-1)∧xY E.M x.r))))→(xY E.M y.r→xY E.M x.r)→Vj S E.M x i r.2 y:=λ{y} a1 a2 a3 a4=>.go 0 0 ⟨.same hl hn,.inl ⟨rfl,hs,by omega,by omega,a1.2⟩,by rw[e1 a1,e1 omQ];simp,by grind[XY],a3,a4,λ_=>a1.2⟩
 have lo:16≤vi S x E.M:=by
  grind[Bc,DD]
 have eg:=jKc (S:=S) (M:=E.M) V.fin ((Q.e pG).trans A.lk.me) R.err (R.dV pG) (R.lQ pG) V.l0 (λh=>⟨V.a0,EO.lX V.fin h⟩) (by rw[V.seen];exact A.lk.r) own;generalize zw x.e r.1=g at*;rw[tz];rcases eg with⟨e,o,h1,h2⟩ |⟨g0,gl,g1,g2⟩ |⟨g5,gb⟩
 ·subst e;rw[iJ V.fin];exact .idle rfl hl hn hs o h1 h2
 ·--it goes on
  have late:mY (Qn S E.M g.ad)≤mY (x.e.aR=true∧Qn S E.M x.e.ad):=by
   by_cases ra:x.e.aR=true
   ·grind
   ·rw[g1 (by grind),Zj (qxr I.ml)];simp
  rcases g0 with⟨g0,gc⟩ |g0
  ·rw[iJ g0];refine go (by grind) ?_ (.inl ((wD (by grind)).trans dx.symm)) id;rcases pG with h |h
   ·grind[Bc,mY,Qn,Zl,LW]
   grind[DD]
  ·have es:yt g=g.ad:=by
    simp_all[yt]
   rw[iQ omQ,iQ omQ,es];by_cases h4:x.state=4
   ·rw[iJ h4];refine go (by show(3:Int)≤3∧(3:Int)≤7;simp) ?_ (.inl ((wD (by show(3:Int)≤5;simp)).trans dx.symm)) id;grind[qWb,Bc]
   ·rw[iQ h4];refine go (by show(3:Int)≤7∧(7:Int)≤7;simp) (by trivial) (.inl ?_) id;grind[XW]
 ·rw[iQ omQ,iJ g5];refine go (by show(3:Int)≤7∧(7:Int)≤7;simp) (by trivial) (.inr ⟨dx,?_⟩) id;rcases gb with⟨gb,st⟩ |⟨gh,gl⟩
  ·rw[V.seen]at st;exact .inr ⟨by rw[XW,iJ rfl,gb],st⟩
  ·exact .inl ⟨_,by rfl,gl,gh⟩
theorem qVL (h6:x.state=6) (h5:d.p.fin=5) (hw:d.writing=false):q8 { x with c:=some d }=zT { x with c:=some d } 5 0 d.p.ch:=by unfold q8;rw[Hd h6,iQ (by grind),iJ h5];refine Jk ?_;exact Y3 (by nofun) rfl hw omQ
theorem Hr (A:xx S w0 E i x) (I:zt S w0 E) (O:zG x) (Q:fD x) (hi:i<4) (h6:x.state=6) (hC:E.C i=vY x) (own:∀z,0≤z→z<S.ae→(qP E.M.l z).2=(true,(i:Int))→QI x z) (hx:¬Oq x) (hn:jd x=some o) :
  Vj S E.M x i (qF E.M o).2 (qL x (qF E.M o).1):=by
 obtain⟨c,hc⟩:∃c,x.c=some c:=by
  cases h:x.c with
  |none=>exact absurd h (O.c6 h6)
  |some c=>simp
 obtain⟨CL,hf⟩:=A.lk.c h6 c hc;have J:=A.c h6 c hc;obtain⟨qm,q4⟩:=Q.c h6 c hc;have dZ:c.writing=false:=by
  cases h:c.writing with
  |false=>rfl
  |true=>exact absurd (.inl (by simp_all[yW,omQ,iG])) hx
 have rV:E.C i=some c:=by simp_all[vY]
 have nw:¬bR c:=λh=>by rw[J.wg.2 h]at dZ;grind
 have cd:=CL.ok.st;obtain⟨o',bQ,K⟩:=jK2 I.ml CL omQ hf (by grind[bR]) dZ (qm.trans A.lk.me) J.a0 J.f7 (λk z w g2 g3 g4=>I.hold i c rV k z w g2 g3 g4)
  (λz z0 z1 h=>by
   obtain⟨_,c',bH,_,hh⟩:=own z z0 z1 h
   grind) q4
 have:o'=o:=by unfold jd at hn;grind
 subst this;have hs:=Ak (M:=E.M) (qXL bQ);obtain⟨o2,Hs,K2⟩:=Uf I.ml CL omQ hf;rw[bQ]at Hs;cases Hs;have et:qL x (qF E.M o').1=q8 { x with c:=some (qn c (qF E.M o').1) }:=by unfold qL;rw[iQ omQ,iQ (λh=>h K2.err),iQ omQ,iQ omQ,iQ omQ,iQ omQ,iQ omQ,iJ h6,hc];rfl
 rw[et];have lx:=DE (S:=S) (M:=E.M) h6 hc;have dxe:zR x=if c.state=7∧c.bf=5 then some c.iP else none:=by unfold zR;grind
 generalize qn c (qF E.M o').1=d at*;have dye:zR { x with c:=some d }=if d.state=7∧d.bf=5 then some d.iP else none:=by simp_all[zR]
 have go:∀{y:qf} (k:Nat),lq S E.M (qF E.M o').2 i k→3≤y.state∧y.state≤7→vi S y (qF E.M o').2+k+1≤vi S x E.M→(zR y=zR x∨(zR x=none∧((∃j,zR y=some j∧j<(i:Int)∧vU S E.M j)∨(zR y=some (-1)∧xY E.M x.r))))→(xY E.M y.r→xY E.M x.r)→Vj S E.M x i (qF E.M o').2 y:=λ{y} k a0 a1 a2 a3 a4=>.go k 0 ⟨a0,.inl ⟨rfl,hs,by omega,by omega,a1.2⟩,by simp_all[e1,omQ],a2,a3,a4,λ_=>a1.2⟩
 cases K with
 |iU h IJ=>
  rcases IJ with h0 |h2
  ·rw[Yn h6 h0,iJ h];exact .iU (.inl (by rw[yW (e:=d) (by grind) rfl,h,iG h0];rfl))
  ·rw[Xb h6 h2 h];exact .iU (.inr ⟨rfl,.inl rfl⟩)
 |idle e hl ou o h ho=>subst e;rw[Yn h6 hf,iQ (by grind)];refine .idle ?_ hl ou hs o h ho;rw[← hc]
 |go k E' h w p st sc=>
  rw[Yn h6 p,iQ (by grind)];refine go k E' (by grind) ?_ (.inl ?_) id
  ·rw[DE (x:={ x with c:=some d }) h6 rfl,lx];omega
  grind
 |lS k E' h w p st b=>
  have f45:d.bf=4∨d.bf=5:=by
   rcases b with⟨b1,b2,_⟩ |⟨_,b⟩
   ·rw[b2];exact J.f7 b1
   ·rcases b with b |b
    all_goals grind
  have D:∀{y:qf},(zR y=if d.bf=5 then some d.iP else none)→zR y=zR x∨(zR x=none∧((∃j,zR y=some j∧j<(i:Int)∧vU S E.M j)∨(zR y=some (-1)∧xY E.M x.r))):=λ{y} hy=>by
   rw[dxe,hy];rcases b with⟨b1,b2,b3⟩ |⟨b1,b⟩
   ·grind
   ·rw[iQ (by omega:¬(c.state=7∧c.bf=5))];rcases b with b |⟨b,b'⟩
    ·grind
    ·rw[iJ b];refine .inr ⟨rfl,?_⟩;rcases b' with⟨e,cd⟩ |⟨ax,hh⟩
     ·rw[J.seen]at cd;grind
     grind
  rcases p with p |⟨p,pb⟩
  ·rw[Yn h6 p,iQ (by grind)];refine go k E' (by grind) ?_ (D ?_) id
   ·rw[DE (x:={ x with c:=some d }) h6 rfl,lx];omega
   grind
  ·rcases f45 with h4 |h5
   ·obtain⟨e,z,q⟩:=Ur (x:=x) h6 (d:=d) (.inl (p.trans h4)) w;rw[q];exact .iU (.inr ⟨rfl,.inr (p.trans h4)⟩)
   ·rw[qVL h6 (p.trans h5) w];refine go k E' (by show(3:Int)≤7∧(7:Int)≤7;simp) (by grind[Ug]) (D ?_) id;rw[XW,iJ rfl,iJ h5,pb]
end
section
variable {S:jz} {n:Int} {w0:List Int} {E:Env} {i:Nat} {M M':jX} {c d:q9} {x y:qf} {a:cE} {o:dG}
theorem Al (h:x.state≤2):vi S x M=8*x.v.sz+374-x.state.toNat:=iJ h
theorem jVA (SO:xZ S) (I:zt S w0 E) (A:xx S w0 E i x) (O:zG x) (Q:fD x) (hi:i<4) (hs:(i:Int)<E.M.s.length) (hC:E.C i=vY x) (own:∀z,0≤z→z<S.ae→(qP E.M.l z).2=(true,(i:Int))→QI x z) (hx:¬Oq x) (hn:jd x=some o) :
  Vj S E.M x i (qF E.M o).2 (qL x (qF E.M o).1):=by
 have cd:=O.st;have mc:x.me=(i:Int):=A.lk.me;by_cases h6:x.state=6
 ·grind[Hr]
 have Ht:∀z,0≤z→z<S.ae→(qP E.M.l z).2≠(true,(i:Int)):=λz z0 z1 h=>h6 (own z z0 z1 h).1;have R:=A.LL I O hs h6 hn;have dl:qL x (qF E.M o).1=if x.state=0 then{ x with state:=1 }else if x.state=1 then{ x with begun:=true,bB:=(qF E.M o).1.word,ad:=(qF E.M o).1.word,state:=2 }else if x.state=2 then zn x
   else if x.state=7 then{ x with state:=8 }else if x.state=3 then q8 { x with f:=jP x.f (qF E.M o).1 }else q8 { x with e:=zw x.e (qF E.M o).1 }:=by
  have h8:x.state≠8:=λh=>by
   simp_all[jd,omQ]
  unfold qL;rw[iQ h8,iQ (λh=>h R.err),iQ h6]
 have dn:∀{y:qf},y.state≤5→x.state≤5→zR y=zR x:=λ{y} h1 h2=>(wD h1).trans (wD h2).symm;rw[dl];clear dl;unfold jd at hn;by_cases s0:x.state=0
 ·rw[iJ s0]at hn ⊢;cases hn;rw[Qh omQ omQ];refine .go 0 1 ⟨.same rfl rfl,.inr ⟨rfl,1,by grind,?_⟩,?_,?_,.inl (dn (by simp) omQ),id,λ_=>by simp⟩
  ·simp
  ·simp_all[eA]
  simp_all[Al,omQ]
 rw[iQ s0]at hn ⊢;by_cases s1:x.state=1
 ·rw[iJ s1]at hn ⊢;cases hn;rw[LS];refine .go 0 0 ⟨.same rfl rfl,.inl ⟨rfl,rfl,by omega,by simp,by simp⟩,?_,?_,.inl (dn (by simp) omQ),id,λ_=>by simp⟩
  ·simp_all[eA,omQ]
  simp_all[Al,omQ]
 rw[iQ s1]at hn ⊢;by_cases s2:x.state=2
 ·rw[iJ s2]at hn ⊢;cases hn;rw[Qh omQ omQ];rcases qWf (S:=S) (M:=E.M) O.b (O.aN.same λ_=>by omega)with h |W
  ·exact .iU h
  ·have t:=A.t omQ;have hs0:=SO.start;have lW:=I.ml.n;refine .go 0 1 ⟨.same rfl rfl,.inr ⟨rfl,_,by show E.M.s.set x.me.toNat _=_;rw[mc],?_⟩,?_,?_,.inl (W.Hn.trans (wD omQ).symm),λh=>by rw[W.r]at h;grind,λ_=>W.st.2⟩
   ·refine⟨λ_=>⟨by have:=W.st;omega,W.st.2⟩,λ_=>?_⟩;grind[Qj,Yb]
   ·have e0:eA x=2:=by
     simp_all[eA,omQ]
    rw[e0,e1 W.st];simp
   ·have h1:=W.loc;have h2:=LW (p:=Qn S E.M x.ad);refine Nat.le_trans (Nat.le_of_eq (congrArg (λk=>k+0+1) (XY (M:=E.M) rfl rfl))) ?_;rw[Al (x:=x) omQ,s2];grind
 rw[iQ s2]at hn ⊢;by_cases s7:x.state=7
 ·rw[iJ s7]at hn ⊢;cases hn;rw[Qh omQ omQ];refine .go 0 1 ⟨.same rfl rfl,.inr ⟨rfl,0,by grind,?_⟩,?_,?_,.inl ?_,id,λh=>absurd s7 h⟩
  ·simp
  ·rw[e1 (x:=x) omQ];exact Nat.le_refl _
  ·rw[Hp (x:=x) s7];show 0+0+1≤15;simp
  ·have d1:zR { x with state:=8 }=if x.fin=5 then some x.ch else none:=iJ (.inr rfl)
   simp_all[zR]
 rw[iQ s7]at hn ⊢;have hk:o.kind≤7:=by
  split at hn
  ·grind
  split at hn
  ·unfold kl at hn
   repeat' split at hn
   all_goals cases hn
   all_goals first |(show(1:Int)≤7;simp) |(show(3:Int)≤7;simp)
  ·unfold ko at hn
   repeat' split at hn
   all_goals cases hn
   all_goals first |(show(6:Int)≤7;simp) |(show(3:Int)≤7;simp)
 by_cases s3:x.state=3
 ·rw[iJ s3];grind[Hq,Ak]
 ·rw[iQ s3];refine jKR A I O Q ?_ Ht R (Ak hk);grind
end
section
variable {S:jz} {n:Int} {w0:List Int} {E:Env} {i:Nat} {M M':jX} {c d:q9} {x y:qf} {a:cE} {o:dG} {t u:qd}
open Classical in
noncomputable def bA (M:jX) (al:Bool) (x:qf):Nat:=if(zR x).isSome=true then 1 else if xY M x.r then 2 else if al=true then 1 else 0
open Classical in
noncomputable def bT (M:jX) (t:qd):Nat :=
 if t.state=1 then(match t.now with |some x=>bA M t.cH x |none=>0)
 else if t.state=4 then(match t.now with |some x=>if xY M x.r then 2 else 0 |none=>0)
 else if t.state=6 then 0 else 1
def eT (t:qd):Nat:=if t.state=1 then(match t.now with |some x=>eA x |none=>0)else 0
noncomputable def vA (S:jz) (t:qd) (M:jX):Nat :=
 if t.state=1 then(match t.now with |some x=>vi S x M |none=>0)
 else if t.state=2 then(if t.aX=true then 12 else 13)
 else if t.state=3 then t.br.toNat
 else if t.state=5 then(t.set.ag-(t.ah.length:Int)).toNat+1 else 0
def iN (M:jX) (t:qd) (j:Nat):Prop :=
 qg M.s j≠0∧((t.state=1∧∃x,t.now=some x∧zR x=some (j:Int))∨(t.state=2∧t.ch=j∧(t.aX=true→t.since=qg M.s j)))
open Classical in
noncomputable def QP (M:jX) (t:qd) (j:Nat):Nat:=if iN M t j then 0 else 1
theorem qw5 (h:iN M t j):QP M t j=0:=iJ h
theorem Xm (h:¬iN M t j):QP M t j=1:=iQ h
theorem ku:QP M t j≤1:=by grind[QP]
theorem we (h:iN M t j→iN M' u j):QP M' u j≤QP M t j:=by
 by_cases h':iN M t j
 all_goals simp_all[qw5,Xm,ku]
def OV (t:qd):Prop:=t.state=1∧∃x,t.now=some x∧Oq x
theorem LY (h1:t.state=1) (hx:t.now=some x):bT M t=bA M t.cH x:=by simp_all[bT]
theorem Wu (h1:t.state=1) (hx:t.now=some x):eT t=eA x:=by simp_all[eT]
theorem CC (h1:t.state≠1):eT t=0:=iQ h1
theorem Wv (h1:t.state=1) (hx:t.now=some x):vA S t M=vi S x M:=by simp_all[vA]
open Classical in
theorem bT4 (h4:t.state=4) (hx:t.now=some x):bT M t=if xY M x.r then 2 else 0:=by unfold bT;rw[iQ omQ,iJ h4,hx]
theorem OZ (h:t.state=2∨t.state=3∨t.state=5):bT M t=1:=by unfold bT;grind
theorem Hu:bA M al x≤2:=by
 grind[bA]
structure CD (S:jz) (M:jX) (u:qd):Prop where
  b:bT M u=0
  e:eT u≤3
  loc:vA S u M≤8*S.words.toNat+374
  s:∀M' j,¬iN M' u j
  w:¬OV u
  st:u.state=1→∃x,u.now=some x∧x.state=0∧x.c=none∧zR x=none∧x.r=[]
theorem Q2 (SO:xZ S) (hS:t.set=S):CD S M (zO t):=by
 have hH:jO t.set=S:=by grind[kF]
 have d0:∀{x:qf},x.state=0→zR x=none:=λh=>wD omQ;unfold zO
 split
 ·exact⟨rfl,by show(0:Nat)≤3;simp,by show 0≤_;simp,λM' j h=>(by rcases h.2 with⟨h,_⟩ |⟨h,_⟩<;>cases h),λh=>(by cases h.1),λh=>by grind⟩
 ·have key:∀x:qf,(∃me j,x=NZ me S j)→CD S M { t with born:=0,cH:=false,state:=1,now:=some x }:=λx ⟨me,j,hx⟩=>by
   have hs:x.state=0:=by rw[hx];rfl
   have hr:x.r=[]:=by rw[hx];rfl
   have hc:x.c=none:=by rw[hx];rfl
   have hv:x.v.sz=S.words.toNat:=by rw[hx];have:=SO.words;show fV S.words=_;grind[fV]
   refine⟨?_,?_,?_,λM' j h=>?_,λh=>?_,λ_=>⟨x,rfl,hs,hc,d0 hs,hr⟩⟩
   ·rw[LY (x:=x) rfl rfl];unfold bA;rw[d0 hs,iQ od,iQ (λ⟨z,hz,_⟩=>by grind)];rfl
   ·rw[Wu (x:=x) rfl rfl];simp_all[eA]
   ·rw[Wv (x:=x) rfl rfl,Al omQ,hv];omega
   ·rcases h.2 with⟨_,z,hz,hd⟩ |⟨h,_⟩
    all_goals grind
   ·obtain⟨_,z,hz,hw⟩:=h;have hz:=Option.some.inj hz;subst hz;rcases hw with hw |⟨hw,_⟩
    all_goals grind[zZ]
  grind[QZ,VL,YP,Qm]
theorem OJ (SO:xZ S) (hS:t.set=S):CD S M (xw t):=Q2 SO hS
inductive Hv (S:jz) (M:jX) (u:qd):Prop
  |new (N:CD S M u)
  |rest (st:u.state=3) (p:u.br.toNat≤8)
theorem qX7 (SO:xZ S) (hS:t.set=S) (dr:Int) (_:0≤dr):Hv S M (xE t dr):=by
 unfold xE
 split
 ·exact .new (Q2 SO hS)
 ·refine .rest rfl ?_;show(dr%(vI t.aI+1)).toNat≤8;have h1:1≤vI t.aI∧vI t.aI≤8:=by
   grind[vI]
  have:=Int.emod_lt_of_pos dr (b:=vI t.aI+1) omQ;omega
structure LZ (S:jz) (M:jX) (t:qd) (i:Nat) (M':jX) (u:qd) (k q r:Nat) (d:Option Nat):Prop where
  E:lq S M M' i k
  sl:(q=0∧M'.s=M.s)∨(q=1∧∃v,M'.s=M.s.set i v)
  e:eT u+q≤eT t+3*r
  b:bT M u+r≤bT M t+(if d.isSome=true then 1 else 0)
  L:vA S u M'+k+1≤vA S t M+(8*S.words.toNat+376)*r
  s:∀j:Nat,QP M u j+(if d=some j then 1 else 0)≤QP M t j
  d:∀j,d=some j→j<i
inductive Ww (S:jz) (M:jX) (t:qd) (i:Nat) (M':jX) (u:qd):Prop
  |iU (h:OV u)
  |idle (e:u=t) (hl:M'.l=M.l) (hn:M'.n=M.n) (hs:M'.s=M.s) (h:(t.state=4∨t.state=6)∨(∃o,vU S M o∧(i:Int)<o)∨(t.state=2∧∃j:Nat,qg M.s j≠0))
  |go (k q r:Nat) (d:Option Nat) (g:LZ S M t i M' u k q r d)
end
section
variable {S:jz} {w0:List Int} {i:Nat} {M M':jX} {x y:qf} {o:dG} {t u:qd} {m:zl} {G:QT} {dr pk:Int}
def Hw (m:zl):Prop:=∀(i:Nat) (t:qd),m.t[i]? =some t→(qg m.m.s i≠0↔t.state=1∧∃x,t.now=some x∧1≤x.state∧x.state≤7)
theorem Hv.go (P:Hv S M u) {q:Nat} (hb:1≤bT M t) (hl:9≤vA S t M) (E:lq S M M' i 0) (sl:(q=0∧M'.s=M.s)∨(q=1∧∃v,M'.s=M.s.set i v)) (he:q≤eT t) (hM:M'.l=M.l∧M'.n=M.n) (hs:∀j,¬iN M t j):∃r,LZ S M t i M' u 0 q r none:=by
 have st:∀{j:Nat} {d:Option Nat},d=none→QP M u j+(if d=some j then 1 else 0)≤QP M t j:=λ{j d} hd=>by
  grind[Xm,ku]
 cases P with
 |new N=>
  refine⟨1,E,sl,by have:=N.e;omega,by rw[N.b];grind,?_,λj=>st rfl,λj h=>by grind⟩;have h:vA S u M'=vA S u M:=by
   grind[vA,XY]
  rw[h];have:=N.loc;omega
 |rest h3 hp=>
  refine⟨0,E,sl,by rw[CC omQ];omega,by simp_all[OZ],?_,λj=>st rfl,λj h=>by grind⟩;have h:vA S u M'=u.br.toNat:=by unfold vA;grind
  grind
theorem qvs (SO:xZ S) (hS:t.set=S) (h8:y.state=8) (hf:y.fin=3∨y.fin=5) (hd:0≤dr) :
  (y.fin=5∧(zP t y dr pk).state=2∧(zP t y dr pk).ch=y.ch∧(zP t y dr pk).aX=false)∨
  (y.fin=5∧¬(0≤y.ch∧y.ch<S.ag)∧Hv S M (zP t y dr pk))∨
  (y.fin=3∧t.cH=true∧CD S M (zP t y dr pk))∨
  (y.fin=3∧(zP t y dr pk).state=4∧(zP t y dr pk).now=t.now):=by
 have e1:jh y=y.fin:=by simp_all[jh]
 have e2:Qw y=y.ch:=by simp_all[Qw]
 unfold zP;dsimp only;rw[e1,e2];rcases hf with h3 |h5
 ·rw[iQ omQ,iJ h3];cases ha:t.cH with
  |true=>rw[iJ rfl];exact .inr (.inr (.inl ⟨h3,rfl,Q2 SO hS⟩))
  |false=>grind
 ·rw[iJ h5];by_cases hb:0≤y.ch∧y.ch<t.set.ag
  ·grind
  simp_all[iQ,qX7]
theorem qyu (SO:xZ S) (hS:t.set=S) (h5:t.state=5):CD S M (yQ t)∨((yQ t).state=5∧(yQ t).set=t.set∧t.ah.length≤(yQ t).ah.length∧((yQ t).ah.length:Int)<t.set.ag):=by
 have key:∀u:qd,u.set=S→u.state=5→CD S M (yG u)∨((yG u).state=5∧(yG u).set=u.set∧(yG u).ah=u.ah∧(u.ah.length:Int)<u.set.ag):=λu hu h5=>by
  unfold yG
  split
  ·grind
  grind[OJ,Q2]
 unfold yQ
 grind
theorem qWU {p:Int} (h0:0≤p) (h1:p<M.s.length):qF M (bz 8 p 0)=(⟨qg M.s p,bK,false,0⟩,{ M with aT:=M.aT+1 }):=by
 have e':yR M (bz 8 p 0)=(⟨qg M.s p,bK,false,0⟩,M):=by unfold yR;rw[iQ (by nofun),iQ (by nofun),iQ (by nofun),iJ (.inl rfl)];unfold VO;rw[iQ (by show¬(p<0∨(M.s.length:Int)≤p);omega),iJ (show(bz 8 p 0).kind=8 from rfl)];rfl
 rw[ve,e'];rfl
theorem Og (h:w.length≤j):qg w (j:Int)=0:=by simp_all[qg,omQ]
theorem Jm (h:zR x=some z):bA M al x=1:=iJ (by grind)
theorem QY (h:zR x=none) (hs:xY M x.r):bA M al x=2:=by simp_all[bA]
theorem Vm (h:zR x=none) (hs:¬xY M x.r):bA M al x=if al=true then 1 else 0:=by simp_all[bA]
theorem jKC (K:UL m) (Z:Aj w0 m G) (SL:Hw m) (ht:m.t[i]? =some t) (Q:∀x,t.state=1→t.now=some x→fD x) (hn:jb t=some o) (hw:¬OV t) (hd:0≤dr) :
  Ww m.s m.m t i (qF m.m o).2 (jQ t (qF m.m o).1 dr pk):=by
 obtain⟨O,W,L⟩:=K.t i t ht;have hi:=(List.getElem?_eq_some_iff.1 ht).1;have hlen:=K.len;have rW:i<4:=by have:=K.th;omega
 have ng:=Z.len;have SO:=K.so;have hS:=L.set;have cd:=O.st;by_cases h1:t.state=1
 ·obtain⟨x,hx⟩:∃x,t.now=some x:=by
   cases h:t.now with
   |none=>exact absurd h (O.c omQ).some
   |some x=>simp
  have OA:=((O.c omQ).now x hx).1;have bQ:jd x=some o:=by simp_all[jb]
  have A:=(Z.t i t ht).a h1 x hx;have hC:(yI m G).C i=vY x:=by refine Eq.trans ?_ (KA h1 hx);show(m.t[i]?).bind yV=_;grind
  have mc:x.me=(i:Int):=A.ai.lk.me;have hq:=Q x h1 hx;have CA:¬Oq x:=λh=>hw ⟨h1,x,hx,h⟩;have bt:=LY (M:=m.m) h1 hx;have et:=Wu h1 hx;have lt:=Wv (S:=m.s) (M:=m.m) h1 hx;have dl:jQ t (qF m.m o).1 dr pk=zU t x (qL x (qF m.m o).1) dr pk:=by simp_all[jQ]
  have sk:∀j,iN m.m t j↔qg m.m.s j≠0∧zR x=some (j:Int):=λj=>by
   constructor
   ·rintro⟨a,⟨_,z,hz,b⟩ |⟨b,_⟩⟩
    all_goals grind
   ·rintro⟨a,b⟩;exact⟨a,.inl ⟨h1,x,hx,b⟩⟩
  by_cases s7:x.state=7
  ·--it goes
   have ho:o=bz 9 x.me 0:=by simp_all[jd,omQ]
   have hf:x.fin=3∨x.fin=5:=by
    rcases hq.o s7 with h |h |h |h
    ·exact absurd (.inr ⟨s7,.inl h⟩) CA
    ·grind
    ·exact absurd (.inr ⟨s7,.inr h⟩) CA
    grind
   have dx:zR x=if x.fin=5 then some x.ch else none:=iJ (.inl s7)
   have hm:qF m.m o=(dM,{ m.m with s:=m.m.s.set i 0,aT:=m.m.aT+1 }):=by rw[ho,Qh omQ omQ,mc];rfl
   have ey:qL x dM={ x with state:=8 }:=by unfold qL;rw[iQ omQ,iQ (λh=>h rfl),iQ omQ,iQ omQ,iQ omQ,iJ s7]
   rw[dl,hm];dsimp only;rw[ey];unfold zU;dsimp only;have e0:jh { x with state:=8 }=x.fin:=by rfl
   rw[iQ (by grind)];rw[e1 (x:=x) omQ]at et;rw[Hp s7]at lt;have same:lq m.s m.m { m.m with s:=m.m.s.set i 0,aT:=m.m.aT+1 } i 0:=.same rfl rfl;have sl:(1=0∧m.m.s.set i 0=m.m.s)∨(1=1∧∃v,m.m.s.set i 0=m.m.s.set i v):=.inr ⟨rfl,0,rfl⟩;have A4:∀{u:qd},Hv m.s m.m u→1≤bT m.m t→(∀j,¬iN m.m t j)→Ww m.s m.m t i { m.m with s:=m.m.s.set i 0,aT:=m.m.aT+1 } u:=λP hb hs=>by
    obtain⟨r,g⟩:=P.go (q:=1) hb omQ same sl omQ ⟨rfl,rfl⟩ hs;exact .go 0 1 r none g
   rcases qvs (M:=m.m) (t:={ t with now:=some { x with state:=8 },born:=if x.begun=true∧x.begun=false then pk else t.born }) (y:={ x with state:=8 }) (pk:=pk) SO hS rfl hf hd with⟨h5,u2,ub,uy⟩ |⟨h5,hb,P⟩ |⟨h3,ha,N⟩ |⟨h3,u4,un⟩
   ·have h5:x.fin=5:=h5;rw[iJ h5]at dx;refine .go 0 1 0 none ⟨same,sl,by rw[CC omQ];omega,?_,?_,λj=>?_,λj h=>by grind⟩
    ·simp_all[OZ,bA]
    ·rw[lt];unfold vA;grind
    ·refine we λh=>?_;obtain⟨a,b⟩:=(sk j).1 h;rw[dx]at b;refine⟨a,.inr ⟨u2,?_,λh=>by grind⟩⟩;grind
   ·have h5:x.fin=5:=h5;rw[iJ h5]at dx;refine A4 P ?_ λj h=>?_
    ·simp_all[bA]
    ·obtain⟨a,b⟩:=(sk j).1 h;rw[dx]at b;have b:=Option.some.inj b;have hb:¬(0≤x.ch∧x.ch<m.s.ag):=hb;exact a (Og omQ)
   ·have h3:x.fin=3:=h3;rw[iQ omQ]at dx;refine A4 (.new N) ?_ λj h=>?_
    ·rw[bt];unfold bA;grind
    grind
   ·have h3:x.fin=3:=h3;rw[iQ omQ]at dx;refine .go 0 1 0 none ⟨same,sl,by rw[CC omQ];omega,?_,?_,λj=>?_,λj h=>by grind⟩
    ·rw[bT4 u4 (x:={ x with state:=8 }) un,bt];by_cases Dx:xY m.m x.r
     ·rw[iJ (show xY m.m ({ x with state:=8 }:qf).r from Dx)];simp_all[bA,od]
     grind
    ·simp_all[vA,omQ]
    grind[we]
  ·--it goes on
   have own:∀z,0≤z→z<m.s.ae→(qP (yI m G).M.l z).2=(true,(i:Int))→QI x z:=λz z0 z1 h=>by
    obtain⟨i',t',h2,h3,h4⟩:=K.held z z0 z1 (congrArg Prod.fst h);have e:(qP m.m.l z).2.2=(i:Int):=congrArg Prod.snd h;have:i'=i:=by omega
    subst this;rw[ht]at h3;cases h3;obtain⟨_,x',rJ,hh⟩:=h4;grind
   have G1:=jVA SO Z.mem A.ai OA hq rW (by show(i:Int)<m.m.s.length;omega) hC own CA bQ;have G1:Vj m.s m.m x i (qF m.m o).2 (qL x (qF m.m o).1):=G1;rw[dl];clear dl;generalize qL x (qF m.m o).1=y at*;have told:y.state≠8→zU t x y dr pk={ t with now:=some y,born:=if y.begun=true∧x.begun=false then pk else t.born }:=λh8=>by
    simp_all[zU,jh]
   cases G1 with
   |iU h=>
    have h8:y.state≠8:=λh8=>by
     rcases h with h |⟨h,_⟩
     all_goals simp_all[ql,iV]
    rw[told h8];exact .iU ⟨h1,y,rfl,h⟩
   |idle e hl ou eD o' h ho=>
    subst e;have h8:y.state≠8:=λh8=>by
     simp_all[jd,omQ]
    rw[told h8];refine .idle ?_ hl ou eD (.inr (.inl ⟨o',h,ho⟩));rw[iQ (λh=>by grind),← hx]
   |go k q g=>
    have y7:=g.st s7;rw[told omQ];have key:∀d:Option Nat,(∀j,d=some j→j<i)→bA m.m t.cH y≤bA m.m t.cH x+(if d.isSome=true then 1 else 0)→(∀j,(iN m.m { t with now:=some y,born:=if y.begun=true∧x.begun=false then pk else t.born } j→iN m.m t j)→True)→
      (∀j,QP m.m { t with now:=some y,born:=if y.begun=true∧x.begun=false then pk else t.born } j+(if d=some j then 1 else 0)≤QP m.m t j)→Ww m.s m.m t i (qF m.m o).2 { t with now:=some y,born:=if y.begun=true∧x.begun=false then pk else t.born }:=λd hd hb _ hs=>by
     refine .go k q 0 d ⟨g.E,?_,?_,?_,?_,hs,hd⟩
     ·rcases g.sl with⟨a,b,_⟩ |⟨a,v,b,_⟩
      ·grind
      ·exact .inr ⟨a,v,by trivial⟩
     ·rw[Wu (t:={ t with now:=some y,born:=if y.begun=true∧x.begun=false then pk else t.born }) (x:=y) h1 rfl,et];exact g.e
     ·rw[LY (t:={ t with now:=some y,born:=if y.begun=true∧x.begun=false then pk else t.born }) (x:=y) h1 rfl,bt];grind
     ·rw[Wv (t:={ t with now:=some y,born:=if y.begun=true∧x.begun=false then pk else t.born }) (x:=y) h1 rfl,lt];have:=g.L;omega
    have sky:∀j,iN m.m { t with now:=some y,born:=if y.begun=true∧x.begun=false then pk else t.born } j↔qg m.m.s j≠0∧zR y=some (j:Int):=λj=>by
     constructor
     ·rintro⟨a,⟨_,z,hz,b⟩ |⟨b,_⟩⟩
      all_goals grind
     ·rintro⟨a,b⟩;exact⟨a,.inl ⟨h1,y,rfl,b⟩⟩
    rcases g.D with D |⟨d0,⟨j,D,hj,hh⟩ |⟨D,hs⟩⟩
    ·refine key none (λj h=>by grind) ?_ (λ_ _=>trivial) λj=>we λh=>?_
     ·cases hd:zR x with
      |some z=>simp_all[Jm,Nat.le_add_right]
      |none=>
       by_cases hy:xY m.m y.r
       ·rw[QY hd (g.r hy),QY (D.trans hd) hy];simp
       ·rw[Vm (D.trans hd) hy];by_cases hz:xY m.m x.r
        ·grind[QY]
        simp_all[Vm,Nat.le_add_right]
     grind
    ·obtain⟨z,z0,z1,hz⟩:=hh;obtain⟨j',t',h2,h3,h4⟩:=K.held z z0 z1 (congrArg Prod.fst hz);have e:(qP m.m.l z).2.2=j:=congrArg Prod.snd hz;have ej:j=(j':Int):=by omega
     subst ej;have sI:qg m.m.s j'≠0:=by obtain⟨a1,x',a2,a3,_⟩:=h4;exact(SL j' t' h3).2 ⟨a1,x',a2,by omega,by omega⟩
     refine key (some j') (λq h=>by grind) ?_ (λ_ _=>trivial) λq=>?_
     ·simp_all[Jm,Nat.le_add_left]
     ·rw[Xm (t:=t) λh=>by grind];by_cases hq:j'=q
      ·subst hq;rw[qw5 ((sky j').2 ⟨sI,D⟩),iJ rfl];simp
      ·rw[iQ (λh=>hq (Option.some.inj h))];exact ku
    ·refine key none (λj h=>by grind) ?_ (λ_ _=>trivial) λj=>?_
     all_goals grind[Jm,QY,Xm,ku]
 have ne1:eT t=0:=CC h1;have nk:∀k,(qF m.m (bz 8 k 0)).2.l=m.m.l:=λk=>(V4 (.inr (.inr (.inr (.inl rfl))))).2.1;by_cases h2:t.state=2
 ·--it yields
  have ho:o=bz 8 t.ch 0:=by simp_all[jb]
  obtain⟨b0,b1⟩:=O.Tc h2;rw[hS]at b1;rw[ho,qWU b0 omQ];have lt:12≤vA m.s t m.m∧(t.aX=false→vA m.s t m.m=13):=by unfold vA;grind
  unfold jQ;rw[iQ h1,iJ h2];dsimp only;obtain⟨j,hj⟩:∃j:Nat,t.ch=(j:Int):=⟨t.ch.toNat,by omega⟩;by_cases hc:(0:Int)=0∧qg m.m.s t.ch≠0∧(t.aX=false∨qg m.m.s t.ch=t.since)
  ·rw[iJ hc];cases hy:t.aX with
   |true=>
    have e:qg m.m.s t.ch=t.since:=by
     grind
    refine .idle ?_ rfl rfl rfl (.inr (.inr ⟨h2,j,by grind⟩));rw[e,← hy]
   |false=>
    refine .go 0 0 0 none ⟨.same rfl rfl,.inl ⟨rfl,rfl⟩,Nat.le_trans (Nat.le_of_eq (CC (by grind))) (Nat.zero_le _),Nat.le_trans (Nat.le_of_eq (OZ (by grind))) (Nat.le_trans (Nat.le_of_eq (OZ (t:=t) (.inl h2)).symm) (Nat.le_add_right _ _)),?_,λq=>we ?_,λj h=>by grind⟩
    ·rw[lt.2 hy];unfold vA;grind
    ·rintro⟨a,⟨h,_⟩ |⟨_,hb,_⟩⟩
     ·grind
     ·exact⟨a,.inr ⟨h2,hb,λ_=>by grind⟩⟩
  ·rw[iQ hc]
   obtain⟨r,g⟩:=(qX7 (M:=m.m) (t:=t) SO hS dr hd).go (q:=0) (t:=t) (i:=i) (M':={ m.m with aT:=m.m.aT+1 }) (by simp_all[OZ]) omQ (.same rfl rfl) (.inl ⟨rfl,rfl⟩) (Nat.zero_le _) ⟨rfl,rfl⟩ (by
    rintro q ⟨a,⟨h,_⟩ |⟨_,hb,hs⟩⟩
    all_goals grind)
   exact .go 0 0 r none g
 have h5:t.state=5:=by
  simp_all[jb]
 have ho:o=bz 8 t.ah.length 0:=by simp_all[jb]
 obtain⟨s0,_⟩:=O.Lz h5;rw[hS]at s0;rw[ho,qWU omQ omQ];have lt:vA m.s t m.m=(t.set.ag-(t.ah.length:Int)).toNat+1:=by simp_all[vA,omQ]
 unfold jQ;rw[iQ h1,iQ h2,iJ h5];dsimp only;have ns:∀j,¬iN m.m t j:=λj=>by
  rintro⟨a,⟨h,_⟩ |⟨h,_⟩⟩
  all_goals grind
 rcases qyu (M:=m.m) (t:={ t with ah:=t.ah++[if(0:Int)≠0 then 0 else qg m.m.s t.ah.length] }) SO hS h5 with N |⟨u5,us,ul,ut⟩
 ·have hb:bT m.m t=1:=OZ (.inr (.inr h5));refine .go 0 0 1 none ⟨.same rfl rfl,.inl ⟨rfl,rfl⟩,by have:=N.e;omega,by rw[N.b,hb];simp,?_,λj=>by grind[Xm,ku],λj h=>by grind⟩;have h:∀u:qd,u.state≠5∨True→vA m.s u { m.m with aT:=m.m.aT+1 }=vA m.s u m.m:=λu _=>by
   rfl
  rw[h _ (.inr trivial)];have:=N.loc;omega
 ·refine .go 0 0 0 none ⟨.same rfl rfl,.inl ⟨rfl,rfl⟩,by rw[CC omQ];omega,by simp_all[OZ],?_,λj=>by grind[Xm,ku],λj h=>by grind⟩;rw[lt];unfold vA;grind
end
section
variable {S:jz} {w0:List Int} {i:Nat} {M M':jX} {E:Env} {x y:qf} {a:cE} {o:dG} {t u:qd} {m:zl} {G:QT} {dr pk:Int}
def DF (t:qd):Prop:=t.state=1∧∃x,t.now=some x∧1≤x.state∧x.state≤7
def DG (t:qd):Prop:=t.state=1→∀x,t.now=some x→fD x∧x.state≤7
theorem MJ (h:ow t):¬DF t:=λ⟨h1,x,hx,h2,_⟩=>by
 obtain⟨me,S,j,rfl⟩:=h h1 x hx;trivial
theorem Hx (h:ow t):DG t:=λh1 x hx=>by
 obtain⟨me,S,j,rfl⟩:=h h1 x hx;exact⟨.none (.inl (by show(0:Int)≤2;simp)),by show(0:Int)≤7;simp⟩
theorem NA (h:x.state≤7):(q8 x).state≤7:=by
 have hs:∀y:qf,y.state≤7→(jV y).state≤7:=λy hy=>by grind[Gt]
 have hw:∀y:qf,(zn y).state≤7:=λy=>by
  unfold zn yX
  split
  ·show(3:Int)≤7;simp
  ·split
   ·show(5:Int)≤7;simp
   ·split
    ·show(7:Int)≤7;simp
    ·split
     ·show(7:Int)≤7;simp
     simp
 unfold q8;refine hs _ ?_
 split
 ·grind
 ·split
  ·show(7:Int)≤7;simp
  ·unfold jr
   split
   ·unfold jt
    split
    ·show(4:Int)≤7;simp
    ·split
     ·grind
     ·split
      ·show(7:Int)≤7;simp
      ·show(7:Int)≤7;simp
   ·split
    ·show(3:Int)≤7;simp
    ·split
     ·show(7:Int)≤7;simp
     ·split
      ·show(7:Int)≤7;simp
      grind
theorem qw3 (SO:xZ S) (I:zt S w0 E) (A:xx S w0 E i x) (O:zG x) (hi:i<4) (hs:(i:Int)<E.M.s.length) (h7:x.state≤7) (hn:jd x=some o) :
  (((qF E.M o).2.s=E.M.s∧1≤x.state∧1≤(qL x (qF E.M o).1).state)∨∃v,(qF E.M o).2.s=E.M.s.set i v∧(v≠0↔1≤(qL x (qF E.M o).1).state∧(qL x (qF E.M o).1).state≤7))∧
  (x.state≠7→(qL x (qF E.M o).1).state≤7):=by
 have ha:=A.err I O hi hs hn;have cd:=O.st;have mc:x.me=(i:Int):=A.lk.me;have dl:qL x (qF E.M o).1=if x.state=0 then{ x with state:=1 }else if x.state=1 then{ x with begun:=true,bB:=(qF E.M o).1.word,ad:=(qF E.M o).1.word,state:=2 }else if x.state=2 then zn x
   else if x.state=7 then{ x with state:=8 }else if x.state=3 then q8 { x with f:=jP x.f (qF E.M o).1 }else if x.state=6 then q8 { x with c:=x.c.map λc=>qn c (qF E.M o).1 }else q8 { x with e:=zw x.e (qF E.M o).1 }:=by
  unfold qL;grind
 have bg:=Ui (x:=x) (a:=(qF E.M o).1);unfold jd at hn;by_cases s0:x.state=0
 ·rw[iJ s0]at hn dl;cases hn;rw[dl,Qh omQ omQ,mc];exact⟨.inr ⟨1,rfl,λ_=>(by simp),λ_=>by simp⟩,λ_=>by simp⟩
 rw[iQ s0]at hn dl;by_cases s1:x.state=1
 ·rw[iJ s1]at hn dl;cases hn;rw[dl,LS];grind
 rw[iQ s1]at hn dl;have bg:=(bg omQ).s;by_cases s2:x.state=2
 ·rw[iJ s2]at hn dl;cases hn;have w7:(zn x).state≤7:=by
   unfold zn yX
   split
   ·show(3:Int)≤7;simp
   ·split
    ·show(5:Int)≤7;simp
    ·split
     ·show(7:Int)≤7;simp
     ·split
      ·show(7:Int)≤7;simp
      simp
  rw[dl]at bg ⊢;refine⟨.inr ⟨xy .u64 (x.ad+1),by simp_all[Qh,omQ],λ_=>⟨by omega,w7⟩,λ_=>?_⟩,λ_=>w7⟩;have t:=A.t omQ;have:=SO.start;have:=I.ml.n;grind[Qj,Yb]
 rw[iQ s2]at hn dl;by_cases s7:x.state=7
 ·rw[iJ s7]at hn dl;cases hn;rw[dl,Qh omQ omQ,mc];grind
 rw[iQ s7]at hn dl;have hk:o.kind≤7:=by
  split at hn
  ·grind
  split at hn
  ·unfold kl at hn
   repeat' split at hn
   all_goals cases hn
   all_goals first |(show(1:Int)≤7;simp) |(show(3:Int)≤7;simp)
  split at hn
  ·cases hx:x.c with
   |none=>grind
   |some c=>rw[hx]at hn;exact qXL hn
  ·unfold ko at hn
   repeat' split at hn
   all_goals cases hn
   all_goals first |(show(6:Int)≤7;simp) |(show(3:Int)≤7;simp)
 grind[Ak,NA,jP,qF,qn]
theorem Hy (h:o.kind=8):(qF M o).2.s=M.s:=by
 have e:(yR M o).2.s=M.s:=by
  unfold yR;rw[iQ omQ,iQ omQ,iQ omQ,iJ (.inl h)];unfold VO
  grind
 grind[ve]
theorem qZ3 (K:UL m) (Z:Aj w0 m G) (SL:qg m.m.s i≠0↔DF t) (Q:DG t) (ht:m.t[i]? =some t) (hn:jb t=some o) :
  ((qF m.m o).2.s=m.m.s∨∃v,(qF m.m o).2.s=m.m.s.set i v)∧(qg (qF m.m o).2.s i≠0↔DF (jQ t (qF m.m o).1 dr pk))∧DG (jQ t (qF m.m o).1 dr pk):=by
 obtain⟨O,W,L⟩:=K.t i t ht;have hi:=(List.getElem?_eq_some_iff.1 ht).1;have hlen:=K.len;have rW:i<4:=by have:=K.th;omega
 have ng:=Z.len;by_cases h1:t.state=1
 ·obtain⟨x,hx⟩:∃x,t.now=some x:=by
   cases h:t.now with
   |none=>exact absurd h (O.c omQ).some
   |some x=>simp
  have OA:=((O.c omQ).now x hx).1;have bQ:jd x=some o:=by simp_all[jb]
  have A:=(Z.t i t ht).a h1 x hx;obtain⟨hq,h7⟩:=Q h1 x hx;have ha:(qF m.m o).1.err=0:=A.ai.err Z.mem OA rW (by show(i:Int)<m.m.s.length;omega) bQ;obtain⟨s1,s2⟩:=qw3 K.so Z.mem A.ai OA rW (by show(i:Int)<m.m.s.length;omega) h7 bQ;have s1:((qF m.m o).2.s=m.m.s∧1≤x.state∧1≤(qL x (qF m.m o).1).state)∨∃v,(qF m.m o).2.s=m.m.s.set i v∧(v≠0↔1≤(qL x (qF m.m o).1).state∧(qL x (qF m.m o).1).state≤7):=s1;have s2:x.state≠7→(qL x (qF m.m o).1).state≤7:=s2;have hqy:=hq.dl A.ai.lk (λh=>(A.ai.e h).fin) (λh6 c hc h7=>(A.ai.c h6 c hc).f7 h7) ha OA.st;have dl:jQ t (qF m.m o).1 dr pk=zU t x (qL x (qF m.m o).1) dr pk:=by simp_all[jQ]
  have s7:x.state=7→(qL x (qF m.m o).1).state=8:=λs7=>by
   simp_all[qL,omQ]
  have f7:x.state=7→(qL x (qF m.m o).1).fin=x.fin:=λs7=>by
   simp_all[qL,omQ]
  rw[dl];clear dl;generalize qL x (qF m.m o).1=y at*;refine⟨?_,?_⟩
  ·grind
  have tD:qg (qF m.m o).2.s i≠0↔1≤y.state∧y.state≤7:=by
   rcases s1 with⟨a,b,c⟩ |⟨v,a,b⟩
   ·rw[a,SL];refine⟨λ_=>⟨c,?_⟩,λ_=>⟨h1,x,hx,b,h7⟩⟩;refine s2 λs7'=>?_;have h0:(qF m.m o).2.s=m.m.s.set i 0:=by
     have:o=bz 9 x.me 0:=by simp_all[jd,omQ]
     rw[this,Qh (by have:x.me=(i:Int):=A.ai.lk.me;omega) (by have:x.me=(i:Int):=A.ai.lk.me;omega),show x.me=(i:Int)from A.ai.lk.me];rfl
    have h2:qg m.m.s i=0:=by rw[← a,h0];unfold qg;grind
    grind
   ·rw[a,← b];unfold qg;grind
  rw[tD];by_cases h8:y.state=8
  ·have fr:ow (zU t x y dr pk):=by
    have hx7:x.state=7:=by
     grind
    have hf:=hq.o hx7;have:jh y≠0:=by simp[jh];omega
    simp_all[zU,Wo]
   simp_all[omQ,MJ,Hx]
  ·have told:zU t x y dr pk={ t with now:=some y,born:=if y.begun=true∧x.begun=false then pk else t.born }:=by
    simp_all[zU,jh]
   rw[told];have y7:y.state≤7:=s2 λh=>h8 (s7 h);refine⟨⟨λh=>⟨h1,y,rfl,h⟩,λ⟨_,z,hz,h⟩=>?_⟩,λ_ z hz=>?_⟩
   all_goals grind
 have hk:o.kind=8:=by
  unfold jb at hn;rw[iQ h1]at hn
  split at hn
  ·cases hn;rfl
  ·split at hn
   ·cases hn;rfl
   grind
 have hs:(qF m.m o).2.s=m.m.s:=Hy hk;have fr:ow (jQ t (qF m.m o).1 dr pk):=by
  unfold jQ;rw[iQ h1]
  grind[Jy,Wm,Wn]
 refine⟨.inl hs,?_,Hx fr⟩;rw[hs,SL];exact⟨λh=>absurd h.1 h1,λh=>absurd h (MJ fr)⟩
end
section
variable {S:jz} {w0:List Int} {i:Nat} {M M':jX} {E:Env} {x y:qf} {a:cE} {o:dG} {t u:qd} {m:zl} {G:QT} {dr pk:Int} {c:q9}
theorem Z4 {l:List cK} {v:cK} (h:j<l.length):qP (l.set j v) z=if j=z.toNat then v else qP l z:=by
 unfold qP;grind
theorem Hz (E:lq S M M' me k):k=0∨k=10:=by
 cases E with
 |same=>simp
 |take=>simp
 |tick=>simp
 |drop=>simp
theorem Vp (MO:yu S M) (E:lq S M M' me k) (z:Int):(qP M'.l z).1=(qP M.l z).1:=by
 have hl:=MO.l;have one:∀(j:Int) (b:Bool) (w:Int),0≤j→j<S.ae→(qP (M.l.set j.toNat ((qP M.l j).1,b,w)) z).1=(qP M.l z).1:=λj b w h0 h1=>by
  rw[Z4 omQ]
  grind[qP]
 cases E with
 |same hl hn=>rw[hl]
 |take j h0 h1 hf hl hn=>grind
 |tick hl hn=>rw[hl]
 |drop j h0 h1 hh hl hn=>grind
theorem Xk (MO:yu S M) (E:lq S M M' me k) (r:List zd):xY M' r↔xY M r:=by
 grind[xY,Vp]
theorem qXp (MO:yu S M) (E:lq S M M' me k) (st:Int):Qn S M' st↔Qn S M st:=by
 unfold Qn;constructor
 ·grind[Vp]
 ·rintro⟨z,h0,h1,h2⟩;exact⟨z,h0,h1,by grind[Vp]⟩
theorem qYa {q:Prop} (h:p↔q):mY p=mY q:=by
 grind
theorem jQF {q:Prop} [Decidable p] [Decidable q] (h:p→q):b3 p≤b3 q:=by
 by_cases hp:p
 all_goals simp_all[Hj,Hk,Nat.zero_le]
theorem qwF (MO:yu S M) (E:lq S M M' me k) (hl:l.2=(false,0)):b3 (qP M'.l z≠l)≤b3 (qP M.l z≠l)+(if k=0 then 0 else 3):=by
 have oe:=MO.l;have C8:∀{p q:Prop} [Decidable p] [Decidable q],k=10→b3 p≤b3 q+(if k=0 then 0 else 3):=λ{p q} _ _ hk=>by
  rw[hk,iQ od];exact Nat.le_trans Hi (Nat.le_add_left _ _)
 have low:(qP M'.l z≠l→qP M.l z≠l)→b3 (qP M'.l z≠l)≤b3 (qP M.l z≠l)+(if k=0 then 0 else 3):=λh=>Nat.le_trans (jQF h) (Nat.le_add_right _ _);cases E with
 |same h hn=>grind
 |tick h hn=>grind
 |take j h0 h1 hf h hn=>grind
 |drop j h0 h1 hh h hn=>
  refine low λh1' h2=>h1' ?_;rw[h,Z4 omQ,iQ λe=>?_]
  all_goals grind[qP]
theorem HK (E:lq S M M' me k) {w:Int}:b3 (M'.n≠w)≤b3 (M.n≠w)+(if k=0 then 0 else 3):=by
 cases E with
 |same h hn=>grind
 |tick h hn=>rw[iQ od];exact Nat.le_trans Hi (Nat.le_add_left _ _)
 |take j h0 h1 hf h hn=>grind
 |drop j h0 h1 hh h hn=>grind
theorem qvc (MO:yu S EE.M) (E:lq S EE.M M' me k) (A:xx S w0 EE i x):vi S x M'≤vi S x EE.M+(if k=0 then 0 else 3):=by
 by_cases h2:x.state≤2
 ·simp_all[Al,Nat.le_add_right]
 by_cases h3:x.state=3
 ·rw[Ho h3,Ho h3,qYa (qXp MO E _)];have V:=A.f h3;have:J5 x.f M'≤J5 x.f EE.M+(if k=0 then 0 else 3):=by
   have:GU x.f M'≤GU x.f EE.M+(if k=0 then 0 else 3):=by
    unfold GU;by_cases h:x.f.state=1∨x.f.state=2
    ·rw[iJ h,iJ h];exact qwF MO E (V.lk h).1
    grind
   grind[J5]
  omega
 by_cases h4:x.state=4
 ·rw[Bc h4,Bc h4,qYa (and_congr_right λ_=>qXp MO E _)];simp
 by_cases h5:x.state=5
 ·simp_all[DD,Nat.le_add_right]
 by_cases h6:x.state=6
 ·cases hc:x.c with
  |none=>
   simp_all[vi,Nat.zero_le]
  |some c=>
   rw[DE h6 hc,DE h6 hc];have C:=(A.lk.c h6 c hc).1;have:gd c M'≤gd c EE.M+(if k=0 then 0 else 3):=by
    unfold gd
    split
    ·rename_i s1;exact qwF MO E (C.s1 s1).1
    ·split
     ·exact HK E
     simp
   grind[yn]
 simp_all[vi,iQ,Nat.le_add_right]
theorem Kw (t:qd) (z v:Int):jm t z v=t∨(t.state=4∧(∃x,t.now=some x∧yO x.r z v=true)∧jm t z v=zO t)∨(t.state=1∧(∃x,t.now=some x∧yO x.r z v=true)∧jm t z v={ t with cH:=true }):=by
 unfold jm;grind
structure OGo (S:jz) (M:jX) (t:qd) (M':jX) (u:qd) (k r:Nat):Prop where
  b:bT M' u+r≤bT M t
  e:eT u≤eT t+3*r
  L:vA S u M'≤vA S t M+(if k=0 then 0 else 3)+(8*S.words.toNat+376)*r
  s:∀j:Nat,qg M'.s j=qg M.s j→QP M' u j≤QP M t j
theorem Wx (MO:yu S M) (E:lq S M M' me k) (t:qd):bT M' t=bT M t:=by
 have hb:∀al x,bA M' al x=bA M al x:=λal x=>by
  cases hd:zR x with
  |some z=>grind[Jm]
  |none=>
   grind[xY,QY,Xk,Vm]
 unfold bT;by_cases h1:t.state=1
 ·grind
 rw[iQ h1,iQ h1];by_cases h4:t.state=4
 ·rw[iJ h4,iJ h4];cases t.now with
  |none=>rfl
  |some x=>
   dsimp only;by_cases hs:xY M x.r
   ·rw[iJ hs,iJ ((Xk MO E _).2 hs)]
   ·rw[iQ hs,iQ λh=>hs ((Xk MO E _).1 h)]
 grind
theorem L3 (h:qg M'.s j=qg M.s j):iN M t j→iN M' t j:=λ⟨a,b⟩=>⟨by grind,by grind⟩
theorem jKm (SO:xZ S) (hS:t.set=S) (MO:yu S EE.M) (E:lq S EE.M M' me k) (A:t.state=1→∀x,t.now=some x→xx S w0 EE i x) (hu:u=t∨∃z,u=jm t z (qP EE.M.l z).1) :
  ∃r,OGo S EE.M t M' u k r:=by
 have Bd:∀{x:qf} {z:Int},yO x.r z (qP EE.M.l z).1=true→xY EE.M x.r:=λ{x z} h=>by
  unfold yO at h;rw[List.any_eq_true]at h;obtain⟨y,hy,h⟩:=h;have h:=of_decide_eq_true h;exact⟨y,hy,by grind⟩
 have base:OGo S EE.M t M' t k 0:=by
  refine⟨Nat.le_of_eq (Wx MO E t),Nat.le_refl _,?_,λj h=>we (L3 h)⟩;unfold vA
  split
  ·rename_i h1
   split
   ·rename_i x hx;exact qvc MO E (A h1 x hx)
   simp
  simp
 rcases hu with rfl |⟨z,rfl⟩
 ·grind
 ·rcases Kw t z (qP EE.M.l z).1 with e |⟨h4,⟨x,hx,hs⟩,e⟩ |⟨h1,⟨x,hx,hs⟩,e⟩
  ·grind
  ·rw[e];have N:=Q2 (M:=M') SO hS;refine⟨1,by rw[N.b,bT4 h4 hx,iJ (Bd hs)];simp,by have:=N.e;omega,?_,λj h=>?_⟩
   ·rw[Nat.mul_one];exact Nat.le_trans N.loc (Nat.le_trans (Nat.add_le_add_left od _) (Nat.le_add_left _ _))
   ·rw[Xm (t:=t)]
    ·exact ku
    ·rintro⟨_,⟨h,_⟩ |⟨h,_⟩⟩<;>omega
  ·rw[e];refine⟨0,?_,base.e,base.L,base.s⟩;have hb:=base.b;rw[LY (x:=x) (by grind) (by grind)]at hb ⊢;refine Nat.le_trans ?_ hb;cases hd:zR x with
   |some v=>simp_all[Jm]
   |none=>have cd:=(Xk MO E x.r).2 (Bd hs);simp_all[QY]
end
section
variable {S:jz} {w0:List Int} {i:Nat} {M M':jX} {E:Env} {x y:qf} {a:cE} {o:dG} {t u:qd} {m:zl} {G:QT} {dr pk:Int} {c:q9}
theorem jVs (I:zt S w0 E) (A:xx S w0 E i x) (O:zG x) (hC:E.C i=vY x) (hx:¬Oq x) (hn:jd x=some o) (h5:o.kind=5) :
  0≤o.at_∧o.at_<S.ae∧qP E.M.l o.at_=(o.lk.1,true,(i:Int))∧o.lk.2=(false,0)∧(qF E.M o).2.l=E.M.l.set o.at_.toNat o.lk:=by
 have cd:=O.st;have h6:x.state=6:=by
  by_cases h6:x.state=6
  ·grind
  exfalso;unfold jd at hn
  split at hn
  ·cases hn;cases h5
  split at hn
  ·cases hn;cases h5
  split at hn
  ·cases hn;cases h5
  split at hn
  ·cases hn;cases h5
  split at hn
  ·grind
  split at hn
  ·unfold kl at hn
   repeat' split at hn
   all_goals cases hn
   all_goals cases h5
  unfold ko at hn
  repeat' split at hn
  all_goals cases hn
  all_goals cases h5
 obtain⟨c,hc⟩:∃c,x.c=some c:=by
  cases h:x.c with
  |none=>exact absurd h (O.c6 h6)
  |some c=>simp
 obtain⟨CL,hf⟩:=A.lk.c h6 c hc;have J:=A.c h6 c hc;have dZ:c.writing=false:=by
  cases h:c.writing with
  |false=>rfl
  |true=>exact absurd (.inl (by simp_all[yW,omQ,iG])) hx
 have rV:E.C i=some c:=by simp_all[vY]
 have nw:¬bR c:=λh=>by rw[J.wg.2 h]at dZ;grind
 have bQ:xX c=some o:=by unfold jd at hn;grind
 have s7:c.state=7:=by
  have hs:=CL.ok.st;unfold bR at nw;unfold xX at bQ;rw[iQ (λh'=>h' hf)]at bQ
  split at bQ
  ·cases bQ;cases h5
  split at bQ
  ·grind
  split at bQ
  ·cases bQ;cases h5
  split at bQ
  ·grind
  split at bQ
  ·cases bQ;cases h5
  omega
 have ig:=CL.ok.Dn hf s7;have dJ:=CL.ok.lo;have hle:=CL.ok.aw;have mq:c.at_.toNat<c.aw.length:=by omega
 have e1:qg c.s c.at_=c.s[c.at_.toNat]'omQ:=by have:=GV (ss:=c.s) (k:=c.at_.toNat) omQ;grind
 have e2:qP c.aw c.at_=c.aw[c.at_.toNat]:=by simp_all[qP]
 have ho:o=⟨5,c.s[c.at_.toNat]'omQ,0,0,bK,c.aw[c.at_.toNat]⟩:=by unfold xX at bQ;grind
 obtain⟨z0,z1⟩:=CL.s _ (List.getElem_mem (by omega:c.at_.toNat<c.s.length));have hh:=I.hold i c rV c.at_.toNat _ _ (iW omQ) (iW mq) (λ_=>by omega);have w1:=(CL.aw _ (List.getElem_mem mq)).1;have rG:=(I.ml.lk _ z0 z1).1;have rJ:vn (c.aw[c.at_.toNat]):=by rw[hh,J4]at rG;have:c.aw[c.at_.toNat]=(c.aw[c.at_.toNat].1,false,0):=Prod.ext rfl w1;rw[this,Yh];omega
 rw[ho];refine⟨z0,z1,hh,w1,?_⟩;rw[Oi I.ml z0 z1 rJ]
theorem qXu (I:zt S w0 E) (A:xx S w0 E i x) (O:zG x) (hi:i<4) (h7:x.state≤7):∃o,jd x=some o:=by
 have cd:=O.st;unfold jd;by_cases s0:x.state=0
 ·simp_all
 rw[iQ s0];by_cases s1:x.state=1
 ·simp_all
 rw[iQ s1];by_cases s2:x.state=2
 ·simp_all
 rw[iQ s2];by_cases s7:x.state=7
 ·simp_all
 rw[iQ s7,iQ omQ];by_cases s3:x.state=3
 ·rw[iJ s3];unfold kl;rw[iQ (λh=>h (A.lk.f s3).2)]
  split<;>simp_all
 rw[iQ s3];by_cases h6:x.state=6
 ·rw[iJ h6];cases h:x.c with
  |none=>exact absurd h (O.c6 h6)
  |some c=>obtain⟨CL,hf⟩:=A.lk.c h6 c h;obtain⟨o,ho,_⟩:=Uf I.ml CL omQ hf;grind
 ·rw[iQ h6];unfold ko;rw[iQ (λh=>h (A.e omQ).fin)]
  split<;>simp_all
theorem jQL (SO:xZ S) (hS:t.set=S) (O:xr t) (hn:jb t=none) (h1:t.state≠1):(jK t=t∧(t.state=4∨t.state=6))∨∃r,LZ S M t i M (jK t) 0 0 r none:=by
 have cd:=O.st;have RL:t.state≠2∧t.state≠5:=by
  unfold jb at hn;grind
 by_cases h3:t.state=3
 ·obtain⟨p0,p8⟩:=O.A4 h3;have ns:∀j,¬iN M t j:=λj=>by
   rintro⟨_,⟨h,_⟩ |⟨h,_⟩⟩<;>omega
  have lt:vA S t M=t.br.toNat:=by simp_all[vA,omQ]
  have hb:bT M t=1:=OZ (.inr (.inl h3));refine .inr ?_;unfold jK;rw[iJ h3]
  split
  ·have N:=Q2 (M:=M) (t:={ t with br:=0 }) SO hS;refine⟨1,.same rfl rfl,.inl ⟨rfl,rfl⟩,by have:=N.e;omega,by rw[N.b,hb];simp,?_,λj=>by grind[Xm,ku],λj h=>by grind⟩;rw[Nat.mul_one];exact Nat.le_trans (Nat.add_le_add_right N.loc 1) (Nat.le_trans (Nat.add_le_add_left (by simp:374+1≤376) _) (Nat.le_add_left _ _))
  ·refine⟨0,.same rfl rfl,.inl ⟨rfl,rfl⟩,Nat.le_trans (Nat.le_of_eq (CC (by grind))) (Nat.zero_le _),?_,?_,λj=>by grind[Xm,ku],λj h=>by grind⟩
   ·grind[Nat.le_of_eq,OZ]
   ·rw[lt];unfold vA;grind
 simp[jK];omega
end
section
variable {S:jz} {w0:List Int} {i:Nat} {M M':jX} {t u:qd} {m:zl} {G:QT} {dr:Int}
noncomputable def bO (M:jX):Option qd→Nat
 |some t=>bT M t
 |none=>0
def eO:Option qd→Nat
 |some t=>eT t
 |none=>0
noncomputable def Be (S:jz) (M:jX):Option qd→Nat
 |some t=>vA S t M
 |none=>0
noncomputable def sO (M:jX) (j:Nat):Option qd→Nat
 |some t=>QP M t j
 |none=>0
noncomputable def DH (m:zl):Nat:=16*bO m.m m.t[0]? +5*eO m.t[0]? +(4*bO m.m m.t[1]? +eO m.t[1]? +4*sO m.m 0 m.t[1]?)+(bO m.m m.t[2]? +sO m.m 0 m.t[2]? +sO m.m 1 m.t[2]?)
noncomputable def HL (m:zl):Nat:=Be m.s m.m m.t[0]? +Be m.s m.m m.t[1]? +Be m.s m.m m.t[2]?
noncomputable def ox (m:zl):Nat:=(8*m.s.words.toNat+376)*DH m+HL m
structure Wy (m:zl) (i:Nat) (m':zl):Prop where
  t:m'.t=m.t
  l:m'.m.l=m.m.l
  n:m'.m.n=m.m.n
  s:m'.m.s=m.m.s
  Wz:∃t,m.t[i]? =some t∧((t.state=4∨t.state=6)∨(∃o,vU m.s m.m o∧(i:Int)<o)∨(t.state=2∧∃j:Nat,qg m.m.s j≠0))
structure WA (S:jz) (M:jX) (o:Option qd) (M':jX) (o':Option qd) (k r:Nat):Prop where
  b:bO M' o'+r≤bO M o
  e:eO o'≤eO o+3*r
  L:Be S M' o'≤Be S M o+(if k=0 then 0 else 3)+(8*S.words.toNat+376)*r
  s:∀j:Nat,qg M'.s j=qg M.s j→sO M' j o'≤sO M j o
theorem L4 {o:Option qd}:sO M j o≤1:=by
 cases o with
 |none=>exact Nat.zero_le _
 |some t=>exact ku
theorem qkN {i:Nat} (h:i≠j):qg (w.set i v) (j:Int)=qg w j:=by grind[qg,Int.toNat_natCast,List.getElem?_set_ne]
theorem qxP {m m':zl} (hs:m'.s=m.s) (hi:i<3) (ht:m.t[i]? =some t) (hu:m'.t[i]? =some u) {q r:Nat} {d:Option Nat} (g:LZ m.s m.m t i m'.m u k q r d) (DI:∀j,j≠i→∃r,WA m.s m.m m.t[j]? m'.m m'.t[j]? k r) (hb:bT m'.m u=bT m.m u) :
  ox m'+1≤ox m:=by
 have slot:∀j:Nat,j≠i→qg m'.m.s j=qg m.m.s j:=λj hj=>by
  rcases g.sl with⟨_,h⟩ |⟨_,v,h⟩
  all_goals grind[qkN]
 have own:∀j:Nat,j≠i→QP m'.m u j+(if d=some j then 1 else 0)≤QP m.m t j:=λj hj=>by
  have h1:=g.s j;grind[QP,we,L3]
 have q01:q=0∧m'.m.s=m.m.s∨q=1:=by
  rcases g.sl with⟨a,b⟩ |⟨a,_⟩
  all_goals grind
 have cP:∀(j r:Nat),WA m.s m.m m.t[j]? m'.m m'.t[j]? k r→sO m'.m i m'.t[j]? ≤sO m.m i m.t[j]? +q:=λj r h=>by
  rcases q01 with⟨a,b⟩ |a
  ·have:=h.s i (by rw[b]);omega
  grind[L4]
 have kk:(if k=0 then 0 else 3)+(if k=0 then 0 else 3)≤k:=by
  rcases Hz g.E with h |h
  all_goals grind
 have gb:=g.b;have ge:=g.e;have gL:=g.L;have fin:∀(A A' L L' R:Nat),A'+R≤A→L'+1≤L+(8*m.s.words.toNat+376)*R→(8*m.s.words.toNat+376)*A'+L'+1≤(8*m.s.words.toNat+376)*A+L:=λA A' L L' R h1 h2=>by
  have h3:=Nat.mul_le_mul_left (8*m.s.words.toNat+376) h1;grind
 have d1:∀{j:Nat},d=some j→j<i:=λh=>g.d _ h;unfold ox DH HL;rw[hs];have e0:∀{M:jX},m.t[i]? =some t:=ht;rcases(by omega:i=0∨i=1∨i=2)with rfl |rfl |rfl
 ·obtain⟨r1,o1⟩:=DI 1 od;obtain⟨r2,o2⟩:=DI 2 od;have hd:d=none:=by
   cases h:d with
   |none=>rfl
   |some j=>grind
  rw[hd,iQ od]at gb;refine fin _ _ _ _ (r+(r1+r2)) ?_ ?_
  ·rw[ht,hu];show 16*bT m'.m u+5*eT u+_+_+_≤16*bT m.m t+5*eT t+_+_;have a1:=o1.b;have a2:=o1.e;have a3:=cP 1 r1 o1;have a4:=o2.b;have a5:=cP 2 r2 o2;have a6:=o2.s 1 (slot 1 od);grind
  ·rw[ht,hu,Nat.mul_add,Nat.mul_add];show vA m.s u m'.m+_+_+1≤vA m.s t m.m+_+_+_;have a1:=o1.L;have a2:=o2.L;omega
 ·obtain⟨r0,o0⟩:=DI 0 od;obtain⟨r2,o2⟩:=DI 2 od;have hd:d=none∨d=some 0:=by
   cases h:d with
   |none=>simp
   |some j=>grind
  have BB:(if d.isSome=true then 1 else 0)=(if d=some 0 then 1 else 0):=by
   grind
  rw[BB]at gb;refine fin _ _ _ _ (r0+(r+r2)) ?_ ?_
  ·rw[ht,hu];show 16*_+5*_+(4*bT m'.m u+eT u+4*QP m'.m u 0)+_+_≤16*_+5*_+(4*bT m.m t+eT t+4*QP m.m t 0)+_;have a1:=o0.b;have a2:=o0.e;have a4:=o2.b;have a5:=cP 2 r2 o2;have a6:=o2.s 0 (slot 0 od);grind
  ·rw[ht,hu,Nat.mul_add,Nat.mul_add];show _+vA m.s u m'.m+_+1≤_+vA m.s t m.m+_+_;have a1:=o0.L;have a2:=o2.L;omega
 ·obtain⟨r0,o0⟩:=DI 0 od;obtain⟨r1,o1⟩:=DI 1 od;have BB:(if d.isSome=true then 1 else 0)≤(if d=some 0 then 1 else 0)+(if d=some 1 then 1 else 0):=by
   cases h:d with
   |none=>simp
   |some j=>have:=d1 h;rcases(by omega:j=0∨j=1)with rfl |rfl<;>decide
  refine fin _ _ _ _ (r0+(r1+r)) ?_ ?_
  ·rw[ht,hu];show 16*_+5*_+_+(bT m'.m u+QP m'.m u 0+QP m'.m u 1)+_≤16*_+5*_+_+(bT m.m t+QP m.m t 0+QP m.m t 1);have a1:=o0.b;have a2:=o0.e;have a4:=o1.b;have a5:=o1.e;have a6:=o1.s 0 (slot 0 od);grind
  ·rw[ht,hu,Nat.mul_add,Nat.mul_add];show _+_+vA m.s u m'.m+1≤_+_+vA m.s t m.m+_;have a1:=o0.L;have a2:=o1.L;omega
end
section
variable {S:jz} {w0:List Int} {i:Nat} {M M':jX} {t u:qd} {m:zl} {G:QT} {d:Int} {o:dG}
structure O3 (w0:List Int) (m:zl) (G:QT):Prop where
  K:UL m
  Z:Aj w0 m G
  SL:∀(i:Nat) (t:qd),m.t[i]? =some t→(qg m.m.s i≠0↔DF t)
  Q:∀(i:Nat) (t:qd),m.t[i]? =some t→DG t
theorem vq (ht:m.t[i]? =some t) (hn:jb t=none):jw m i d={ m with aA:=m.aA+1,last:=bz 0 0 0,did:=false,t:=m.t.set i (jK t) }:=by grind[jw]
theorem qYl (ht:m.t[i]? =some t) (hn:jb t=some o):jw m i d={ m with aA:=m.aA+1,last:=o,did:=true,m:=(qF m.m o).2,t:=if o.kind=5 then xm (m.t.set i (jQ t (qF m.m o).1 d (m.aA+1))) i o.at_ o.lk.1 else m.t.set i (jQ t (qF m.m o).1 d (m.aA+1)) }:=by grind[jw]
theorem JK (ht:m.t[i]? =some t) (hn:jb t=some o):(jw m i d).t[i]? =some (jQ t (qF m.m o).1 d (m.aA+1))∧(jw m i d).m=(qF m.m o).2∧(jw m i d).s=m.s∧
  ∀k,k≠i→(jw m i d).t[k]? =(m.t[k]?).map λv=>if o.kind=5 then jm v o.at_ o.lk.1 else v:=by
 have hi:=(List.getElem?_eq_some_iff.1 ht).1;rw[qYl ht hn];dsimp only;by_cases h5:o.kind=5
 ·rw[iJ h5];refine⟨?_,rfl,rfl,λk hk=>?_⟩
  ·rw[Xr,List.getElem?_set_self hi,Option.map_some,iJ rfl]
  ·rw[Xr,List.getElem?_set_ne (λh=>hk h.symm)]
   grind
 grind
theorem qYd:(DF (jm t z v)↔DF t)∧(DG t→DG (jm t z v)):=by
 rcases Kw t z v with e |⟨h4,_,e⟩ |⟨h1,_,e⟩
 ·grind
 ·rw[e];exact⟨⟨λh=>absurd h (MJ gR),λh=>by have:=h.1;omega⟩,λ_=>Hx gR⟩
 ·rw[e];exact⟨Iff.rfl,id⟩
theorem qyL (I:O3 w0 m G) (hi:i<m.t.length) (hd:0≤d):∃G',O3 w0 (jw m i d) G'∧(jw m i d).s=m.s∧(jw m i d).t.length=m.t.length:=by
 obtain⟨K',hs,_⟩:=UJ I.K hi hd;obtain⟨G',Z',_⟩:=qkH I.K I.Z hi hd;obtain⟨t,ht⟩:∃t,m.t[i]? =some t:=⟨m.t[i],iW hi⟩;have hl:(jw m i d).t.length=m.t.length:=by have h1:=K'.len;have h2:=I.K.len;grind
 refine⟨G',⟨K',Z',?_,?_⟩,hs,hl⟩
 ·intro k v hv;cases hn:jb t with
  |none=>
   rw[vq ht hn]at hv ⊢;dsimp only at hv ⊢;by_cases hk:k=i
   ·subst hk;rw[List.getElem?_set_self hi]at hv;cases hv;rw[I.SL k t ht];by_cases h1:t.state=1
    ·simp_all[jK,omQ]
    ·exact⟨λh=>absurd h.1 h1,λh=>absurd h (MJ (UK h1))⟩
   ·rw[List.getElem?_set_ne (λh=>hk h.symm)]at hv;exact I.SL k v hv
  |some o=>
   obtain⟨g1,g2,g3,g4⟩:=JK (d:=d) ht hn;obtain⟨s1,s2,s3⟩:=qZ3 (dr:=d) (pk:=m.aA+1) I.K I.Z (I.SL i t ht) (I.Q i t ht) ht hn;rw[g2];by_cases hk:k=i
   ·grind
   ·rw[g4 k hk]at hv;obtain⟨w,hw,rfl⟩:=Option.map_eq_some_iff.1 hv;have e:qg (qF m.m o).2.s k=qg m.m.s k:=by
     grind[qkN]
    rw[e,I.SL k w hw]
    split
    ·simp[qYd]
    rfl
 ·intro k v hv;cases hn:jb t with
  |none=>
   rw[vq ht hn]at hv;dsimp only at hv;by_cases hk:k=i
   ·subst hk;rw[List.getElem?_set_self hi]at hv;cases hv;by_cases h1:t.state=1
    ·have:jK t=t:=by unfold jK;grind
     rw[this];exact I.Q k t ht
    grind[Hx,UK]
   ·rw[List.getElem?_set_ne (λh=>hk h.symm)]at hv;exact I.Q k v hv
  |some o=>
   obtain⟨g1,g2,g3,g4⟩:=JK (d:=d) ht hn;by_cases hk:k=i
   ·subst hk;rw[g1]at hv;cases hv;exact(qZ3 (dr:=d) (pk:=m.aA+1) I.K I.Z (I.SL k t ht) (I.Q k t ht) ht hn).2.2
   ·rw[g4 k hk]at hv;obtain⟨w,hw,rfl⟩:=Option.map_eq_some_iff.1 hv
    split
    ·exact qYd.2 (I.Q k w hw)
    ·exact I.Q k w hw
theorem jXf {s:jz} (hs:0≤s.start) (hj:∀js∈aD,∀l∈js,(xO l).2=0∧Quiet l):O3 (vu s aD).m.w (vu s aD) λ_=>[]:=by
 have at_:∀(i:Nat) (t:qd),(vu s aD).t[i]? =some t→ow t:=λi t ht=>by
  unfold vu at ht;dsimp only at ht;rw[List.getElem?_map]at ht;obtain⟨k,_,rfl⟩:=Option.map_eq_some_iff.1 ht;exact gR
 have zero:∀i:Nat,qg (vu s aD).m.s i=0:=λi=>by
  have h:(vu s aD).m.s=List.replicate (jO { s with ag:=(aD.take 4).length }).ag.toNat 0:=Mc.2.1;rw[h];unfold qg;grind
 exact⟨qYO hs hj,jQ3 hs hj,λi t ht=>⟨λh=>absurd (zero i) h,λh=>absurd h (MJ (at_ i t ht))⟩,λi t ht=>Hx (at_ i t ht)⟩
end
section
variable {S:jz} {w0:List Int} {i:Nat} {M M':jX} {t u:qd} {m m':zl} {G:QT} {d:Int} {o:dG}
theorem qgo {l:List qd} (h:l[i]? =some t):l.set i t=l:=by
 apply List.ext_getElem?;grind
theorem qgr:WA S M none M' none k 0:=⟨Nat.le_refl _,Nat.le_refl _,Nat.zero_le _,λ_ _=>Nat.le_refl _⟩
theorem jKb (I:O3 w0 m G) (h3:m.t.length≤3) (hi:i<m.t.length) (hd:0≤d) (hw:∀t,m.t[i]? =some t→¬OV t) :
  (∃u,(jw m i d).t[i]? =some u∧OV u)∨Wy m i (jw m i d)∨ox (jw m i d)+1≤ox m:=by
 obtain⟨t,ht⟩:∃t,m.t[i]? =some t:=⟨m.t[i],iW hi⟩;have hlen:=I.K.len;have rW:i<4:=by grind
 have ng:=I.Z.len;obtain⟨O,W,L⟩:=I.K.t i t ht;have att:t.state=1→∃x,t.now=some x∧zG x∧xx m.s w0 (yI m G) i x∧fD x∧x.state≤7∧(yI m G).C i=vY x:=λh1=>by
  obtain⟨x,hx⟩:∃x,t.now=some x:=by
   cases h:t.now with
   |none=>exact absurd h (O.c omQ).some
   |some x=>simp
  have hC:(yI m G).C i=vY x:=by refine Eq.trans ?_ (KA h1 hx);show(m.t[i]?).bind yV=_;grind
  exact⟨x,hx,((O.c omQ).now x hx).1,((I.Z.t i t ht).a h1 x hx).ai,(I.Q i t ht h1 x hx).1,(I.Q i t ht h1 x hx).2,hC⟩
 cases hn:jb t with
 |none=>
  have h1:t.state≠1:=λh1=>by
   obtain⟨x,hx,OA,A,_,h7,_⟩:=att h1;obtain⟨o,ho⟩:=qXu I.Z.mem A OA rW h7;unfold jb at hn;grind
  rcases jQL (S:=m.s) (M:=m.m) (i:=i) I.K.so L.set O hn h1 with⟨e,Lg⟩ |⟨r,g⟩
  ·refine .inr (.inl ?_);rw[vq ht hn,e,qgo ht];exact⟨rfl,rfl,rfl,rfl,t,ht,.inl Lg⟩
  ·refine .inr (.inr (qxP (m:=m) (by grind[vq]) omQ ht (u:=jK t) (by grind[vq,List.getElem?_set_self]) (by rw[vq ht hn];exact g) (λj hj=>⟨0,?_⟩) (by grind[vq])));rw[vq ht hn];dsimp only;rw[List.getElem?_set_ne (λh=>hj h.symm)];exact⟨Nat.le_refl _,Nat.le_refl _,by simp,λ_ _=>Nat.le_refl _⟩
 |some o=>
  obtain⟨g1,g2,g3,g4⟩:=JK (d:=d) ht hn;have T:=jKC (dr:=d) (pk:=m.aA+1) I.K I.Z (λj v hv=>I.SL j v hv) ht (λx h1 hx=>(I.Q i t ht h1 x hx).1) hn (hw t ht) hd;have k5:o.kind=5→0≤o.at_∧o.at_<m.s.ae∧qP m.m.l o.at_=(o.lk.1,true,(i:Int))∧o.lk.2=(false,0)∧(qF m.m o).2.l=m.m.l.set o.at_.toNat o.lk:=λh5=>by
   have h1:t.state=1:=by
    by_cases h1:t.state=1
    ·grind
    ·unfold jb at hn;rw[iQ h1]at hn
     split at hn
     ·cases hn;cases h5
     ·split at hn
      ·cases hn;cases h5
      ·cases hn
   obtain⟨x,hx,OA,A,_,h7,hC⟩:=att h1;have bQ:jd x=some o:=by unfold jb at hn;rw[iJ h1,hx]at hn;exact hn
   exact jVs I.Z.mem A OA hC (λh=>hw t ht ⟨h1,x,hx,h⟩) bQ h5
  generalize jQ t (qF m.m o).1 d (m.aA+1)=u at*;cases T with
  |iU h=>exact .inl ⟨u,g1,h⟩
  |idle e hl ou hs Wz=>
   subst e;have n5:o.kind≠5:=λh5=>by
    obtain⟨z0,z1,hz,hf,dW⟩:=k5 h5;have oe:=I.K.mem.l;rw[hl]at dW;have:qP m.m.l o.at_=o.lk:=by have h:=Z4 (l:=m.m.l) (j:=o.at_.toNat) (v:=o.lk) (z:=o.at_) omQ;rw[← dW,iJ rfl]at h;exact h
    rw[hz]at this;have h2:=congrArg (λl:cK=>l.2.1) this;dsimp only at h2;rw[hf]at h2;cases h2
   refine .inr (.inl ⟨?_,by rw[g2];exact hl,by rw[g2];exact ou,by rw[g2];exact hs,u,ht,Wz⟩);apply List.ext_getElem?;intro k;by_cases hk:k=i
   ·subst hk;rw[g1,ht]
   ·rw[g4 k hk];simp only[iQ n5,Option.map_id']
  |go k q r dd g=>
   refine .inr (.inr (qxP (m:=m) g3 omQ ht g1 (by rw[g2];exact g) (λj hj=>?_) (by rw[g2];exact Wx I.K.mem g.E u)));rw[g2,g4 j hj];cases hv:m.t[j]? with
   |none=>exact⟨0,qgr⟩
   |some v=>
    obtain⟨r',h⟩:=jKm (S:=m.s) (w0:=w0) (i:=j) (EE:=yI m G) (t:=v) (u:=if o.kind=5 then jm v o.at_ o.lk.1 else v) I.K.so (I.K.t j v hv).2.2.set I.K.mem g.E (λh1 x hx=>((I.Z.t j v hv).a h1 x hx).ai) (by
     by_cases h5:o.kind=5
     ·rw[iJ h5];refine .inr ⟨o.at_,?_⟩;have:=(k5 h5).2.2.1;show jm v o.at_ o.lk.1=jm v o.at_ (qP m.m.l o.at_).1;rw[this]
     ·rw[iQ h5];exact .inl rfl)
    exact⟨r',h.b,h.e,h.L,h.s⟩
def L5 (m:zl) (i:Nat):Prop:=∃t,m.t[i]? =some t∧((t.state=4∨t.state=6)∨(∃o,vU m.s m.m o∧(i:Int)<o)∨(t.state=2∧∃j:Nat,qg m.m.s j≠0))
theorem qXE (I:O3 w0 m G) (h:∀i,i<m.t.length→L5 m i):vp m=true:=by
 have hlen:=I.K.len;have ng:=I.Z.len;have held:∀n i:Nat,m.t.length≤i+n→∀o:Int,vU m.s m.m o→(i:Int)<o→False:=by
  intro n
  induction n with
  |zero=>intro i hn o ⟨z,z0,z1,hz⟩ ho;obtain⟨i',t',h2,h3,_⟩:=I.K.held z z0 z1 (congrArg Prod.fst hz);have e:(qP m.m.l z).2.2=o:=congrArg Prod.snd hz;have:=(List.getElem?_eq_some_iff.1 h3).1;omega
  |succ n ih=>
   intro i hn o ⟨z,z0,z1,hz⟩ ho;obtain⟨i',t',h2,h3,h4⟩:=I.K.held z z0 z1 (congrArg Prod.fst hz);have e:(qP m.m.l z).2.2=o:=congrArg Prod.snd hz;have hl:=(List.getElem?_eq_some_iff.1 h3).1;obtain⟨t,ht,w⟩:=h i' hl;rw[h3]at ht;cases ht;have s1:=h4.1;rcases w with w |⟨o',hX,ax⟩ |⟨w,_⟩
   ·omega
   ·exact ih i' omQ o' hX ax
   ·omega
 have no2:∀i,i<m.t.length→∃t,m.t[i]? =some t∧((t.state=4∨t.state=6)∨(t.state=2∧∃j:Nat,qg m.m.s j≠0)):=λi hi=>by
  obtain⟨t,ht,w |⟨o,ho,ax⟩ |w⟩:=h i hi
  ·exact⟨t,ht,.inl w⟩
  ·exact absurd ax (λax=>held m.t.length i omQ o ho ax)
  ·exact⟨t,ht,.inr w⟩
 unfold vp;rw[List.all_eq_true];intro t ht;obtain⟨i,hi,rfl⟩:=List.mem_iff_getElem.1 ht;obtain⟨t',LV,w⟩:=no2 i hi;rw[iW hi]at LV;cases LV;rcases w with w |⟨_,j,hj⟩
 ·exact iG omQ
 ·exfalso;by_cases fQ:j<m.t.length
  ·obtain⟨v,hv,w⟩:=no2 j fQ;have:=((I.SL j v hv).1 hj).1;rcases w with w |⟨w,_⟩<;>omega
  ·exact hj (Og omQ)
end
section
variable {S:jz} {w0:List Int} {i:Nat} {E:Env} {x y:qf} {a:cE} {t u:qd} {m m':zl} {G:QT} {d pk:Int} {o:dG} {c:q9}
def oy (x:qf):Nat:=if x.state=6 then(match x.c with |some c=>(if c.state=5 then(c.cells.length-c.at_.toNat)+c.s.length else c.s.length-c.at_.toNat)+2 |none=>2)else 1
theorem WB (h:x.state=6) (hc:x.c=some c):oy x=(if c.state=5 then(c.cells.length-c.at_.toNat)+c.s.length else c.s.length-c.at_.toNat)+2:=by unfold oy;rw[iJ h,hc]
theorem qy8 (A:xx S w0 E i x) (O:zG x) (w7:Ai x) (h7:x.state≤7) (hw:Oq x) (ha:a.err=0) :
  (Oq (qL x a)∧(qL x a).state≤7∧oy (qL x a)+1≤oy x)∨((qL x a).state=8∧((qL x a).fin=2∨(qL x a).fin=4)):=by
 have cd:=O.st;by_cases s7:x.state=7
 ·have ey:qL x a={ x with state:=8 }:=by
   unfold qL;rw[iQ omQ,iQ (λh=>h ha),iQ omQ,iQ omQ,iQ omQ,iJ s7]
  rw[ey];refine .inr ⟨rfl,?_⟩;rcases hw with h |⟨_,h⟩
  ·exact .inl ((w7 s7).1 h).1
  ·exact h
 have hw:ql x=true:=by
  rcases hw with h |⟨h,_⟩
  ·exact h
  ·exact absurd h s7
 have h6:x.state=6:=by
  by_cases h6:x.state=6
  ·exact h6
  ·rw[zZ (O.c0 omQ)]at hw;cases hw
 obtain⟨c,hc⟩:∃c,x.c=some c:=by
  cases h:x.c with
  |none=>exact absurd h (O.c6 h6)
  |some c=>exact⟨c,rfl⟩
 obtain⟨CL,hf⟩:=A.lk.c h6 c hc;have J:=A.c h6 c hc;have wr:c.writing=true:=by rw[yW omQ hc,hf]at hw;simpa using hw
 have Bf:=J.wg.1 wr;have ey:qL x a=q8 { x with c:=some (qn c a) }:=by unfold qL;rw[iQ omQ,iQ (λh=>h ha),iQ omQ,iQ omQ,iQ omQ,iQ omQ,iQ omQ,iJ h6,hc];rfl
 rw[ey];have wx:=WB h6 hc;have on:∀d:q9,d.writing=true→(d.p.fin=2∨(d.p.fin=0∧(if d.state=5 then(d.cells.length-d.at_.toNat)+d.s.length else d.s.length-d.at_.toNat)+3≤oy x))→(Oq (q8 { x with c:=some d })∧(q8 { x with c:=some d }).state≤7∧oy (q8 { x with c:=some d })+1≤oy x):=λd hd h=>by
  rcases h with h2 |⟨h0,hl⟩
  ·rw[Xb h6 h2 hd];refine⟨.inr ⟨rfl,.inl rfl⟩,by show(7:Int)≤7;decide,?_⟩;have:oy { zT { x with c:=some d } 2 d.p.err (-1)with ad:=d.now+1 }=1:=iQ (by show¬(7:Int)=6;decide);rw[this];omega
  ·rw[Yn h6 h0,iJ hd];refine⟨.inl (by rw[yW (e:=d) (by show¬x.state=8;omega) rfl,hd,iG h0];rfl),h7,?_⟩;rw[WB (x:={ x with c:=some d,ad:=d.now+1 }) h6 rfl];exact hl
 have dJ:=CL.ok.lo;refine .inl (on _ ?_ ?_)
 ·rw[jj hf ha];rw[iQ (by unfold bR at Bf;omega),iQ (by unfold bR at Bf;omega),iQ (by unfold bR at Bf;omega)]
  split
  ·unfold jo zg;dsimp only
   repeat' split
   all_goals exact wr
  ·rw[iJ (by unfold bR at Bf;omega)];unfold zg
   split<;>exact wr
 ·rw[jj hf ha];rw[iQ (by unfold bR at Bf;omega),iQ (by unfold bR at Bf;omega),iQ (by unfold bR at Bf;omega)];by_cases s5:c.state=5
  ·rw[iJ s5];have ax:=CL.ok.FH hf s5;rw[iJ s5]at wx;unfold jo;dsimp only;by_cases he:c.at_+1=(c.cells.length:Int)
   ·rw[iJ he];unfold zg;dsimp only;by_cases hz:(0:Int)=(c.s.length:Int)
    ·rw[iJ hz];exact .inl rfl
    ·rw[iQ hz];refine .inr ⟨hf,?_⟩;dsimp only;rw[iQ od,wx];omega
   ·rw[iQ he];refine .inr ⟨hf,?_⟩;dsimp only;rw[iJ s5,wx];omega
  ·have s6:c.state=6:=by unfold bR at Bf;omega
   rw[iQ s5,iJ s6];have ax:=CL.ok.FI hf s6;rw[iQ s5]at wx;unfold zg;dsimp only;by_cases he:c.at_+1=(c.s.length:Int)
   ·rw[iJ he];exact .inl rfl
   ·rw[iQ he];refine .inr ⟨hf,?_⟩;dsimp only;rw[iQ s5,wx];omega
def gX (r:yr):Bool:=decide (0<r.ended∧(r.kind=2∨r.kind=4))
def QO (t:qd):Nat:=(t.ao.filter gX).length
def vZ (m:zl):Nat:=(m.t.map QO).sum
theorem qqS {t:qd}:(jQ t a d pk).ao=t.ao∨(t.state=1∧∃x b,t.now=some x∧jh (qL x a)≠0∧(jQ t a d pk).ao=t.ao++[jY { t with now:=some (qL x a),born:=b } (qL x a) pk]):=by
 unfold jQ
 split
 ·rename_i h1
  split
  ·exact .inl rfl
  ·rename_i x hx;unfold zU;dsimp only
   split
   ·exact .inl rfl
   ·rename_i he;exact .inr ⟨h1,x,_,hx,he,JM⟩
 ·split
  ·split
   ·exact .inl rfl
   ·exact .inl (wL _ _).ao
  ·split
   ·exact .inl ((XA _).ao.trans rfl)
   ·exact .inl rfl
theorem qX5:QO t≤QO (jQ t a d pk):=by
 unfold QO;rcases qqS (t:=t) (a:=a) (d:=d) (pk:=pk)with h |⟨_,x,b,_,_,h⟩
 ·rw[h];exact Nat.le_refl _
 ·rw[h,List.filter_append,List.length_append];exact Nat.le_add_right _ _
theorem qJi:QO (jm t z v)=QO t:=by unfold QO;rw[Qt]
theorem qVf:QO (jK t)=QO t:=by unfold QO;rw[kZ]
theorem qJ1:∀{l l':List qd},l'.length=l.length→(∀(k:Nat) (a b:qd),l[k]? =some a→l'[k]? =some b→QO a≤QO b)→(l.map QO).sum≤(l'.map QO).sum:=by
 intro l
 induction l with
 |nil=>intro l' h _;cases l' with
  |nil=>exact Nat.le_refl _
  |cons _ _=>cases h
 |cons a l ih=>
  intro l' h hk;cases l' with
  |nil=>cases h
  |cons b l'=>have h1:=hk 0 a b rfl rfl;have h2:=ih (l':=l') (Nat.succ.inj h) λk a b ha hb=>hk (k+1) a b ha hb;simp only[List.map_cons,List.sum_cons];omega
theorem qxb:∀{l l':List qd} {i:Nat} {a b:qd},l'.length=l.length→(∀(k:Nat) (a b:qd),l[k]? =some a→l'[k]? =some b→QO a≤QO b)→l[i]? =some a→l'[i]? =some b→QO a<QO b→(l.map QO).sum<(l'.map QO).sum:=by
 intro l
 induction l with
 |nil=>intro l' i a b _ _ h;cases h
 |cons c l ih=>
  intro l' i a b h hk ha hb ax;cases l' with
  |nil=>cases h
  |cons e l'=>
   have h1:=hk 0 c e rfl rfl;have lQ:∀(k:Nat) (a b:qd),l[k]? =some a→l'[k]? =some b→QO a≤QO b:=λk a b ha hb=>hk (k+1) a b ha hb;simp only[List.map_cons,List.sum_cons];cases i with
   |zero=>
    cases ha;cases hb;have:=qJ1 (Nat.succ.inj h) lQ;omega
   |succ i=>have:=ih (Nat.succ.inj h) lQ ha hb ax;omega
end
section
variable {S:jz} {w0:List Int} {i:Nat} {x y:qf} {a:cE} {t u:qd} {m m' m0:zl} {G:QT} {d pk:Int} {n e0:Nat} {o:dG}
def HO (t:qd):Nat:=match t.now with
 |some x=>oy x
 |none=>0
def Gn (m:zl) (i k:Nat):Prop:=∃t,m.t[i]? =some t∧OV t∧HO t≤k
structure Qp (n:Nat) (m:zl):Prop where
  inv:∃w0 G,O3 w0 m G
  p:0≤m.aA
  n:m.t.length=n
def Gp (n:Nat) (l:List (Nat×Int)):Prop:=∀q∈l,q.1<n∧0≤q.2
theorem Qp.pick (I:Qp n m) (hi:i<n) (hd:0≤d):Qp n (jw m i d):=by obtain⟨w0,G,g⟩:=I.inv;have hn:=I.n;obtain⟨G',g',_,hl⟩:=qyL (i:=i) (d:=d) g omQ hd;obtain⟨_,_,hp,_⟩:=UJ g.K (i:=i) omQ hd;exact⟨⟨w0,G',g'⟩,by have:=I.p;omega,hl.trans hn⟩
theorem YH (I:Qp n m) (hi:i<n) (hd:0≤d):vZ m≤vZ (jw m i d):=by
 have J:=I.pick hi hd;have hn:=I.n;obtain⟨t,ht⟩:∃t,m.t[i]? =some t:=⟨m.t[i],iW omQ⟩;refine qJ1 (J.n.trans hn.symm) λk a b ha hb=>?_;cases hn:jb t with
 |none=>
  rw[vq ht hn]at hb;dsimp only at hb;by_cases hk:k=i
  ·subst hk;rw[List.getElem?_set_self (List.getElem?_eq_some_iff.1 ht).1]at hb;rw[ht]at ha;cases ha;cases hb;rw[qVf];exact Nat.le_refl _
  ·rw[List.getElem?_set_ne (λh=>hk h.symm),ha]at hb;cases hb;exact Nat.le_refl _
 |some o=>
  obtain⟨g1,_,_,g4⟩:=JK (d:=d) ht hn;by_cases hk:k=i
  ·subst hk;rw[g1]at hb;rw[ht]at ha;cases ha;cases hb;exact qX5
  ·rw[g4 k hk,ha]at hb;cases hb;dsimp only
   split
   ·rw[qJi];exact Nat.le_refl _
   ·exact Nat.le_refl _
theorem jZ5 (hi:i<m.t.length) (hj:j≠i) (h:Gn m j k):Gn (jw m i d) j k:=by
 obtain⟨t,ht⟩:∃t,m.t[i]? =some t:=⟨m.t[i],iW hi⟩;obtain⟨v,hv,w,wl⟩:=h;cases hn:jb t with
 |none=>rw[vq ht hn];exact⟨v,by dsimp only;rw[List.getElem?_set_ne (λh=>hj h.symm)];exact hv,w,wl⟩
 |some o=>
  obtain⟨_,_,_,g4⟩:=JK (d:=d) ht hn;have e:=g4 j hj;rw[hv]at e;by_cases h5:o.kind=5
  ·rcases Kw v o.at_ o.lk.1 with q |⟨q,_⟩ |⟨_,_,q⟩
   ·exact⟨v,by rw[e,Option.map_some,iJ h5,q],w,wl⟩
   ·have:=w.1;omega
   ·exact⟨{ v with cH:=true },by rw[e,Option.map_some,iJ h5,q],w,wl⟩
  ·exact⟨v,by rw[e,Option.map_some,iQ h5],w,wl⟩
theorem jZc (I:Qp n m) (hi:i<n) (hd:0≤d) (h:Gn m i (k+1)):vZ m<vZ (jw m i d)∨Gn (jw m i d) i k:=by
 obtain⟨w0,G,g⟩:=I.inv;have J:=I.pick hi hd;have hn:=I.n;have hlen:=g.K.len;have ng:=g.Z.len;have rW:i<4:=by have:=g.K.th;omega
 obtain⟨t,ht,⟨h1,x,hx,hw⟩,wl⟩:=h;obtain⟨O,W,L⟩:=g.K.t i t ht;have OA:=((O.c omQ).now x hx).1;have A:=(g.Z.t i t ht).a h1 x hx;have h7:=(g.Q i t ht h1 x hx).2;obtain⟨o,bQ⟩:=qXu g.Z.mem A.ai OA rW h7;have mw:jb t=some o:=(qq3 h1 hx).trans bQ;have ha:(qF m.m o).1.err=0:=A.ai.err g.Z.mem OA rW (by show(i:Int)<m.m.s.length;omega) bQ;obtain⟨g1,g2,g3,g4⟩:=JK (d:=d) ht mw;have wlx:HO t=oy x:=by unfold HO;rw[hx]
 have et:=qzP (a:=(qF m.m o).1) (d:=d) (p:=m.aA+1) h1 hx;rcases qy8 A.ai OA A.w7 h7 hw ha with⟨w,y7,hl⟩ |⟨y8,hf⟩
 ·refine .inr ⟨_,g1,?_⟩;rw[et];have told:zU t x (qL x (qF m.m o).1) d (m.aA+1)={ t with now:=some (qL x (qF m.m o).1),born:=if(qL x (qF m.m o).1).begun=true∧x.begun=false then m.aA+1 else t.born }:=by
   unfold zU;dsimp only;rw[iJ (by unfold jh;exact iJ omQ)]
  rw[told];refine⟨⟨h1,_,rfl,w⟩,?_⟩;show oy (qL x (qF m.m o).1)≤k;omega
 ·refine .inl ?_;refine qxb (i:=i) (J.n.trans hn.symm) ?_ ht g1 ?_
  ·intro k a b ha hb;by_cases hk:k=i
   ·subst hk;rw[g1]at hb;rw[ht]at ha;cases ha;cases hb;exact qX5
   ·rw[g4 k hk,ha]at hb;cases hb;dsimp only
    split
    ·rw[qJi];exact Nat.le_refl _
    ·exact Nat.le_refl _
  ·rw[et];have ne:jh (qL x (qF m.m o).1)=(qL x (qF m.m o).1).fin:=by
    unfold jh;rw[iQ (λh=>h y8)]
   unfold zU QO;dsimp only;rw[iQ (by rw[ne];omega),JM,List.filter_append,List.length_append];have hp:=I.p;have:gX (jY { t with now:=some (qL x (qF m.m o).1),born:=if(qL x (qF m.m o).1).begun=true∧x.begun=false then m.aA+1 else t.born } (qL x (qF m.m o).1) (m.aA+1))=true:=by
    unfold gX;refine iG ⟨by show 0<m.aA+1;omega,?_⟩;show(if ql (qL x (qF m.m o).1)=true then(2:Int)else jh (qL x (qF m.m o).1))=2∨(if ql (qL x (qF m.m o).1)=true then(2:Int)else jh (qL x (qF m.m o).1))=4;rw[ne]
    split
    ·exact .inl rfl
    ·exact hf
   rw[List.filter_cons_of_pos this];exact Nat.lt_add_of_pos_right (Nat.succ_pos _)
theorem L6 (I:Qp n m) (ht:m.t[i]? =some t) (h:OV t):Gn m i 1018:=by
 obtain⟨w0,G,g⟩:=I.inv;obtain⟨h1,x,hx,hw⟩:=h;obtain⟨O,W,L⟩:=g.K.t i t ht;have OA:=((O.c omQ).now x hx).1;refine⟨t,ht,⟨h1,x,hx,hw⟩,?_⟩;unfold HO;rw[hx];show oy x≤1018;by_cases h6:x.state=6
 ·cases hc:x.c with
  |none=>unfold oy;rw[iJ h6,hc];decide
  |some c=>
   rw[WB h6 hc];have ok:=OA.c c hc;have h1:=ok.s;have h2:=ok.ar;unfold zF at h2
   split<;>omega
 ·unfold oy;rw[iQ h6];decide
theorem jVm:1≤oy x:=by
 unfold oy
 split
 ·split<;>omega
 ·omega
theorem qKF:¬Gn m i 0:=λ⟨t,_,⟨_,x,hx,_⟩,h⟩=>by
 unfold HO at h;rw[hx]at h;have:=jVm (x:=x);dsimp only at h;omega
theorem O8:∀(l:List (Nat×Int)) {m:zl},Qp n m→Gp n l→Qp n (kI m l)∧vZ m≤vZ (kI m l):=by
 intro l
 induction l with
 |nil=>intro m I _;exact⟨I,Nat.le_refl _⟩
 |cons q l ih=>intro m I V;obtain⟨v1,v2⟩:=V q (iK ..);have h:=ih (I.pick v1 v2) λq hq=>V q (iX _ hq);exact⟨h.1,Nat.le_trans (YH I v1 v2) h.2⟩
def PW (e0:Nat) (m:zl) (i k:Nat):Prop:=e0<vZ m∨Gn m i k
theorem qYA (I:Qp n m) (hi:i<n) (hd:0≤d) (he:e0≤vZ m) (h:PW e0 m j k):PW e0 (jw m i d) j k∧(j=i→PW e0 (jw m i d) j (k-1)):=by
 have h1:=YH I hi hd;rcases h with h |h
 ·exact⟨.inl omQ,λ_=>.inl omQ⟩
 ·by_cases e:j=i
  ·subst e;cases k with
   |zero=>exact absurd h qKF
   |succ k=>
    have:PW e0 (jw m j d) j k:=by
     rcases jZc I hi hd h with h |h
     ·exact .inl omQ
     ·exact .inr h
    refine⟨?_,λ_=>this⟩;rcases this with h |⟨t,a,b,c⟩
    ·exact .inl h
    ·exact .inr ⟨t,a,b,by omega⟩
  ·exact⟨.inr (jZ5 (by have:=I.n;omega) e h),λh=>absurd h e⟩
theorem qwB:∀(l:List (Nat×Int)) {m:zl} {k:Nat},Qp n m→Gp n l→e0≤vZ m→PW e0 m j k→PW e0 (kI m l) j k∧(j∈l.map (·.1)→PW e0 (kI m l) j (k-1)):=by
 intro l
 induction l with
 |nil=>intro m k _ _ _ h;exact⟨h,λh=>by cases h⟩
 |cons q l ih=>
  intro m k I V he h;obtain⟨v1,v2⟩:=V q (iK ..);obtain⟨p1,p2⟩:=qYA I v1 v2 he h;have I':=I.pick v1 v2;have V':Gp n l:=λq hq=>V q (iX _ hq);have B4:=Nat.le_trans he (YH I v1 v2);obtain⟨r1,r2⟩:=ih I' V' B4 p1;refine⟨r1,λhj=>?_⟩;by_cases e:j=q.1
  ·rcases p2 e with h |⟨t,a,b,c⟩
   ·exact(ih (k:=k-1) I' V' B4 (.inl h)).1
   ·exact(ih (k:=k-1) I' V' B4 (.inr ⟨t,a,b,c⟩)).1
  ·refine r2 ?_;rcases List.mem_cons.1 hj with h |h
   ·exact absurd h e
   ·exact h
end
section
variable {i:Nat} {t u:qd} {m m' m0:zl} {d:Int} {n e0:Nat}
structure L7 (m m':zl):Prop where
  t:m'.t=m.t
  l:m'.m.l=m.m.l
  n:m'.m.n=m.m.n
  s:m'.m.s=m.m.s
  S:m'.s=m.s
theorem qXO (h:L7 m m') (MO:yu m.s m.m):ox m'=ox m:=by
 have E:lq m.s m.m m'.m 0 0:=.same h.l h.n;have hb:∀o,bO m'.m o=bO m.m o:=λo=>by
  cases o with
  |none=>rfl
  |some t=>exact Wx MO E t
 have hl:∀o,Be m.s m'.m o=Be m.s m.m o:=λo=>by
  cases o with
  |none=>rfl
  |some t=>
   show vA m.s t m'.m=vA m.s t m.m;unfold vA
   split
   ·split
    ·exact XY h.l h.n
    ·rfl
   ·rfl
 have hs:∀j o,sO m'.m j o=sO m.m j o:=λj o=>by
  cases o with
  |none=>rfl
  |some t=>
   have e:qg m'.m.s j=qg m.m.s j:=by rw[h.s]
   exact Nat.le_antisymm (we (L3 e)) (we (L3 e.symm))
 unfold ox DH HL;rw[h.t,h.S,hb,hb,hb,hl,hl,hl,hs,hs,hs]
theorem qwE (h:L7 m m') (w:L5 m' i):L5 m i:=by
 obtain⟨t,ht,w⟩:=w;refine⟨t,by rw[← h.t];exact ht,?_⟩;rcases w with w |⟨o,⟨z,z0,z1,hz⟩,ho⟩ |⟨w,j,hj⟩
 ·exact .inl w
 ·exact .inr (.inl ⟨o,⟨z,z0,by rw[← h.S];exact z1,by rw[← h.l];exact hz⟩,ho⟩)
 ·exact .inr (.inr ⟨w,j,by rw[← h.s];exact hj⟩)
inductive HQ (e0:Nat) (m0 m:zl) (seen:Nat→Prop):Prop
  |more (h:e0<vZ m)
  |iU (i:Nat) (h:Gn m i 1018)
  |less (h:ox m+1≤ox m0)
  |same (h:L7 m0 m) (w:∀i,seen i→L5 m0 i)
theorem qYi {seen:Nat→Prop} (h3:n≤3) (I:Qp n m) (I0:Qp n m0) (hi:i<n) (hd:0≤d) (he:e0≤vZ m) (h:HQ e0 m0 m seen):HQ e0 m0 (jw m i d) λj=>j=i∨seen j:=by
 have hn:=I.n;obtain⟨w0,G,g⟩:=I.inv;have one:(∃t,m.t[i]? =some t∧OV t)∨(∃u,(jw m i d).t[i]? =some u∧OV u)∨Wy m i (jw m i d)∨ox (jw m i d)+1≤ox m:=by
  by_cases hw:∃t,m.t[i]? =some t∧OV t
  ·exact .inl hw
  ·exact .inr (jKb g omQ omQ hd λt ht w=>hw ⟨t,ht,w⟩)
 have CE:∀i',Gn m i' 1018→HQ e0 m0 (jw m i d) λj=>j=i∨seen j:=λi' hw=>by
  rcases(qYA I hi hd he (.inr hw)).1 with h |h
  ·exact .more h
  ·exact .iU i' h
 have hS:(jw m i d).s=m.s:=(UJ g.K (i:=i) omQ hd).2.1;have idle:Wy m i (jw m i d)→L7 m (jw m i d):=λh=>⟨h.t,h.l,h.n,h.s,hS⟩;cases h with
 |more h=>exact .more (Nat.lt_of_lt_of_le h (YH I hi hd))
 |iU i' h=>exact CE i' h
 |less h=>
  rcases one with⟨t,ht,w⟩ |⟨u,hu,w⟩ |hid |hl
  ·exact CE i (L6 I ht w)
  ·exact .iU i (L6 (I.pick hi hd) hu w)
  ·exact .less (by rw[qXO (idle hid) g.K.mem];exact h)
  ·exact .less omQ
 |same h w=>
  rcases one with⟨t,ht,w⟩ |⟨u,hu,w⟩ |hid |hl
  ·exact CE i (L6 I ht w)
  ·exact .iU i (L6 (I.pick hi hd) hu w)
  ·have hs:=idle hid;refine .same ⟨hs.t.trans h.t,hs.l.trans h.l,hs.n.trans h.n,hs.s.trans h.s,hs.S.trans h.S⟩ λj hj=>?_;rcases hj with rfl |hj
   ·exact qwE h hid.Wz
   ·exact w j hj
  ·obtain⟨w0',G',g0⟩:=I0.inv;rw[qXO h g0.K.mem]at hl;exact .less hl
theorem MN (h3:n≤3) (I0:Qp n m0):∀(l:List (Nat×Int)) {m:zl} {seen:Nat→Prop},Qp n m→Gp n l→e0≤vZ m→HQ e0 m0 m seen→HQ e0 m0 (kI m l) λj=>j∈l.map (·.1)∨seen j:=by
 intro l
 induction l with
 |nil=>
  intro m seen _ _ _ h;cases h with
  |more h=>exact .more h
  |iU i h=>exact .iU i h
  |less h=>exact .less h
  |same h w=>exact .same h λi hi=>w i (hi.resolve_left λh=>by cases h)
 |cons q l ih=>
  intro m seen I V he h;obtain⟨v1,v2⟩:=V q (iK ..);have r:=ih (I.pick v1 v2) (λq hq=>V q (iX _ hq)) (Nat.le_trans he (YH I v1 v2)) (qYi h3 I I0 v1 v2 he h);cases r with
  |more h=>exact .more h
  |iU i h=>exact .iU i h
  |less h=>exact .less h
  |same h w=>
   refine .same h λi hi=>w i ?_;rcases hi with hi |hi
   ·rcases List.mem_cons.1 hi with e |e
    ·exact .inr (.inl e)
    ·exact .inl e
   ·exact .inr (.inr hi)
def xd (m:zl) (rl:Nat→List (Nat×Int)):Nat→zl
 | 0=>m
 |r+1=>kI (xd m rl r) (rl r)
theorem XQ (I:Qp n m) (V:∀r,Gp n (rl r)) (r:Nat):Qp n (xd m rl r):=by
 induction r with
 |zero=>exact I
 |succ r ih=>exact(O8 _ ih (V r)).1
theorem Xg (I:Qp n m) (V:∀r,Gp n (rl r)) (r k:Nat):vZ (xd m rl r)≤vZ (xd m rl (r+k)):=by
 induction k with
 |zero=>exact Nat.le_refl _
 |succ k ih=>exact Nat.le_trans ih (O8 _ (XQ I V (r+k)) (V (r+k))).2
theorem qz5 (I:Qp n m) (V:∀r,Gp n (rl r)) (C:∀r i,i<n→i∈(rl r).map (·.1)) (hi:i<n):∀(k r:Nat),e0≤vZ (xd m rl r)→PW e0 (xd m rl r) i k→e0<vZ (xd m rl (r+k)):=by
 intro k
 induction k with
 |zero=>
  intro r _ h;rcases h with h |h
  ·exact h
  ·exact absurd h qKF
 |succ k ih=>intro r he h;have h1:=(qwB (rl r) (XQ I V r) (V r) he h).2 (C r i hi);have h2:=ih (r+1) (Nat.le_trans he (Xg I V r 1)) h1;rw[show r+(k+1)=r+1+k by omega];exact h2
theorem qqh (h3:n≤3) (I:Qp n m) (V:∀r,Gp n (rl r)) (C:∀r i,i<n→i∈(rl r).map (·.1)) :
  ∀(p r:Nat),ox (xd m rl r)≤p→∃r',r≤r'∧r'≤r+p+1019∧(vp (xd m rl r')=true∨vZ (xd m rl r)<vZ (xd m rl r')):=by
 have HR:∀(r i:Nat),Gn (xd m rl r) i 1018→vZ (xd m rl r)<vZ (xd m rl (r+1018)):=λr i h=>by
  have hi:i<n:=by obtain⟨t,ht,_⟩:=h;have:=(List.getElem?_eq_some_iff.1 ht).1;have:=(XQ I V r).n;omega
  exact qz5 I V C hi 1018 r (Nat.le_refl _) (.inr h)
 intro p
 induction p with
 |zero=>
  intro r hp;have Ir:=XQ I V r;have c:=MN (e0:=vZ (xd m rl r)) (seen:=λ_=>False) h3 Ir (rl r) Ir (V r) (Nat.le_refl _) (.same ⟨rfl,rfl,rfl,rfl,rfl⟩ λi h=>h.elim);cases c with
  |more h=>exact⟨r+1,by omega,by omega,.inr h⟩
  |iU i h=>have:=HR (r+1) i h;exact⟨r+1+1018,by omega,by omega,.inr (Nat.lt_of_le_of_lt (Xg I V r 1) this)⟩
  |less h=>omega
  |same h w=>obtain⟨w0,G,g⟩:=Ir.inv;exact⟨r,Nat.le_refl _,by omega,.inl (qXE g λi hi=>w i (.inl (C r i (by have:=Ir.n;omega))))⟩
 |succ p ih=>
  intro r hp;have Ir:=XQ I V r;have c:=MN (e0:=vZ (xd m rl r)) (seen:=λ_=>False) h3 Ir (rl r) Ir (V r) (Nat.le_refl _) (.same ⟨rfl,rfl,rfl,rfl,rfl⟩ λi h=>h.elim);cases c with
  |more h=>exact⟨r+1,by omega,by omega,.inr h⟩
  |iU i h=>have:=HR (r+1) i h;exact⟨r+1+1018,by omega,by omega,.inr (Nat.lt_of_le_of_lt (Xg I V r 1) this)⟩
  |less h=>
   obtain⟨r',a,b,c⟩:=ih (r+1) (by show ox (kI _ _)≤p;omega);refine⟨r',by omega,by omega,?_⟩;rcases c with c |c
   ·exact .inl c
   ·exact .inr (Nat.lt_of_le_of_lt (Xg I V r 1) c)
  |same h w=>obtain⟨w0,G,g⟩:=Ir.inv;exact⟨r,Nat.le_refl _,by omega,.inl (qXE g λi hi=>w i (.inl (C r i (by have:=Ir.n;omega))))⟩
end
section
variable {S:jz} {w0:List Int} {i:Nat} {M:jX} {E:Env} {x:qf} {t:qd} {m:zl} {n:Nat}
theorem jXM {f:wJ} (h:f.p.af≤4):J5 f M≤10:=by
 have h1:GU f M≤3:=by
  unfold GU
  split
  ·exact Hi
  ·exact Nat.zero_le _
 have h2:(if f.state=0 then 3 else if f.state=1 then 2 else 1)≤3:=by
  repeat' split
  all_goals omega
 unfold J5;omega
theorem qy7 (A:xx S w0 E i x) (O:zG x) (Q:fD x):vi S x M≤8*S.words.toNat+400:=by
 have bP:x.v.sz=S.words.toNat:=by have h:=O.sz;rw[A.lk.set]at h;omega
 by_cases h2:x.state≤2
 ·rw[Al h2];omega
 by_cases h3:x.state=3
 ·rw[Ho h3];have h:=jXM (M:=M) (((O.f h3).1 (A.lk.f h3).2).2);have h1:=LW (p:=Qn S M x.ad);omega
 by_cases h4:x.state=4
 ·rw[Bc h4];have V:=A.e (.inl h4);have EO:=O.e omQ omQ;have h:=(EO.p V.fin).2;have h1:=LW (p:=x.e.aR=true∧Qn S M x.e.ad);have h5:Jd x.e≤22:=by
   unfold Jd;have:=EO.len
   split<;>omega
  omega
 by_cases h5:x.state=5
 ·rw[DD h5];have V:=A.e (.inr h5);have EO:=O.e omQ omQ;have h:=(EO.p V.fin).2;have h5:Jd x.e≤22:=by
   unfold Jd;have:=EO.len
   split<;>omega
  omega
 by_cases h6:x.state=6
 ·cases hc:x.c with
  |none=>exact absurd hc (O.c6 h6)
  |some c=>
   rw[DE h6 hc];have C:=(A.lk.c h6 c hc).1.ok;have h:=Q.sp h6 c hc;have h1:=C.s;have h7:=C.aw;have h8:=C.seen;have a1:gd c M≤3:=by
    unfold gd
    repeat' split
    all_goals first |exact Hi |exact Nat.zero_le _
   have a2:K4 c≤170:=by
    unfold K4
    repeat' split
    all_goals omega
   have a3:Ku c≤108:=by
    unfold Ku
    repeat' split
    all_goals omega
   unfold yn;omega
 ·unfold vi;rw[iQ h2,iQ h3,iQ h4,iQ h5,iQ h6]
  split<;>omega
theorem jKs (I:Qp n m) (hw:m.s.words≤80):ox m≤71000:=by
 obtain⟨w0,G,g⟩:=I.inv;have hb:∀k:Nat,bO m.m m.t[k]? ≤2:=λk=>by
  cases m.t[k]? with
  |none=>exact Nat.zero_le _
  |some t=>
   show bT m.m t≤2;unfold bT
   repeat' split
   all_goals first |exact Hu |omega
 have he:∀k:Nat,eO m.t[k]? ≤3:=λk=>by
  cases m.t[k]? with
  |none=>exact Nat.zero_le _
  |some t=>
   show eT t≤3;unfold eT eA
   repeat' split
   all_goals omega
 have hl:∀k:Nat,Be m.s m.m m.t[k]? ≤1040:=λk=>by
  cases ht:m.t[k]? with
  |none=>exact Nat.zero_le _
  |some t=>
   obtain⟨O,_,L⟩:=g.K.t k t ht;have hth:=g.K.so.ag;show vA m.s t m.m≤1040;unfold vA
   split
   ·rename_i h1
    split
    ·rename_i x hx;have h:=qy7 (M:=m.m) ((g.Z.t k t ht).a h1 x hx).ai ((O.c omQ).now x hx).1 (g.Q k t ht h1 x hx).1;omega
    ·exact Nat.zero_le _
   ·split
    ·split<;>omega
    ·split
     ·rename_i h3;have:=(O.A4 h3).2;omega
     ·split
      ·rw[L.set];omega
      ·omega
 have h1:DH m≤66:=by unfold DH;have:=hb 0;have:=hb 1;have:=hb 2;have:=he 0;have:=he 1;have:=L4 (M:=m.m) (j:=0) (o:=m.t[1]?);have:=L4 (M:=m.m) (j:=0) (o:=m.t[2]?);have:=L4 (M:=m.m) (j:=1) (o:=m.t[2]?);omega
 have h2:HL m≤3120:=by unfold HL;have:=hl 0;have:=hl 1;have:=hl 2;omega
 unfold ox;have h3:(8*m.s.words.toNat+376)*DH m≤1016*66:=Nat.mul_le_mul omQ h1;omega
end
section
variable {t:qd} {m:zl} {n:Nat}
theorem qvM:((qi t).filter gX).length=QO t:=by
 unfold qi QO;rw[List.filter_append,List.length_append]
 have:((match t.now with
  |some x=>if t.state=1∧x.begun=true then[jY t x 0]else[]
  |none=>[]).filter gX).length=0:=by
  split
  ·split
   ·rename_i x _ _;have h:gX (jY t x 0)=false:=iV λh=>absurd h.1 (by show¬(0:Int)<0;decide);rw[List.filter_cons_of_neg (by rw[h];decide)];rfl
   ·rfl
  ·rfl
 exact(congrArg (λk=>(t.ao.filter gX).length+k) this).trans (Nat.add_zero _)
theorem jZ9:((yL m).filter gX).length=vZ m:=by
 unfold yL vZ
 induction m.t with
 |nil=>rfl
 |cons t l ih=>rw[List.flatMap_cons,List.filter_append,List.length_append,ih,qvM];rfl
theorem jQS (h3:n≤3) (I:Qp n m) (hw:m.s.words≤80) (V:∀r,Gp n (rl r)) (C:∀r i,i<n→i∈(rl r).map (·.1)) :
  ∃r,r≤72019∧(vp (xd m rl r)=true∨∀k,vZ m<vZ (xd m rl (r+k))):=by
 have hp:=jKs I hw;obtain⟨r,_,h2,h⟩:=qqh h3 I V C 71000 0 hp;refine⟨r,by omega,?_⟩;rcases h with h |h
 ·exact .inl h
 ·exact .inr λk=>Nat.lt_of_lt_of_le h (Xg I V r k)
def NQ (m:zl):Nat:=(m.t.map λt=>t.ao.length).sum
theorem jXc:∀{l l':List qd} {i:Nat},l'.length=l.length→(∀(k:Nat) (a b:qd),l[k]? =some a→l'[k]? =some b→b.ao.length≤a.ao.length+if k=i then 1 else 0)→(l'.map λt=>t.ao.length).sum≤(l.map λt=>t.ao.length).sum+1:=by
 intro l
 induction l with
 |nil=>intro l' i h _;cases l' with
  |nil=>exact Nat.zero_le _
  |cons _ _=>cases h
 |cons a l ih=>
  intro l' i h hk;cases l' with
  |nil=>cases h
  |cons b l'=>
   have h1:=hk 0 a b rfl rfl;simp only[List.map_cons,List.sum_cons];cases i with
   |zero=>
    have h2:∀{l l':List qd},l'.length=l.length→(∀(k:Nat) (a b:qd),l[k]? =some a→l'[k]? =some b→b.ao.length≤a.ao.length)→(l'.map λt=>t.ao.length).sum≤(l.map λt=>t.ao.length).sum:=by
     intro l
     induction l with
     |nil=>intro l' h _;cases l' with
      |nil=>exact Nat.le_refl _
      |cons _ _=>cases h
     |cons a l ih=>
      intro l' h hk;cases l' with
      |nil=>cases h
      |cons b l'=>have h1:=hk 0 a b rfl rfl;have h2:=ih (l':=l') (Nat.succ.inj h) λk a b ha hb=>hk (k+1) a b ha hb;simp only[List.map_cons,List.sum_cons];omega
    have h3:=h2 (Nat.succ.inj h) λk a b ha hb=>by
     have:=hk (k+1) a b ha hb;rw[iQ omQ]at this;exact this
    rw[iJ rfl]at h1;omega
   |succ i=>
    rw[iQ omQ]at h1;have h3:=ih (i:=i) (Nat.succ.inj h) λk a b ha hb=>by
     have:=hk (k+1) a b ha hb;by_cases e:k=i
     ·rw[iJ omQ]at this;rw[iJ e];exact this
     ·rw[iQ omQ]at this;rw[iQ e];exact this
    omega
theorem qjC {i:Nat} {d:Int} (I:Qp n m) (hi:i<n) (hd:0≤d):NQ (jw m i d)≤NQ m+1:=by
 have J:=I.pick hi hd;have hn:=I.n;obtain⟨t,ht⟩:∃t,m.t[i]? =some t:=⟨m.t[i],iW omQ⟩;refine jXc (i:=i) (J.n.trans hn.symm) λk a b ha hb=>?_;cases hn:jb t with
 |none=>
  rw[vq ht hn]at hb;dsimp only at hb;by_cases hk:k=i
  ·subst hk;rw[List.getElem?_set_self (List.getElem?_eq_some_iff.1 ht).1]at hb;rw[ht]at ha;cases ha;cases hb;rw[kZ];exact Nat.le_add_right _ _
  ·rw[List.getElem?_set_ne (λh=>hk h.symm),ha]at hb;cases hb;exact Nat.le_add_right _ _
 |some o=>
  obtain⟨g1,_,_,g4⟩:=JK (d:=d) ht hn;by_cases hk:k=i
  ·subst hk;rw[g1]at hb;rw[ht]at ha;cases ha;cases hb;rw[iJ rfl];exact(Zh _ _ _ _).ao
  ·rw[g4 k hk,ha]at hb;cases hb;dsimp only
   split
   ·rw[Qt];exact Nat.le_add_right _ _
   ·exact Nat.le_add_right _ _
theorem qyb:(yL m).length≤NQ m+m.t.length:=by
 unfold yL NQ
 induction m.t with
 |nil=>exact Nat.le_refl _
 |cons t l ih=>
  have h1:(qi t).length≤t.ao.length+1:=by
   unfold qi;rw[List.length_append]
   have:(match t.now with
    |some x=>if t.state=1∧x.begun=true then[jY t x 0]else[]
    |none=>[]).length≤1:=by
    repeat' split
    all_goals first |exact Nat.le_refl _ |exact Nat.zero_le _
   exact Nat.add_le_add_left this _
  simp only[List.flatMap_cons,List.length_append,List.map_cons,List.sum_cons,List.length_cons];omega
end
section
variable {m:zl} {n i:Nat} {s:jz} {d:Int}
def n7 (m:zl):Prop:=∀t∈m.t,dN t
theorem n7.new {aD:List (List (List qR))}:n7 (vu s aD):=λt ht=>by
 obtain⟨i,_,rfl⟩:=List.mem_map.1 ht;exact dN.new
theorem n7.pick (K:Vg m) (L:n7 m):n7 (jw m i d):=by
 unfold jw;cases ht:m.t[i]? with
 |none=>exact L
 |some t=>
  dsimp only;obtain⟨O,W,_⟩:=K.t i t ht;have Lt:=L t (List.mem_of_getElem? ht);have st:∀u:qd,dN u→∀v∈m.t.set i u,dN v:=λu hu v hv=>by
   rcases List.mem_or_eq_of_mem_set hv with hv |rfl
   ·exact L v hv
   ·exact hu
  cases hn:jb t with
  |none=>exact st _ (Lt.keep (kZ t))
  |some o=>
   have s2:=st _ (Lt.dl (d:=d) (p:=m.aA+1) O (Xs K.r (Q4 O W hn)).1);dsimp only
   split
   ·intro v hv;obtain⟨k,hk,rfl⟩:=List.mem_iff_getElem.1 hv;have lQ:=iW hk;rw[Jf]at lQ;cases hq:(m.t.set i (jQ t (qF m.m o).1 d (m.aA+1)))[k]? with
    |none=>rw[hq]at lQ;cases lQ
    |some q=>
     rw[hq]at lQ;have lQ:(if k=i then q else jm q o.at_ o.lk.1)=_:=Option.some.inj lQ;rw[← lQ]
     split
     ·exact s2 q (List.mem_of_getElem? hq)
     ·exact(s2 q (List.mem_of_getElem? hq)).keep (Qt q _ _)
   ·exact s2
structure tO (n:Nat) (s:jz) (m:zl):Prop where
  I:Qp n m
  O:Vg m
  P:n7 m
  s:m.s=s
  pp:(NQ m:Int)≤m.aA
theorem tO.pick (W:tO n s m) (hi:i<n) (hd:0≤d):tO n s (jw m i d)∧(jw m i d).aA=m.aA+1:=by have hn:=W.I.n;obtain⟨O,e,hp⟩:=qV4 W.O (i:=i) omQ hd;have:=qjC W.I hi hd;have:=W.pp;exact⟨⟨W.I.pick hi hd,O,W.P.pick W.O,e.trans W.s,by omega⟩,hp⟩
theorem tO.all (W:tO n s m):(yL m).length≤m.aA.toNat+n:=by have h1:=qyb (m:=m);have h2:=W.pp;have h3:=W.I.n;omega
abbrev pN:Type:=Int×Int×Int
def tG (n:Nat) (x:pN):Nat:=(zQ x.1 ((0:Nat):Int) ((n:Int)-((1:Nat):Int))).toNat
def wG (x:pN):Nat:=(zQ x.2.2 ((0:Nat):Int) ((5:Nat):Int)).toNat
def QC (n:Nat) (x:pN):List (Nat×Int):=(List.range n).map (λk=>((k+tG n x)%n,x.2.1))++List.replicate (wG x) (tG n x,x.2.1)
def mg (rs:List pN) (r:Nat):pN:=(rs[r%rs.length]?).getD (0,0,0)
theorem WC (hn:1≤n) (x:pN):zQ x.1 ((0:Nat):Int) ((n:Int)-((1:Nat):Int))=(tG n x:Int)∧tG n x<n:=by have:=ww (x:=x.1) (lo:=((0:Nat):Int)) (hi:=(n:Int)-((1:Nat):Int)) omQ;unfold tG;omega
theorem Ia (x:pN):zQ x.2.2 ((0:Nat):Int) ((5:Nat):Int)=(wG x:Int)∧wG x≤5:=by have:=ww (x:=x.2.2) (lo:=((0:Nat):Int)) (hi:=((5:Nat):Int)) omQ;unfold wG;omega
theorem qWL {x:pN} (hk:k<n):(QC n x)[k]? =some ((k+tG n x)%n,x.2.1):=by unfold QC;rw[List.getElem?_append_left (by rw[List.length_map,List.length_range];exact hk),List.getElem?_map,List.getElem?_range hk];rfl
theorem jZ0 {x:pN} (hk:k<wG x):(QC n x)[n+k]? =some (tG n x,x.2.1):=by unfold QC;rw[List.getElem?_append_right (by rw[List.length_map,List.length_range];omega),List.length_map,List.length_range,Nat.add_sub_cancel_left,List.getElem?_replicate,iJ hk]
theorem qy5 {x:pN}:(QC n x).length=n+wG x:=by unfold QC;rw[List.length_append,List.length_map,List.length_range,List.length_replicate]
theorem M9 {L:List (Nat×Int)} {q:Nat×Int} (h:L[k]? =some q):kI m (L.drop k)=kI (jw m q.1 q.2) (L.drop (k+1)):=by obtain⟨hk,e⟩:=List.getElem?_eq_some_iff.1 h;rw[List.drop_eq_getElem_cons hk,e];rfl
theorem qzL (hn:1≤n) {x:pN} (hx:0≤x.2.1):Gp n (QC n x):=λq hq=>by
 unfold QC at hq;rcases List.mem_append.1 hq with hq |hq
 ·obtain⟨k,_,rfl⟩:=List.mem_map.1 hq;exact⟨Nat.mod_lt _ omQ,hx⟩
 ·obtain⟨_,rfl⟩:=List.mem_replicate.1 hq;exact⟨(WC hn x).2,hx⟩
theorem qjH (hn:1≤n) {x:pN} (hi:i<n):i∈(QC n x).map (·.1):=by
 have ht:=(WC hn x).2;have key:∀k,k<n→(k+tG n x)%n=i→i∈(QC n x).map (·.1):=λk hk e=>List.mem_map.2 ⟨_,List.mem_of_getElem? (qWL hk),e⟩;by_cases h:tG n x≤i
 ·exact key (i-tG n x) omQ (by rw[Nat.sub_add_cancel h];exact Nat.mod_eq_of_lt hi)
 ·refine key (i+n-tG n x) omQ ?_;rw[Nat.sub_add_cancel omQ,Nat.add_mod_right];exact Nat.mod_eq_of_lt hi
theorem qWi {rs:List pN} (h:∀x∈rs,0≤x.2.1∧x.2.1<256) (r:Nat):0≤(mg rs r).2.1∧(mg rs r).2.1<256:=by
 unfold mg;cases e:rs[r%rs.length]? with
 |none=>exact⟨by decide,by decide⟩
 |some x=>exact h x (List.mem_of_getElem? e)
theorem jKA (h3:n≤3) (h1:1≤n) (I:Qp n m) (hw:m.s.words≤80) {rs:List pN} (hr:∀x∈rs,0≤x.2.1∧x.2.1<256) {r:Nat}
  (A:∀r',r'<r→vp (xd m (λk=>QC n (mg rs k)) r')=false) (B:∀r',r'<r→r'%16=15→¬vZ m<vZ (xd m (λk=>QC n (mg rs k)) (r'+1))):r≤72040:=by
 obtain⟨r0,hr0,h⟩:=jQS h3 I hw (rl:=λk=>QC n (mg rs k)) (λk=>qzL h1 (qWi hr k).1) λk i hi=>qjH h1 hi;refine Nat.le_of_not_lt λax=>?_;rcases h with h |h
 ·rw[A r0 omQ]at h;cases h
 ·have e:(r0+(15-r0%16))%16=15:=by omega
  have:=h (15-r0%16+1);rw[← Nat.add_assoc]at this;exact B (r0+(15-r0%16)) omQ e this
end
section
theorem jZs {h:AH} {d:Nat} {v:AV} (H:WT Tryz.prog h (d+3) 83 [v]):∃ks:List qR,Sl (λb=>b<h.nx) h 5 ks.length v (ks.flatMap jM)∧∀x∈ks,0≤x.2.2.2.2∧x.2.2.2.2<18446744073709551616:=by
 obtain⟨q,xs,S,_,H2⟩:=Kf (sz:=5) Tryz.underlying83 (by kernel_rfl) omQ H
 obtain⟨ks,g1,g3,rfl⟩:=qXd (α:=qR) (Pr:=λx=>0≤x.2.2.2.2∧x.2.2.2.2<18446744073709551616) jM S.len (λi hi=>by
  have:=H2 i hi;generalize(xs.drop (i*5)).take 5=row at this;unfold WT at this;simp only[Tryz.underlying116]at this;obtain⟨g1,g2⟩:=this;rw[show Tryz.prog.cellsOf 116=5 by kernel_rfl]at g1
  match row,g1 with
  |[x,y,z,u,t],_=>
   have f1:=g2 _ (iK ..);have f2:=g2 _ (iX _ (iK ..));have f3:=g2 _ (iX _ (iX _ (iK ..)));have f4:=g2 _ (iX _ (iX _ (iX _ (iK ..))));have f5:=g2 _ (iX _ (iX _ (iX _ (iX _ (iK ..)))));rw[show Tryz.prog.cellsOf 3=1 by kernel_rfl]at f1 f2 f3 f4;rw[show Tryz.prog.cellsOf 22=1 by kernel_rfl]at f5;unfold WT at f1 f2 f3 f4 f5;simp only[Tryz.underlying3,List.drop_zero,List.take_succ_cons,List.take_zero,List.drop_succ_cons]at f1 f2 f3 f4;simp only[Tryz.underlying22,List.drop_succ_cons,List.drop_zero,List.take_succ_cons,List.take_zero]at f5;obtain⟨a,ha,_⟩:=f1;obtain⟨b,hb,_⟩:=f2;obtain⟨c,hc,_⟩:=f3;obtain⟨d,hd,_⟩:=f4;obtain⟨e,he,c5⟩:=f5;cases ha;cases hb;cases hc;cases hd;cases he
   exact⟨(a,b,c,d,e),⟨c5.1,Int.lt_of_le_of_lt c5.2 od⟩,rfl⟩)
 exact⟨ks,g1▸S,g3⟩
end
end Go.Proofs.YtemjbhdofokbhaaGreatDoor
