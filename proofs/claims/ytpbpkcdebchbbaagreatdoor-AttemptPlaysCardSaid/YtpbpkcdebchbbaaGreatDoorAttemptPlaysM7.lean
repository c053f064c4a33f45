/- Lemmas for 'quietus/quietuslaw26.AttemptPlays': The documents attempt: by its own code: its work;what was fetched, extended;The documents attempt: by its own code: what it tells, what it is told;The ... No condition. -/
import Derived.Test.YtpbpkcdebchbbaaGreatDoorAttemptPlaysM6
import Derived.Test.YtpbpkcdebchbbaaGreatDoorAttemptPlaysM2
import Derived.Test.YtpbpkcdebchbbaaGreatDoorAttemptPlaysM5
import Derived.Test.YtpbpkcdebchbbaaGreatDoorAttemptPlaysM4
import Derived.Test.YtpbpkcdebchbbaaGreatDoorAttemptPlaysM3
import Derived.Test.YtpbpkcdebchbbaaGreatDoorAttemptPlaysM1
namespace Go.Proofs.YtpbpkcdebchbbaaGreatDoor
open Go Go.Ae
set_option maxRecDepth 100000
section
variable {g h:AH} {L R R':List SP}
section
variable {x:jd}
def fP (x:jd):Prop:=∀c,x.c=some c→c.writing=false∧c.p.fin=0
theorem fP.no (h:x.c=none):fP x:=λc hc=>by grind
theorem fP.stamped (h:fP x):yV x=x:=by
 have hw:zM x=false:=by
  unfold zM;cases hc:x.c with
  |none=>simp
  |some c=>obtain⟨h1,h2⟩:=h c hc;grind[zl]
 grind[yV]
theorem fP.ends {k e:Int} (h:x.c=none):fP (wC x k e):=by
 unfold wC
 repeat' split
 ·exact fP.no h
 ·exact fP.no h
 ·exact fP.no h
 ·exact fP.no h
 ·exact λc hc=>by cases hc;trivial
theorem Zq:(xu x).2.c=x.c∧(xu x).2.aH=x.aH∧∀q,xV (xu x).2 q=xV x q:=by
 unfold xu;cases x.aW with
 |prog p=>exact⟨rfl,rfl,λ_=>rfl⟩
 |aV bs k=>exact⟨rfl,rfl,λ_=>rfl⟩
theorem fP.u6 (h:x.c=none):fP (kC x):=fP.ends (Zq.1.trans h)
theorem fP.led (h:x.c=none):fP (xU x):=by
 unfold xU
 split
 ·exact fP.no h
 ·split
  ·exact fP.no h
  ·unfold yy
   split
   ·unfold yE
    repeat' split
    ·exact fP.no h
    ·exact fP.u6 h
    ·exact fP.no h
    ·exact fP.no h
   ·repeat' split
    ·exact fP.no h
    ·exact fP.no h
    all_goals grind[fP.no]
theorem ZE {f:kT} {a:cT} (hf:f.p.fin=0) (ha:a.err=0):(xQ f a).at_=f.at_∧((xQ f a).p.fin=0∨(xQ f a).p.fin=2∨(xQ f a).p.fin=5∨(xQ f a).p.fin=6):=by
 unfold xQ;rw[GF hf ha,iQ (nofun)]
 repeat' split
 ·grind
 ·exact⟨rfl,.inr (.inl rfl)⟩
 ·unfold QI
  repeat' split
  ·exact⟨rfl,.inl (Ga.1.trans hf)⟩
  ·exact⟨rfl,.inr (.inr (.inl rfl))⟩
  ·exact⟨rfl,.inr (.inr (.inr rfl))⟩
  grind
theorem Z8 {e:wQ} {a:cT} (hf:e.p.fin=0) (ha:a.err=0):(xM e a).bH=true∧((xM e a).p.fin=0∨(xM e a).p.fin=2∨(xM e a).p.fin=5):=by
 have on:∀{y:wQ},y.bH=true→y.p.fin=0→(Jw y).bH=true∧((Jw y).p.fin=0∨(Jw y).p.fin=2∨(Jw y).p.fin=5):=λ{y} h1 h2=>by
  unfold Jw
  split
  ·exact⟨h1,.inr (.inl rfl)⟩
  grind
 unfold xM;rw[GF hf ha,iQ (nofun)];cases hl:e.bH with
 |false=>grind
 |true=>
  rw[iQ (nofun)]
  repeat' split
  ·exact⟨rfl,.inl (Ga.1.trans hf)⟩
  ·exact⟨rfl,.inr (.inr rfl)⟩
  ·exact⟨rfl,.inr (.inr rfl)⟩
  grind
end
theorem qkS (r:List xA) (x:xA):(gV r x).1=0∨(gV r x).2=r:=by
 unfold gV
 grind
section
variable {n a b:Nat} {x:jd} {q:Oy} {S:SP}
theorem wg.gone {fin err bM:Int} (dZ:q.en=0∧q.ee=0∧q.eb= -1) (h0:fin=2∨fin=3∨fin=4∨fin=5):wg (yG x fin err bM) { q with ph:=6,ou:=fin,er:=err,bM:=bM } :=
 ⟨dZ,rfl,λ_ h=>absurd h (by nofun),λ_=>⟨rfl,rfl,rfl⟩,λh=>(by cases h),λh=>(by rcases h with h |h<;>cases h),λh=>(by cases h),λ_=>h0,λh=>absurd h (by nofun),λh=>(by cases h),λh=>absurd h (by nofun)⟩
theorem wg.asks {p:Int} {fv:AV} (dZ:q.en=0∧q.ee=0∧q.eb= -1) (hnd:q.nd=x.v.aw) (hp:p=x.v.aw) (hb:x.aH=false):wg (XE x p) { q with ph:=3,fv:=fv } :=
 ⟨dZ,rfl,λ_ _=>hnd,λh=>(by cases h),λ_=>⟨hp,rfl⟩,λh=>(by rcases h with h |h<;>cases h),λh=>(by cases h),λh=>absurd h (by nofun),λ_=>⟨λh=>(by rw[show(XE x p).aH=x.aH from rfl,hb]at h;grind),λh=>(by cases h)⟩,λh=>(by cases h),λh=>absurd h (by nofun)⟩
theorem wg.later {st:Int} {ev:AV} (dZ:q.en=0∧q.ee=0∧q.eb= -1) (bK:st=4∨st=5) (hnd:st=4→q.nd=x.v.aw) (hb:x.aH=true↔st=5):wg (Jz x st) { q with ph:=4,ev:=ev }:=by
 refine⟨?_,?_,λ_ h=>hnd ?_,λh=>?_,λh=>?_,λ_=>⟨rfl,λ_=>rfl⟩,λh=>?_,λh=>?_,λ_=>hb,λh=>?_,λh=>?_⟩
 ·unfold vi Jd YE;rw[iJ (by show st≠8;omega),iJ (by show st≠8;omega),iJ (by show st≠8;omega)];grind
 ·show(4:Int)=DN st;grind[DN]
 ·have:st≤4:=h;omega
 ·have:st=7:=h;omega
 ·have:st=3:=h;omega
 ·have:st=6:=h;omega
 ·have:7≤st:=h;omega
 ·have:st=2:=h;omega
 ·have:st≤1:=h;omega
theorem Zb (hn:14≤n) (B:Qh x) (hj:bQ True x.v x.aW) (hc:x.c=none) (dV:q.cv=.au) (dZ:q.en=0∧q.ee=0∧q.eb= -1) (oI:x.aH=false) (s:aR R S R')
  (H:HS g h (qx a (xV x q)::bc S q.vb x.aW q.xv q.bv q.sw q.kv::aP q.vb x.v::bB q.rb x.r::R)) :
  af n 68 [.ptr a 0] h λ_ h'=>HS g h' (aO S a (kC x)::R):=by
 refine ag rfl omQ λk hk=>?_;unfold S68;try simp only[iZ]
 have D:=Uk B.ap B.fr hj;obtain⟨ec,eb,ex⟩:=Zq;unfold kC;generalize hAA:wC (xu x).2 (xu x).1.1 (xu x).1.2=AA
 refine jq [] (λz h'=>∃er gv:Int,z=(.int .i64 er,.int .i64 (xu x).1.1,.ptr a 0,())∧((xu x).1.1=4→er=(xu x).1.2)∧
  HS g h' (qx a (xV x { q with kv:=gv })::bc S q.vb (xu x).2.aW q.xv q.bv q.sw gv::aP q.vb (xu x).2.v::bB q.rb x.r::R)) (λj mq=>?_) ?_
 rotate_left
 ·rintro _ h1 ⟨er,gv,rfl,h4,H1⟩;rw[← hAA];rw[← ex]at H1;generalize(xu x).1.1=kd at*;generalize(xu x).1.2=er0 at*;generalize(xu x).2=y at*;obtain⟨e1,e2,e3,e4,e5⟩:=D.same;have rX:y.c=none:=by grind
  have fQ:y.r.length≤16:=by rw[e3];exact B.r
  have hyb:y.aH=false:=by grind
  rw[← e3]at H1;generalize hA:wC y kd er0=A;refine jq [] (λ_ h'=>HS g h' (aO S a A::R)) (λj hj=>?_) λ_ h' H'=>qg (qY H');unfold wC at hA;have iC:=D.ap.ok.hi;by_cases c1:kd=1
  ·rw[iJ c1]at hA;subst hA;refine qj c1 (qX ?_);have hnd:=D.aw c1;have hk:=D.kept.1;refine qK (qQ (qZ H1 .here rfl ?_));obtain⟨kv,lq,H2⟩:=aP.E (H1.ah e_2);refine qK (qQ (qZ H2 .here rfl ?_));refine qK (qQ (qw H2 e_3 ⟨rfl,rfl⟩ (by simp[xV]) λh3 H3=>?_));refine qW (Mh (q:={ q with kv:=gv,nd:=y.v.aw }) (p:=y.v.aw) omQ omQ rfl H3) ?_;rintro _ h4 ⟨b,H4⟩;refine hj _ _ (aO.I (q:={ q with kv:=gv,nd:=y.v.aw,ph:=3,fv:=.ptr b 0 }) (wg.asks (q:={ q with kv:=gv,nd:=y.v.aw }) dZ rfl rfl hyb) ?_);have H5:=aU.mE (st:=3) (e:=y.e) (ev:=q.ev) rfl rX ⟨dV,rfl⟩ H4;have H6:=aP.I (o:=q.vb) (M:=y.v) (kv:=kv) (q:=lq) (H5.sub (.cons e_2 (.cons e_2 (.cons e_2 (.cons .here (.cons .here .refl))))));exact H6.pk [2,2,0,1,0] 0
  rw[iQ c1]at hA;refine qV c1 (qJ ?_);by_cases c3:kd=3
  ·rw[iJ c3]at hA;subst hA;refine qj c3 (qX ?_);refine qK (qQ (qw H1 .here ⟨rfl,rfl⟩ (by simp[xV]) λh2 H2=>?_));refine qW (VN (x:={ y with aH:=true }) omQ fQ (H2.pk [0,2] 0)) ?_;rintro _ h3 ⟨b,H3⟩;refine hj _ _ (aO.I (q:={ q with kv:=gv,ph:=4,ev:=.ptr b 0 }) (wg.later (q:={ q with kv:=gv }) dZ (.inr rfl) (λh=>(by grind)) ⟨λ_=>rfl,λ_=>rfl⟩) ?_);have H4:=aU.mF (st:=5) (f:=y.f) (fv:=q.fv) (c:=y.c) (cv:=q.cv) (.inr rfl) rX ⟨dV,rfl⟩ H3;exact H4.pk [1,2,2,1,0] 0
  rw[iQ c3]at hA;refine qV c3 (qJ ?_);by_cases c4:kd=4
  ·rw[iJ c4]at hA;subst hA;refine qj c4 (qX ?_);rw[h4 c4]at*;refine qW (gZ omQ H1) λ_ h2 H2=>?_;refine hj _ _ (aO.I (wg.gone (q:={ q with kv:=gv }) dZ od) ?_);have H3:=aU.mg (st:=7) (f:=y.f) (e:=y.e) (c:=y.c) (fv:=q.fv) (ev:=q.ev) (cv:=q.cv) od rX dV H2;exact H3.pk [1,1,1,1,0] 0
  rw[iQ c4]at hA;refine qV c4 (qJ ?_);refine qW (qZ0 (q:={ q with kv:=gv }) omQ fQ D.ap D.fr rX dV dZ H1) λ_ h2 H2=>hj _ _ ?_;grind
 unfold xu at mq;cases hx:x.aW with
 |prog p=>
  rw[hx]at H hj mq;obtain⟨F,Q,gb,hr,hl⟩:=hj;obtain⟨G,f0,f1,f2⟩:=hr trivial;obtain⟨y,sv,kd,⟨e1,e2,e3,e4,e6⟩,H1⟩:=bc.P (H.ah e_1);refine qK (qQ (qZ H .here (x:=.bool false) (by rw[← e2];rfl) ?_));refine qJ (qK (qQ (qZ H .here (x:=.ptr y 0) (by rw[← e1];rfl) ?_)));rw[f1]at H1;have H1:=H1.sub (L':=aC y q.vb sv (qb p.l) p.s kd 0 p.left::aP q.vb x.v::qx a (xV x q)::bB q.rb x.r::R) (.cons .here (.cons e_1 (.cons .here .refl)));refine qW (qwE omQ F Q G f2 omQ ((e3.rd s).more.more) (e4 f0) H1) ?_;rintro _ h2 ⟨rfl,H2⟩;dsimp only at mq;have e7:=qv2 (l:=p.l) (mt:=qb p.l) p.left (V:=x.v) e6;generalize zw p.l (qb p.l) p.left p.s x.v=RM at*;obtain⟨lv,ov,mv,qs,e5,H3⟩:=aC.E H2;refine qK (qQ (qZ H3 e_5 (x:=.ptr y 0) (by rw[← e1];rfl) ?_));refine qK (qQ (qZ H3 .here rfl ?_));refine mq _ _ ⟨RM.err,q.kv,rfl,λ_=>rfl,?_⟩
  have H4:=bc.PI (p:=⟨p.l,RM.s,if RM.kind=1 then 0 else RM.kind,RM.err,RM.left⟩) (xv:=q.xv) (bv:=q.bv) (sw:=q.sw) (kv:=q.kv) ⟨e1,e2,e3,λh=>(by
   grind),e7⟩ H2
  exact H4.pk [2,0,0] 0
 |aV bs k=>
  rw[hx]at H hj mq;obtain⟨⟨e1,e2⟩,H1⟩:=bc.W (H.ah e_1);refine qK (qQ (qZ H .here (x:=.bool true) (by rw[← e1];rfl) ?_));refine qX ?_;have mO:=hj.1;have hbl2:=hj.2;dsimp only at mq;generalize hG:xI x.v (bs.drop k) k=G at*
  refine jq [] (λz h'=>∃(er:Int) (i:Nat) (V:VM),z=(.int .i64 er,.int .i64 2,.ptr a 0,())∧((i,er),V)=G∧
    HS g h' (qx a (xV x { q with kv:=(i:Int) })::qF 3 1 bs.length q.bv (bs.map (.int .i64))::aP q.vb V::bB q.rb x.r::R)) (λj2 nQ=>?_) ?_
  rotate_left
  ·rintro _ h3 ⟨er,i,V,rfl,rfl,H3⟩;dsimp only at mq ⊢;have H4:=(bc.SI (S:=S) (vb:=q.vb) (k:=i) (xv:=q.xv) (kv:=(i:Int)) ⟨e1,rfl⟩ (H3.ah e_1)).sub (L':=qx a (xV x { q with kv:=(i:Int) })::bc S q.vb (.aV bs i) q.xv q.bv q.sw i::aP q.vb V::bB q.rb x.r::R) (.cons e_1 (.cons .here .refl));by_cases Ag:er=11
   ·rw[iJ Ag]at mq;refine qj Ag (qX (mq _ _ ⟨er,i,rfl,λh=>(by grind),H4⟩))
   rw[iQ Ag]at mq;refine qV Ag (qJ ?_);by_cases c0:er=0
   ·rw[iJ c0]at mq;exact q9 c0 (qJ (mq _ _ ⟨er,i,rfl,λh=>(by grind),H4⟩))
   ·rw[iQ c0]at mq;exact jJ c0 (qX (mq _ _ ⟨er,i,rfl,λ_=>rfl,H4⟩))
  refine jF (λm s h'=>s=(.int .i64 0,.int .i64 2,.ptr a 0,())∧∃(i:Nat) (V:VM),i≤bs.length∧m=bs.length-i∧ju V∧xI V (bs.drop i) i=G∧
    HS g h' (qx a (xV x { q with kv:=(i:Int) })::qF 3 1 bs.length q.bv (bs.map (.int .i64))::aP q.vb V::bB q.rb x.r::R))
   ?_ omQ ⟨rfl,k,x.v,mO,rfl,B.ap,hG,by
    have:q={ q with kv:=(k:Int) }:=by rw[← e2]
    rw[← this]
    exact H1.pk [1,0] 0⟩
  rintro m ih s h1 aY ⟨rfl,i,V,hi,rfl,hV,hG,H⟩;refine qK (qQ (qZ H .here rfl ?_));refine qK (qQ (qZ H .here rfl ?_));refine qd H e_1 ?_;by_cases ae:i<bs.length
  ·refine jB (by grind) (qX ?_);refine qK (qQ (qZ H .here rfl ?_));refine qK (qQ (qZ H .here rfl ?_));refine qK (qQ (qZ H .here rfl ?_));refine jN (H.sl e_1) (by rw[List.getElem?_map,iW ae];rfl)<|qW (qYH omQ (H.ah e_2) hV.ok hV.wd) ?_;rintro _ h2 ⟨rfl,H2⟩;rw[List.drop_eq_getElem_cons ae]at hG;by_cases h0:(xj V bs[i]).1=0
   ·refine q9 h0 (qJ ?_);refine qK (qQ (qZ H2 e_1 (x:=.int .i64 (i:Int)) rfl ?_));refine qS omQ<|qK (qQ ?_);refine qw H2 e_1 ⟨rfl,rfl⟩ (by simp[xV]) λh3 H3=>?_;refine aY (bs.length-(i+1)) _ _ omQ ⟨by rw[h0],i+1,(xj V bs[i]).2,by omega,rfl,hV.tg.1,?_,H3.pk [0,1,0] 0⟩;rw[show xI V (bs[i]::bs.drop (i+1)) i=xI (xj V bs[i]).2 (bs.drop (i+1)) (i+1)from iJ h0]at hG;grind
   ·rw[show xI V (bs[i]::bs.drop (i+1)) i=((i,(xj V bs[i]).1),(xj V bs[i]).2)from iQ h0]at hG;refine jJ h0 (qX (nQ _ _ ⟨_,i,_,rfl,hG,H2.pk [1,1,0] 0⟩))
  ·obtain rfl:i=bs.length:=by omega
   rw[List.drop_length,show xI V [] bs.length=((bs.length,0),V)from rfl]at hG;exact jk (by simp) (qJ (nQ _ _ ⟨0,bs.length,V,rfl,hG,H⟩))
theorem qQ7 (hn:16≤n) (O:zE x) (bK:x.state=3) (CW:x.f.p.fin=0∨x.f.p.fin=2∨x.f.p.fin=5∨x.f.p.fin=6) (da:x.f.at_=x.v.aw) (hnd:q.nd=x.v.aw) (dV:q.cv=.au) (CZ:q.fv=.ptr b 0) (dZ:q.en=0∧q.ee=0∧q.eb= -1) (Tb:q.ph=3) (oI:x.aH=false) (s:aR R S R')
  (H:HS g h (qx a (xV x q)::bc S q.vb x.aW q.xv q.bv q.sw q.kv::aP q.vb x.v::bB q.rb x.r::bJ b x.f::R)) :
  af n 70 [.ptr a 0] h λ_ h'=>HS g h' (aO S a (xU x)::R):=by
 refine ag rfl omQ λk hk=>?_;unfold S70;try simp only[iZ]
 have hc:=O.c0 omQ;have hjb:bQ True x.v x.aW:=O.aW.same λ_=>by omega
 have hw:=(O.f bK).2;obtain⟨sp,Q,H1⟩:=bJ.E (H.ah e_4);refine qK (qQ (qZ H1 e_1 (x:=.ptr b 0) (by rw[← CZ];rfl) ?_));refine qK (qQ (qc (qZ H1 .here rfl ?_)));generalize hA:xU x=A;refine jq [] (λ_ h'=>HS g h' (aO S a A::R)) (λj hj=>?_) λ_ h' H'=>qg (qY H');unfold xU at hA;rw[show yi x=(x.f.p.fin,x.f.p.bM) by simp_all[yi]]at hA;rw[show yy x=yE x by simp_all[yy]]at hA;dsimp only at hA;by_cases c6:x.f.p.fin=6
 ·rw[iQ omQ,iQ omQ]at hA;unfold yE at hA;rw[iJ c6]at hA;subst hA;refine qj c6 (qX ?_);refine qW (VN omQ O.r (H.pk [0,2] 0)) ?_;rintro _ h3 ⟨b',H3⟩;refine hj _ _ (aO.I (q:={ q with ph:=4,ev:=.ptr b' 0 }) (wg.later dZ (.inl rfl) (λ_=>hnd) ⟨λh=>(by grind),λh=>(by grind)⟩) ?_);have H4:=aU.mF (st:=4) (f:=x.f) (fv:=q.fv) (c:=x.c) (cv:=q.cv) (.inl rfl) hc ⟨dV,rfl⟩ H3;exact H4.pk [1,2,2,1,0] 1
 refine qV c6 (qJ ?_);by_cases c5:x.f.p.fin=5
 ·rw[iQ omQ,iJ c5]at hA;subst hA;refine qj c5 (qX ?_);refine qK (qQ (qZ H1 e_1 (x:=.ptr b 0) (by rw[← CZ];rfl) ?_));refine qK (qQ (qc (qZ H1 .here rfl ?_)));refine qW (gZ omQ H) λ_ h2 H2=>hj _ _ (aO.I (wg.gone dZ od) ?_);have H3:=aU.mg (st:=7) (f:=x.f) (e:=x.e) (c:=x.c) (fv:=q.fv) (ev:=q.ev) (cv:=q.cv) od hc dV H2;exact H3.pk [1,1,1,1,0] 1
 refine qV c5 (qJ ?_);by_cases c2:x.f.p.fin=2
 rotate_left
 ·have c0:x.f.p.fin=0:=by omega
  rw[iJ c0]at hA;subst hA;refine qV c2 (qJ (hj _ _ (aO.I (q:=q) ?_ ?_)))
  ·refine⟨?_,?_,λ_ _=>hnd,λh=>omQ,λ_=>⟨da,c0⟩,λh=>omQ,λh=>omQ,λh=>omQ,λ_=>⟨λh=>(by grind),λh=>omQ⟩,λh=>omQ,λh=>omQ⟩
   ·simp_all[vi,Jd,YE,omQ]
   ·rw[Tb,bK];rfl
  ·have H4:=aU.mE (st:=x.state) (e:=x.e) (ev:=q.ev) (c:=x.c) bK hc ⟨dV,CZ⟩ (H.ah e_4);exact H4.pk [1,1,1,1,0] 0
 rw[iQ omQ,iQ omQ]at hA;unfold yE at hA;rw[iQ c6]at hA;have es:xE x.f=(x.f.ca,x.f.lk.1):=iQ (λh=>h c2);have ew:xp x.f=x.f.word:=iQ (λh=>h c2);refine qj c2 (qX ?_);refine qK (qQ (qZ H1 e_1 rfl ?_));refine qK (qQ (qZ H1 e_1 (x:=.ptr b 0) (by rw[← CZ];rfl) ?_));refine qK (qQ (qZ H1 .here rfl ?_));refine qK (qQ (qZ H1 e_1 (x:=.ptr b 0) (by rw[← CZ];rfl) ?_));refine qK (qQ (qc (qZ H1 .here rfl ?_)));refine qy (by rw[es];rfl)<|qW (qk2 (x:=xE x.f) omQ O.r (H1.ah e_4)) ?_;rintro _ h2 ⟨rfl,H2⟩;have fK:(gV x.r (xE x.f)).1≠0→(gV x.r (xE x.f)).2=x.r:=λh=>(qkS x.r (xE x.f)).resolve_left h;have gone:∀{fin err:Int} {h3:AH},(gV x.r (xE x.f)).1≠0→(fin=2∨fin=3∨fin=4∨fin=5)→HS g h3 (qx a (xV x { q with ph:=6,ou:=fin,er:=err,bM:=-1 })::bB q.rb (gV x.r (xE x.f)).2::qx b (vR x.f sp)::bc S q.vb x.aW q.xv q.bv q.sw q.kv::aP q.vb x.v::R)→HS g h3 (aO S a (yG x fin err (-1))::R):=λ{fin err h3} h0 hf H3=>by
  rw[fK h0]at H3;refine aO.I (wg.gone dZ hf) ?_;have H4:=aU.mg (st:=7) (f:=x.f) (e:=x.e) (c:=x.c) (fv:=q.fv) (ev:=q.ev) (cv:=q.cv) od hc dV H3;exact H4.pk [1,3,3,1,0] 1
 by_cases rH:(gV x.r (xE x.f)).1=14
 ·rw[iQ omQ,iJ rH]at hA;subst hA;refine qj rH (qX ?_);exact qW (gZ omQ (H2.pk [2,0,0] 0)) λ_ h3 H3=>qY (gone omQ od H3)
 refine qV rH (qJ ?_);by_cases c0:(gV x.r (xE x.f)).1=0
 rotate_left
 ·rw[iQ c0,iQ rH]at hA;subst hA;refine jJ c0 (qX ?_);exact qW (gZ omQ (H2.pk [2,0,0] 0)) λ_ h3 H3=>qY (gone c0 od H3)
 rw[iJ c0]at hA;subst hA;refine q9 c0 (qJ ?_);refine qK (qQ (qZ H2 e_2 rfl ?_));refine qK (qQ (qZ H2 e_2 (x:=.ptr b 0) (by rw[← CZ];rfl) ?_));refine qK (qQ (qZ H2 e_1 (x:=.int .i64 x.v.aw) (by rw[← da];rfl) ?_));refine qK (qQ (qZ H2 e_2 (x:=.ptr b 0) (by rw[← CZ];rfl) ?_));refine qK (qQ (qZ H2 e_1 (x:=.int .u64 (xp x.f)) (by rw[ew];rfl) ?_));refine qW (qGP omQ (H2.ah e_4) O.ap.ok) ?_;rintro _ h3 ⟨rfl,H3⟩;have hx:=X9 hw;have B:=O.b;refine qW (Zb (x:={ x with r:=(gV x.r (xE x.f)).2,v:=(yd x.v x.v.aw (xp x.f)).2 }) (R':=R') omQ ?_ (hjb.oL hx) hc dV dZ oI s (H3.pk [3,3,0,0] 1)) λ_ h4 H4=>hj _ _ H4;exact⟨B.set,Xi B.ap hx,by rw[kp.2];exact B.sz,by rw[kp.1];exact B.fr,Gc B.r,(hjb.oL hx).same λh=>h.elim,B.c⟩
theorem OB (hn:6≤n) (O:zE x) (bK:x.state=4∨x.state=5) (CW:x.e.p.fin=0∨x.e.p.fin=2∨x.e.p.fin=5) (sk:x.e.bH=true) (hnd:x.state=4→q.nd=x.v.aw) (dV:q.cv=.au) (Lf:q.ev=.ptr b 0) (dZ:q.en=0∧q.ee=0∧q.eb= -1) (Tb:q.ph=4) (oI:x.aH=true↔x.state=5)
  (H:HS g h (qx a (xV x q)::bc S q.vb x.aW q.xv q.bv q.sw q.kv::aP q.vb x.v::bB q.rb x.r::bR b x.e::R)) :
  af n 72 [.ptr a 0] h λ_ h'=>HS g h' (aO S a (xU x)::R):=by
 refine ag rfl omQ λk hk=>?_;unfold S72;try simp only[iZ]
 have hc:=O.c0 omQ;obtain⟨sp,at_,sv,Q,q',H1⟩:=bR.E (H.ah e_4);refine qK (qQ (qZ H1 e_2 (x:=.ptr b 0) (by rw[← Lf];rfl) ?_));refine qK (qQ (qc (qZ H1 .here rfl ?_)));generalize hA:xU x=A;refine jq [] (λ_ h'=>HS g h' (aO S a A::R)) (λj hj=>?_) λ_ h' H'=>qg (qY H');unfold xU at hA;rw[show yi x=(x.e.p.fin,x.e.p.bM) by unfold yi;grind]at hA;dsimp only at hA;by_cases c5:x.e.p.fin=5
 ·rw[iQ omQ,iJ c5]at hA;subst hA;refine qj c5 (qX ?_);refine qK (qQ (qZ H1 e_2 (x:=.ptr b 0) (by rw[← Lf];rfl) ?_));refine qK (qQ (qc (qZ H1 .here rfl ?_)));refine qW (gZ omQ H) λ_ h2 H2=>hj _ _ (aO.I (wg.gone dZ od) ?_);have H3:=aU.mg (st:=7) (f:=x.f) (e:=x.e) (c:=x.c) (fv:=q.fv) (ev:=q.ev) (cv:=q.cv) od hc dV H2;exact H3.pk [1,1,1,1,0] 1
 refine qV c5 (qJ ?_);by_cases c2:x.e.p.fin=2
 rotate_left
 ·have c0:x.e.p.fin=0:=by omega
  rw[iJ c0]at hA;subst hA;refine qV c2 (qJ (hj _ _ (aO.I (q:=q) ?_ ?_)))
  ·refine⟨?_,?_,λh3 h4=>hnd omQ,λh=>omQ,λh=>omQ,λ_=>⟨c0,λh=>(by grind)⟩,λh=>omQ,λh=>omQ,λ_=>oI,λh=>omQ,λh=>omQ⟩
   ·simp[vi,Jd,YE];omega
   grind[DN]
  ·have H4:=aU.mF (st:=x.state) (f:=x.f) (fv:=q.fv) (c:=x.c) bK hc ⟨dV,Lf⟩ (H.ah e_4);exact H4.pk [1,1,1,1,0] 0
 rw[iQ omQ,iQ omQ]at hA;unfold yy at hA;rw[iQ omQ]at hA;have es:yC x.e=x.e.ak:=iQ (λh=>h c2);refine qj c2 (qX ?_);refine qK (qQ (qZ H1 e_2 (x:=.ptr b 0) (by rw[← Lf];rfl) ?_));refine qK (qQ (qZ H1 .here (x:=.int .u64 (yC x.e)) (by rw[es];rfl) ?_));refine qK (qQ (qw H .here ⟨rfl,rfl⟩ (by simp[xV]) λh2 H2=>?_));by_cases s4:x.state=4
 ·rw[iJ s4]at hA;subst hA;have hb:x.aH=false:=by
   grind
  refine qK (qQ (qZ H2 .here (x:=.bool false) (by rw[← hb];rfl) ?_));refine qJ ?_;have Hx:=hnd s4;have bG:=O.aw omQ omQ;have iC:=O.ap.ok.hi;refine qW (Mh (x:={ x with ak:=yC x.e }) omQ omQ Hx H2) ?_;rintro _ h3 ⟨b',H3⟩;refine hj _ _ (aO.I (q:={ q with ph:=3,fv:=.ptr b' 0 }) (wg.asks dZ Hx rfl hb) ?_);have H5:=aU.mE (st:=3) (e:=x.e) (ev:=q.ev) (c:=x.c) (cv:=q.cv) rfl hc ⟨dV,rfl⟩ H3;exact H5.pk [1,1,1,1,0] 1
 ·have s5:x.state=5:=by omega
  rw[iQ s4,iJ s5]at hA;subst hA;refine qK (qQ (qZ H2 .here (x:=.bool true) (by rw[← oI.2 s5];rfl) ?_));refine qX (qW (gZ (x:={ x with ak:=yC x.e }) omQ H2) λ_ h3 H3=>qY (aO.I (wg.gone dZ od) ?_));have H4:=aU.mg (st:=7) (f:=x.f) (e:=x.e) (c:=x.c) (fv:=q.fv) (ev:=q.ev) (cv:=q.cv) od hc dV H3;exact H4.pk [1,1,1,1,0] 1
end
end
section
variable {g h:AH} {L R R':List SP}
section
variable {n a b:Nat} {x:jd} {q:Oy} {S:SP}
theorem Y8 {c:zG} (hn:1≤n) (H:HS g h (bN b c::R)):af n 74 [.ptr b 0] h λr h'=>r=.bool (zl c)∧h'=h:=by
 refine ag rfl omQ λk hk=>?_;unfold S74;try simp only[iZ]
 obtain⟨q,r,hm,H0⟩:=bN.E H;unfold zl;refine qK (qQ (qc (qZ H0 .here rfl ?_)));by_cases hf:c.p.fin=0
 rotate_left
 ·rw[iV hf,Bool.and_false];refine qV hf (qG ?_)
  try dsimp only
  refine qT (qG ?_)
  try dsimp only
  refine jT (qG ?_)
  try dsimp only
  exact qT (qB (qY ⟨rfl,rfl⟩))
 rw[iG hf,Bool.and_true];obtain⟨e1,_⟩:=r.ph hf;have hw:=r.w (.inl hf);have no:c.state≠5→c.state≠6→c.writing=false:=λh5 h6=>by
  grind
 refine qj hf (qG ?_)
 try dsimp only
 refine qR (qK (qQ (qZ H0 .here (x:=.int .i64 c.state) (by rw[← e1];rfl) ?_)));by_cases c5:c.state=5
 ·rw[hw.2 (.inr (.inl c5))];refine qj c5 (qG ?_)
  try dsimp only
  refine qf (qG ?_)
  try dsimp only
  exact qR (qC (qC (qY ⟨rfl,rfl⟩)))
 refine qV c5 (qG ?_)
 try dsimp only
 refine qM (qK (qQ (qZ H0 .here (x:=.int .i64 c.state) (by rw[← e1];rfl) ?_)));by_cases c6:c.state=6
 ·rw[hw.2 (.inr (.inr c6))];refine qj c6 (qG ?_)
  try dsimp only
  exact qR (qB (qC (qY ⟨rfl,rfl⟩)))
 ·rw[no c5 c6];refine qV c6 (qG ?_)
  try dsimp only
  exact qR (qB (qC (qY ⟨rfl,rfl⟩)))
theorem wg.DO (r:wg x q):q.en=0↔x.state≠8:=by
 rw[r.en.1];unfold vi;have:=r.fin
 grind
theorem wg.ends (r:wg x q) (h8:x.state≠8):q.en=0∧q.ee=0∧q.eb= -1:=by obtain⟨h1,h2,h3⟩:=r.en;simp_all[vi,Jd,YE]
theorem Qp (hn:2≤n) (H:HS g h (aO S a x::R)):af n 52 [.ptr a 0] h λv h'=>v=.bool (zM x)∧h'=h:=by
 refine ag rfl omQ λk hk=>?_;unfold S52;try simp only[iZ]
 obtain⟨q,r,H1⟩:=aO.E H;refine qK (qQ (qc (qZ H1 .here rfl ?_)));unfold zM;by_cases c8:x.state=8
 ·rw[iV (λh=>h c8),Bool.false_and];refine qV (λh=>r.DO.1 h c8) (qG ?_)
  try dsimp only
  refine qT (qB (qG ?_))
  try dsimp only
  refine qT (qG ?_)
  try dsimp only
  refine jT (qG ?_)
  try dsimp only
  exact qT (qB (qY ⟨rfl,rfl⟩))
 rw[iG (show x.state≠8 from c8),Bool.true_and];refine qj (r.DO.2 c8) (qG ?_)
 try dsimp only
 cases hc:x.c with
 |none=>
  obtain⟨e,H2⟩:=aU.tB hc (H1.ah e_4);refine qR (qK (qQ (qZ H1 .here (x:=.au) (by rw[← e];rfl) ?_)));refine UA (qC (qG ?_))
  try dsimp only
  refine qT (qG ?_)
  try dsimp only
  refine jT (qG ?_)
  try dsimp only
  exact qT (qB (qY ⟨rfl,rfl⟩))
 |some c=>
  obtain⟨b,⟨e,_⟩,H2⟩:=aU.hP hc (H1.ah e_4);refine qR (qK (qQ (qZ H1 .here (x:=.ptr b 0) (by rw[← e];rfl) ?_)));refine Nt (qC (qG ?_))
  try dsimp only
  refine qR (qK (qQ (qZ H1 .here (x:=.ptr b 0) (by rw[← e];rfl) ?_)));refine qW (Y8 omQ H2) ?_;rintro _ _ ⟨rfl,rfl⟩;cases hw:zl c with
  |true=>
   refine qG ?_
   try dsimp only
   refine qf (qG ?_)
   try dsimp only
   exact qR (qC (qC (qY ⟨by rfl,rfl⟩)))
  |false=>
   obtain⟨q2,_,_,H3⟩:=bN.E H2;refine qG ?_
   try dsimp only
   refine qM (qK (qQ (qZ H1 .here (x:=.ptr b 0) (by rw[← e];rfl) ?_)));refine qK (qQ (qc (qZ H3 .here rfl ?_)));refine gc (qG ?_)
   try dsimp only
   exact qR (qB (qC (qY ⟨by rfl,rfl⟩)))
theorem OH (hn:1≤n) (H:HS g h (aO S a x::R)):af n 53 [.ptr a 0] h λv h'=>v=.bool (Qo x)∧h'=h:=by
 refine ag rfl omQ λk hk=>?_;unfold S53;try simp only[iZ]
 obtain⟨q,r,H1⟩:=aO.E H;refine qK (qQ (qc (qZ H1 .here rfl ?_)));unfold Qo;by_cases c8:x.state=8
 ·rw[iV (λh=>h c8),Bool.false_and];refine qV (λh=>r.DO.1 h c8) (qG ?_)
  try dsimp only
  exact qT (qB (qY ⟨rfl,rfl⟩))
 ·rw[iG (show x.state≠8 from c8),Bool.true_and];refine qj (r.DO.2 c8) (qG ?_)
  try dsimp only
  refine qR (qK (qQ (qZ H1 .here rfl ?_)));exact qC (qY ⟨rfl,rfl⟩)
theorem Vc {u:AV} (r:wg x q) (hu:q.en≠2→u=.bool (!zM x)) {K:AV→Go.Ae.R} {Q:AV→AH→Prop} (w:wp (K (.bool (!z7 x))) Q):wp (zo (.bool (decide (¬q.en=2))) u (.bool false) K) Q:=by
 have e:z7 x=(decide (vi x=2)||zM x):=rfl;by_cases h2:q.en=2
 ·rw[e,← r.en.1,iG h2]at w;rw[iV (λh=>h h2)];exact qB w
 ·rw[e,← r.en.1,iV h2,Bool.false_or]at w;rw[iG h2,hu h2];exact qC w
theorem qWD (hn:6≤n) (O:zE x) (r:wg x q) (H:HS g h (wU S a x q R)):af n 59 [.ptr a 0] h λv h'=>HS g h' (qF 129 2 (vJ x).length v ((vJ x).flatMap jH)::wU S a x q R):=by
 refine ag rfl omQ λk hk=>?_;unfold S59;try simp only[iZ]
 have A3:=O.fr;refine qK (qQ (qc (qZ H .here rfl ?_)));refine XP (gS (λz g'=>g'=h∧∃u,z=(u,.bool (decide (¬q.en=2)),.ptr a 0,())∧(q.en≠2→u=.bool (!zM x))) (λj hj=>?_) ?_)
 ·refine Qn (λc=>?_) (λc=>?_)
  ·refine qW (Qp omQ (aO.I r H)) ?_;rintro _ _ ⟨rfl,rfl⟩;exact Pq (hj _ _ ⟨rfl,_,rfl,λ_=>rfl⟩)
  ·exact hj _ _ ⟨rfl,_,rfl,λh=>absurd h c⟩
 rintro _ _ ⟨rfl,u,rfl,hu⟩;refine Vc r hu ?_;unfold vJ;cases hc:z7 x with
 |false=>exact qX (qY H.ad)
 |true=>refine qJ (qK (qQ (qZ H .here rfl ?_)));obtain⟨kv,lq,H1⟩:=aP.E (H.ah e_2);refine qK (qQ (qZ H1 .here rfl ?_));refine qW (Yl omQ (H1.ah e_2) O.ap.ok.eR omQ) ?_;rintro _ h2 ⟨cv,fv,rfl,H2⟩;refine Ui rfl (qY ?_);have H3:=aP.I (o:=q.vb) (M:=x.v) (kv:=kv) (q:=lq) (H2.sub (.cons e_3 (.cons e_3 (.cons e_2 (.cons .here (.drop .refl))))));exact H3.pk [1,1,1,0] 0
theorem qG8 (hn:6≤n) (O:zE x) (r:wg x q) (H:HS g h (wU S a x q R)):af n 62 [.ptr a 0] h λv h'=>∃T,HS g h' (T::wU S a x q R)∧Rd g (T::wU S a x q R) 1 (yB x).length v ((yB x).map (.int .i64))∧((∃p,x.aW=.prog p)→∃e,T=qF e 1 (yB x).length v ((yB x).map (.int .i64))):=by
 refine ag rfl omQ λk hk=>?_;unfold S62;try simp only[iZ]
 have A3:=O.fr;refine qK (qQ (qc (qZ H .here rfl ?_)));refine XP (gS (λz g'=>g'=h∧∃u,z=(u,.bool (decide (¬q.en=2)),.ptr a 0,())∧(q.en≠2→u=.bool (!zM x))) (λj hj=>?_) ?_)
 ·refine Qn (λc=>?_) (λc=>?_)
  ·refine qW (Qp omQ (aO.I r H)) ?_;rintro _ _ ⟨rfl,rfl⟩;exact Pq (hj _ _ ⟨rfl,_,rfl,λ_=>rfl⟩)
  ·exact hj _ _ ⟨rfl,_,rfl,λh=>absurd h c⟩
 rintro _ _ ⟨rfl,u,rfl,hu⟩;refine Vc r hu ?_;unfold yB;cases hc:z7 x with
 |false=>exact qX (qY ⟨_,H.ad (e:=0),Rd.own .here,λ_=>⟨_,rfl⟩⟩)
 |true=>
  refine qJ ?_;cases hx:x.aW with
  |prog p=>have H0:=H;unfold wU at H0;rw[hx]at H0;obtain⟨y,sv,kd,⟨e1,e2,_⟩,_⟩:=bc.P (H0.ah e_1);refine qK (qQ (qZ H .here (x:=.bool false) (by rw[← e2];rfl) ?_));refine qJ (qK (qQ (qZ H .here rfl ?_)));obtain⟨kv,lq,H1⟩:=aP.E (H.ah e_2);refine qK (qQ (qZ H1 .here rfl ?_));refine qW (Yl omQ (H1.ah e_2) O.ap.ok.eR omQ) ?_;rintro _ h2 ⟨cv,fv,rfl,H2⟩;refine Ui rfl (qY ?_);have H3:=aP.I (o:=q.vb) (M:=x.v) (kv:=kv) (q:=lq) (H2.sub (.cons e_3 (.cons e_3 (.cons e_2 (.cons e_1 (.drop .refl))))));exact⟨_,H3.pk [1,1,1,0] 0,Rd.own .here,λ_=>⟨_,rfl⟩⟩
  |aV bs k=>have H0:=H;unfold wU at H0;rw[hx]at H0;obtain⟨⟨e1,_⟩,_⟩:=bc.W (H0.ah e_1);refine qK (qQ (qZ H .here (x:=.bool true) (by rw[← e1];rfl) ?_));refine qX (qK (qQ (qZ H .here rfl (qY ⟨_,H.ad (e:=0) (sz:=1),λh' H'=>?_,λ⟨p,hp⟩=>(by grind)⟩))));have H':=H'.drop;unfold wU at H';rw[hx]at H';obtain⟨_,Fj⟩:=bc.W (H'.ah e_1);exact Fj.sl .here
theorem qGu (hn:4≤n) (O:zE x) (r:wg x q) (H:HS g h (wU S a x q R)):af n 51 [.ptr a 0] h λv h'=>v=.str (JB x)∧HS g h' (wU S a x q R):=by
 refine ag rfl omQ λk hk=>?_;unfold S51;try simp only[iZ]
 refine qK (qQ (qc (qZ H .here rfl ?_)));refine XP (gS (λz g'=>g'=h∧∃u,z=(u,.bool (decide (¬q.en=2)),.ptr a 0,())∧(q.en≠2→u=.bool (!zM x))) (λj hj=>?_) ?_)
 ·refine Qn (λc=>?_) (λc=>?_)
  ·refine qW (Qp omQ (aO.I r H)) ?_;rintro _ _ ⟨rfl,rfl⟩;exact Pq (hj _ _ ⟨rfl,_,rfl,λ_=>rfl⟩)
  ·exact hj _ _ ⟨rfl,_,rfl,λh=>absurd h c⟩
 rintro _ _ ⟨rfl,u,rfl,hu⟩;refine Vc r hu ?_;unfold JB;cases hc:z7 x with
 |false=>
  refine qG ?_
  try dsimp only
  exact qf (qC (qX (qY ⟨rfl,H⟩)))
 |true=>
  refine qG ?_
  try dsimp only
  refine qM ?_;cases hx:x.aW with
  |prog p=>
   have H0:=H;unfold wU at H0;rw[hx]at H0;have hj:=O.aW;rw[hx]at hj;obtain⟨y,sv,kd,e,H1⟩:=bc.P (H0.ah e_1);refine qK (qQ (qZ H .here (x:=.bool false) (by rw[← e.2.1];rfl) ?_));refine qB (qJ (qK (qQ (qZ H .here (x:=.ptr y 0) (by rw[← e.1];rfl) ?_))));obtain⟨lv,ov,mv,qs,e5,H2⟩:=aC.E H1;refine qK (qQ (qZ H2 .here rfl ?_));refine qW (qqE omQ H2 (H2.rd e_1) ?_ ?_) ?_
   ·have:=hj.2.2.1.out;omega
   ·exact λz hz=>⟨e.2.2.2.2 z hz,hj.2.2.1.its z hz⟩
   rintro _ h3 ⟨rfl,H3⟩;refine qY ⟨rfl,?_⟩;have H4:=bc.PI (S:=S) (bv:=q.bv) (kv:=q.kv) e (aC.I e5 H3);unfold wU;rw[hx];exact H4.pk [1,0] 0
  |aV bs k=>have H0:=H;unfold wU at H0;rw[hx]at H0;obtain⟨⟨e1,_⟩,_⟩:=bc.W (H0.ah e_1);refine qK (qQ (qZ H .here (x:=.bool true) (by rw[← e1];rfl) ?_));exact qB (qX (qY ⟨rfl,H⟩))
theorem qz3 (hn:3≤n) (O:zE x) (H:HS g h (aO S a x::R)):af n 13 [.ptr a 0] h λv h'=>v=tu (yI x)∧HS g h' (aO S a x::R):=by
 refine ag rfl omQ λk hk=>?_;unfold S13;try simp only[iZ]
 have bK:=O.st;obtain⟨q,r,H0⟩:=aO.E H;have rp:=r.ph;unfold DN at rp;refine qH H0 rfl λb0 h1 H1=>?_;refine qK (qQ (qZ H1 e_1 rfl ?_));unfold yI;have rI:∀{o:dR} {t:Bool} {h':AH},tu (if t=true then some o else none)=.bm [.agg (jn o),.bool t]→HS g h' (qx b0 (jn (ck 0 0 0))::wU S a x q R)→wp (qn h' (.ptr b0 0) (.agg (jn o)) 10 λh2=>q8 h2 (.ptr b0 0) 10 λv=>some (.bm [v,.bool t],h2)) λv h'=>v=tu (if t=true then some o else none)∧HS g h' (aO S a x::R):=λ{o t h'} e H'=>by
  refine qh H' .here rfl (by trivial) rfl λh2 H2=>?_;refine qD H2 .here rfl omQ rfl<|qY ⟨e.symm,aO.I r H2.drop⟩
 by_cases c0:x.state=0
 ·rw[iJ c0];refine qj (by grind) (qX ?_);refine qK (qQ (qc (qZ H1 e_1 rfl ?_)));exact qy (l:=jn (ck 9 x.me 1)) rfl (rI rfl H1)
 refine qV (by grind) (qJ ?_);rw[iQ c0];by_cases c1:x.state=1
 ·rw[iJ c1];refine qj (by grind) (qX ?_);exact qy (l:=jn (ck 6 0 0)) rfl (rI rfl H1)
 refine qV (by grind) (qJ ?_);rw[iQ c1];by_cases c2:x.state=2
 ·rw[iJ c2];refine qj (by grind) (qX ?_);refine qK (qQ (qc (qZ H1 e_1 rfl ?_)));refine qK (qQ (qZ H1 e_1 (x:=.int .u64 x.ak) (by rw[← r.be c2];rfl) ?_));refine JX<|qy (l:=jn (ck 9 x.me (zC .u64 (x.ak+1)))) rfl (rI rfl H1)
 refine qV (by grind) (qJ ?_);rw[iQ c2];have get:∀{o:dR} {z:AV} {O':Option dR},some z=O'.map (λo=>AV.agg (jn o))→∃o,z=.agg (jn o)∧O'=some o:=λ{o z O'} e=>by
  cases O' with
  |none=>grind
  |some o'=>grind
 by_cases c3:x.state=3
 ·rw[iQ omQ,iQ omQ,iJ c3];refine qj (by grind) (qX ?_);obtain⟨b,⟨e1,e2⟩,H2⟩:=aU.nK c3 (O.c0 omQ) (H1.ah e_5);refine qK (qQ (qZ H1 e_1 (x:=.ptr b 0) (by rw[← e2];rfl) ?_));refine qW (qQ4 omQ (r.fa c3).2 H2) ?_;rintro z h3 ⟨ez,H3⟩;obtain⟨o,rfl,eo⟩:=get (o:=ck 0 0 0) ez;rw[eo];have H4:=aU.mE (st:=x.state) (e:=x.e) (ev:=q.ev) (c:=x.c) c3 (O.c0 omQ) ⟨e1,e2⟩ H3;exact rI rfl (H4.pk [1,1,1,1,1,0] 0)
 refine qV (by grind) (qJ ?_);by_cases tX:x.state=4∨x.state=5
 ·rw[iQ omQ,iQ omQ,iQ omQ,iQ omQ];refine qj (by grind) (qX ?_);obtain⟨b,⟨e1,e2⟩,H2⟩:=aU.mG tX (O.c0 omQ) (H1.ah e_5);refine qK (qQ (qZ H1 e_1 (x:=.ptr b 0) (by rw[← e2];rfl) ?_));have OE:=O.e omQ omQ;refine qW (qQF omQ (r.ef tX).1 (λhl=>⟨OE.lo,OE.Hi (r.ef tX).1 hl⟩) H2) ?_;rintro z h3 ⟨ez,H3⟩;obtain⟨o,rfl,eo⟩:=get (o:=ck 0 0 0) ez;rw[eo];have H4:=aU.mF (st:=x.state) (f:=x.f) (fv:=q.fv) (c:=x.c) tX (O.c0 omQ) ⟨e1,e2⟩ H3;exact rI rfl (H4.pk [1,1,1,1,1,0] 0)
 refine qV (by grind) (qJ ?_);by_cases c6:x.state=6
 ·rw[iQ omQ,iQ omQ,iQ c3,iJ c6];refine qj (by grind) (qX ?_);cases hc:x.c with
  |none=>exact absurd hc (O.c6 c6)
  |some c=>obtain⟨b,⟨e1,e2⟩,H2⟩:=aU.hP hc (H1.ah e_5);refine qK (qQ (qZ H1 e_1 (x:=.ptr b 0) (by rw[← e1];rfl) ?_));refine qW (qGh omQ (O.c c hc) (r.cf c6 c hc) H2) ?_;rintro z h3 ⟨ez,H3⟩;obtain⟨o,rfl,eo⟩:=get (o:=ck 0 0 0) ez;rw[Option.bind_some,eo];have H4:=aU.lG (st:=x.state) (f:=x.f) (e:=x.e) (fv:=q.fv) (ev:=q.ev) hc ⟨e1,e2⟩ H3;exact rI rfl (H4.pk [1,1,1,1,1,0] 0)
 refine qV (by grind) (qJ ?_);by_cases c7:x.state=7
 ·rw[iJ c7];refine qj (by grind) (qX ?_);refine qK (qQ (qc (qZ H1 e_1 rfl ?_)));exact qy (l:=jn (ck 9 x.me 0)) rfl (rI rfl H1)
 rw[iQ c7,iJ omQ];refine qV (by grind) (qJ ?_);exact qy rfl (rI (t:=false) rfl H1)
end
end
section
variable {g h:AH} {L R R':List SP}
section
variable {n a b:Nat} {x:jd} {q:Oy} {S:SP}
theorem Kc {y:jd} {c:zG} (h8:y.state≠8) (hc:y.c=some c):yV y={ y with ak:=if(zl c||decide (c.p.fin=2))=true then gQ c else y.ak }:=by
 have key:zM y=(zl c||decide (c.p.fin=2)):=by simp_all[zM,iG]
 unfold yV;rw[key];by_cases hw:(zl c||decide (c.p.fin=2))=true
 ·grind
 ·rw[iQ hw,iQ hw]
theorem qYr {c:zG} (h6:x.state=6) (hc:x.c=some c) (E:Xx c):wA x=if c.p.fin=0 then{ x with ak:=if(zl c||decide (c.p.fin=2))=true then gQ c else x.ak }else
  yG { x with ak:=if(zl c||decide (c.p.fin=2))=true then gQ c else x.ak } c.p.fin c.p.err (if c.p.fin=2 then-1 else c.p.bM):=by
 have hf:yi x=(c.p.fin,c.p.bM):=by simp_all[yi,omQ]
 have e0:wA x=yV (if c.p.fin=0 then x else yG x c.p.fin c.p.err (if c.p.fin=2 then-1 else c.p.bM)):=by
  unfold wA;rw[hf];dsimp only
  congr 1
  by_cases c0:c.p.fin=0
  ·grind
  rw[iQ c0,iQ c0];rcases E with⟨E,_⟩ |⟨E1,E2,E3⟩ |⟨E1,E2⟩ |⟨E1,E2⟩
  all_goals simp_all[omQ,yy]
 rw[e0]
 split
 ·exact Kc omQ hc
 ·exact Kc (by nofun) hc
theorem qYe {an:cT} (hn:18≤n) (O:zE x) (ha:Kd an) (s:aR R S R') (H:HS g h (aO S a x::R)):af n 17 [.ptr a 0,.agg (jI an)] h λ_ h'=>HS g h' (aO S a (yc x an)::R):=by
 refine aG rfl omQ λk hk=>?_;unfold S17;try simp only[iZ]
 have bK:=O.st;obtain⟨q,r,H0⟩:=aO.E H;refine qH H0 rfl λb0 h1 H1=>?_;refine qK (qQ (qc (qZ H1 e_1 rfl ?_)));generalize hA:yc x an=A;unfold yc at hA;by_cases c8:x.state=8
 ·rw[iJ c8]at hA;subst hA;exact jJ (λh=>r.DO.1 h c8) (qX (qY (aO.I r H1.drop)))
 rw[iQ c8]at hA;refine q9 (r.DO.2 c8) (qJ ?_);have dZ:=r.ends c8;have rp:=r.ph;unfold DN at rp;have eX:xV x q=zQ ⟨x.me,q.sp,0,-1,0⟩ q.sp++(xV x q).drop 5:=by grind[xV,zQ]
 have H2:HS g h1 (qx a (zQ ⟨x.me,q.sp,0,-1,0⟩ q.sp++(xV x q).drop 5)::qx b0 (jI an)::bc S q.vb x.aW q.xv q.bv q.sw q.kv::aP q.vb x.v::bB q.rb x.r::aU x.state x.f x.e x.c q.fv q.ev q.cv::R):=by rw[← eX];exact H1.pk [1,0] 0
 refine qK (qQ ?_);refine qD H1 .here rfl omQ rfl<|qW (Xs (p:=⟨x.me,q.sp,0,-1,0⟩) (sp:=q.sp) omQ rfl (λ_=>⟨rfl,rfl,rfl⟩) H2) ?_;rintro _ h3 ⟨e8,rfl,Q',H3⟩;by_cases ce:an.err=0
 rotate_left
 ·rw[iJ ce]at hA;subst hA;have e0:qo ⟨x.me,q.sp,0,-1,0⟩ an=(true,jc ⟨x.me,q.sp,0,-1,0⟩ 4 an.err (-1)):=by
   unfold qo;grind
  rw[e0]at H3 ⊢;refine qX ?_;refine qK (qQ (qw H3 (b:=a) .here ⟨rfl,rfl⟩ (by simp[xV]) λh4 H4=>qY ?_));refine aO.I (q:={ q with sp:=e8,en:=4,ee:=an.err,eb:=-1,ph:=7 }) ⟨⟨rfl,rfl,rfl⟩,rfl,λ_ h=>absurd h (by simp),λh=>(by grind),λh=>(by grind),λh=>(by grind),λh=>(by grind),λ_=>.inr (.inr (.inl rfl)),λh=>absurd h (by simp),λh=>(by grind),λh=>absurd h (by simp)⟩ ?_;have H5:=aU.out (st':=8) (.inr rfl) (H4.ah e_5);exact H5.pk [1,2,2,2,0] 1
 rw[iQ (λh=>h ce)]at hA;have e0:qo ⟨x.me,q.sp,0,-1,0⟩ an=(false,⟨x.me,q.sp,0,-1,0⟩):=GF rfl ce;rw[e0]at H3 Q' ⊢;have q1:e8=q.sp:=(Q' rfl).1;subst q1;rw[← eX]at H3;refine qJ (qK (qQ (qZ H3 .here rfl ?_)));refine jq [] (λ_ h'=>HS g h' (aO S a A::R)) (λj hj=>?_) λ_ h' H'=>qg (qY H');by_cases c0:x.state=0
 ·rw[iJ c0]at hA;subst hA;refine qj (by grind) (qX ?_);refine qK (qQ (qw H3 (b:=a) .here ⟨rfl,rfl⟩ (by simp[xV]) λh4 H4=>hj _ _ (aO.I (q:={ q with ph:=1 }) ?_ ?_)))
  ·exact⟨dZ,rfl,λh=>absurd h (by simp),λh=>(by grind),λh=>(by grind),λh=>(by grind),λh=>(by grind),λh=>absurd h (by simp),λ_=>⟨λh=>(by have:=(r.bl omQ).1 h;omega),λh=>(by grind)⟩,λh=>(by grind),λ_=>r.bg omQ⟩
  ·obtain⟨e,H5⟩:=aU.tB (O.c0 omQ) (H4.ah e_5);have H6:=aU.mg (st:=1) (f:=x.f) (e:=x.e) (c:=x.c) (fv:=q.fv) (ev:=q.ev) od (O.c0 omQ) e H5;exact H6.pk [1,2,2,2,0] 1
 rw[iQ c0]at hA;refine qV (by grind) (qJ ?_);by_cases c1:x.state=1
 ·rw[iJ c1]at hA;subst hA;refine qj (by grind) (qX (qG ?_))
  try dsimp only
  refine qQ (qZ H3 (b:=b0) e_1 rfl ?_);refine qQ (qZ H3 e_1 rfl ?_);refine qK (qQ (qw H3 .here ⟨rfl,rfl⟩ (by simp[xV]) λh4 H4=>?_));refine qK (qQ (qw H4 .here ⟨rfl,rfl⟩ (by simp[xV]) λh5 H5=>?_));refine qK (qQ (qw H5 .here ⟨rfl,rfl⟩ (by simp[xV]) λh6 H6=>?_));refine qu H3 e_1 rfl H4 e_1 rfl (HS.lt H3 e_1)<|qK (qQ (qw H6 .here ⟨rfl,rfl⟩ (by simp[xV]) λh7 H7=>hj _ _ (aO.I (q:={ q with ph:=2 }) ?_ ?_)))
  ·exact⟨dZ,rfl,λh=>absurd h (by simp),λh=>(by grind),λh=>(by grind),λh=>(by grind),λh=>(by grind),λh=>absurd h (by simp),λ_=>⟨λh=>(by have:=(r.bl omQ).1 h;omega),λh=>(by grind)⟩,λ_=>rfl,λh=>absurd h (by simp)⟩
  ·obtain⟨e,H8⟩:=aU.tB (O.c0 omQ) (H7.ah e_5);have H9:=aU.mg (st:=2) (f:=x.f) (e:=x.e) (c:=x.c) (fv:=q.fv) (ev:=q.ev) od (O.c0 omQ) e H8;exact H9.pk [1,2,2,2,0] 1
 rw[iQ c1]at hA;refine qV (by grind) (qJ ?_);by_cases c2:x.state=2
 ·rw[iJ c2]at hA;subst hA;refine qj (by grind) (qX ?_);obtain⟨e,H4⟩:=aU.tB (O.c0 omQ) (H3.ah e_5);have hb:x.aH=false:=by
   cases hx:x.aH with
   |false=>rfl
   |true=>have:=(r.bl omQ).1 hx;omega
  refine qW (Zb (q:=q) (R:=R) omQ O.b (O.aW.same λ_=>by omega) (O.c0 omQ) e dZ hb s (H4.pk [0,1,1,1] 1)) λ_ h5 H5=>hj _ _ H5
 rw[iQ c2]at hA;refine qV (by grind) (qJ ?_);by_cases c3:x.state=3
 ·rw[iQ omQ,iJ c3]at hA;subst hA;refine qj (by grind) (qX ?_);obtain⟨b,⟨e1,e2⟩,H4⟩:=aU.nK c3 (O.c0 omQ) (H3.ah e_5);refine qK (qQ (qZ H3 (b:=a) .here (x:=.ptr b 0) (by rw[← e2];rfl) ?_));refine qD H3 e_1 rfl omQ rfl ?_;have hf:=r.fa c3;have hF:=O.f c3;refine qW (qGe omQ hf.2 (hF.1 hf.2) H4) λ_ h5 H5=>?_;obtain⟨t1,t2⟩:=ZE hf.2 ce;have hb:x.aH=false:=by
   cases hx:x.aH with
   |false=>rfl
   |true=>have:=(r.bl omQ).1 hx;omega
  have O':zE { x with f:=xQ x.f an }:=⟨O.set,O.ap,O.sz,O.fr,O.r,O.aW,O.st,λh=>⟨Jc (O.f h).1,Yj (O.f h).2 ha⟩,O.aw,O.e,O.c,O.c0,O.c6⟩;have eT:wA { x with f:=xQ x.f an }=xU { x with f:=xQ x.f an }:=fP.stamped (fP.led (O.c0 omQ));rw[eT]at hj ⊢;refine qW (qQ7 (R:=R) omQ O' c3 t2 (t1.trans hf.1) (r.nd omQ omQ) e1 e2 dZ (by grind) hb s (H5.pk [1,2,2,2,0] 1)) λ_ h6 H6=>hj _ _ H6
 refine qV (by grind) (qJ ?_);by_cases tX:x.state=4∨x.state=5
 ·rw[iQ omQ,iQ c3,iQ omQ]at hA;subst hA;refine qj (by grind) (qX ?_);obtain⟨b,⟨e1,e2⟩,H4⟩:=aU.mG tX (O.c0 omQ) (H3.ah e_5);refine qK (qQ (qZ H3 (b:=a) .here (x:=.ptr b 0) (by rw[← e2];rfl) ?_));refine qD H3 e_1 rfl omQ rfl ?_;have he:=r.ef tX;have OE:=O.e omQ omQ;refine qW (qQP omQ he.1 ce he.2 OE H4) λ_ h5 H5=>?_;obtain⟨t1,t2⟩:=Z8 he.1 ce;have O':zE { x with e:=xM x.e an }:=⟨O.set,O.ap,O.sz,O.fr,O.r,O.aW,O.st,O.f,O.aw,λh1 h2=>Jn (O.e h1 h2),O.c,O.c0,O.c6⟩;have eT:wA { x with e:=xM x.e an }=xU { x with e:=xM x.e an }:=fP.stamped (fP.led (O.c0 omQ));rw[eT]at hj ⊢;refine qW (OB omQ O' tX t2 t1 (λh=>r.nd (by grind) (by grind)) e1 e2 dZ (by grind) (r.bl omQ) (H5.pk [1,2,2,2,0] 1)) λ_ h6 H6=>hj _ _ H6
 refine qV (by grind) (qJ ?_);by_cases c6:x.state=6
 rotate_left
 ·have c7:x.state=7:=by omega
  rw[iJ c7]at hA;subst hA;refine qV (by grind) (qJ ?_);refine qj (by grind) (qX ?_);obtain⟨o1,o2,o3⟩:=r.ou c7;refine qK (qQ (qZ H3 .here rfl ?_));refine qK (qQ (qZ H3 .here rfl ?_));refine qK (qQ (qZ H3 .here rfl ?_));refine qK (qQ (qw H3 .here ⟨rfl,rfl⟩ (by simp[xV]) λh4 H4=>?_));refine qK (qQ (qc (qw H4 .here ⟨rfl,rfl⟩ (by simp[xV]) λh5 H5=>?_)));refine qK (qQ (qc (qw H5 (b:=a) .here ⟨rfl,rfl⟩ (by simp[xV]) λh6 H6=>?_)));refine qK (qQ (qc (qw H6 (b:=a) .here ⟨rfl,rfl⟩ (by simp[xV]) λh7 H7=>?_)));refine hj _ _ (aO.I (q:={ q with ph:=7,en:=q.ou,ee:=q.er,eb:=q.bM }) ⟨⟨o1,o2,o3⟩,rfl,λ_ h=>absurd h (by simp),λh=>(by grind),λh=>(by grind),λh=>(by grind),λh=>(by grind),λ_=>r.fin omQ,λh=>absurd h (by simp),λh=>(by grind),λh=>absurd h (by simp)⟩ ?_);have H8:=aU.out (st':=8) (.inr rfl) (H7.ah e_5);exact H8.pk [1,2,2,2,0] 1
 rw[iQ omQ,iQ c3,iJ c6]at hA;subst hA;refine qj (by grind) (qX ?_);cases hc:x.c with
 |none=>exact absurd hc (O.c6 c6)
 |some c=>
  rw[hc]at hj;obtain⟨b,⟨e1,e2⟩,H4⟩:=aU.hP hc (H3.ah e_5);refine qK (qQ (qZ H3 (b:=a) .here (x:=.ptr b 0) (by rw[← e1];rfl) ?_));refine qD H3 (b:=b0) e_1 rfl omQ rfl ?_;have Oc:=O.c c hc;refine qW (qV8 omQ Oc H4) λ_ h5 H5=>?_;have E:=qWR (a:=an) e2 Oc.st ce;have Oc2:=Yk Oc ha;have eT:=qYr (x:={ x with c:=some (zD c an) }) c6 rfl E;rw[show(Option.map (λc=>zD c an) (some c))=some (zD c an)from rfl,eT]at hj ⊢;generalize zD c an=d at*;have Hj:=Oc2.now;obtain⟨dq,dr,dm,H6⟩:=bN.E H5;generalize hw:(zl d||decide (d.p.fin=2))=w at*;have hT:w=true→dq.t=d.now∧gQ d=d.now+1:=λh=>by
   have h2:d.p.fin=0∨d.p.fin=2:=by
    rw[← hw]at h;unfold zl at h;grind
   have h3:d.writing=true∧3≤d.state∧d.state≤6:=by
    rcases h2 with d0 |d2
    ·rw[← hw]at h;unfold zl at h;rw[iG d0,Bool.and_true,iV omQ,Bool.or_false]at h;have:=(dr.w (.inl d0)).1 h;grind
    ·have h4:=(dr.w (.inr d2)).2 (.inl d2);have h5:d.state=6:=by
      rcases E with E |E |E
      all_goals grind[OZ]
     grind
   refine⟨dr.t h3.2.1 h3.2.2,?_⟩;grind[gQ]
  refine jq [] (λz h'=>z=(.ptr a 0,())∧HS g h' (qx a (xV { x with c:=some d,ak:=if w=true then gQ d else x.ak } q)::bN b d::bc S q.vb x.aW q.xv q.bv q.sw q.kv::aP q.vb x.v::bB q.rb x.r::R)) (λj2 nQ=>?_) ?_
  ·have Tc:∀{K:AV→Go.Ae.R} {Q:AV→AH→Prop},wp (K (.ptr b 0)) Q→wp (jo (.ptr a 0) λv=>qI v 22 λv=>ql h5 v K) Q:=λw=>qK (qQ (qZ H5 e_1 (by rw[← e1];rfl) w));refine Tc (qW (Y8 omQ H5) ?_);rintro _ h5 ⟨rfl,rfl⟩;refine gS (λz g'=>g'=h5∧∃u v,z=(u,v,.ptr a 0,())∧((v=.bool true∧w=true)∨(v=.bool false∧u=.bool w))) (λj hj=>?_) ?_
   ·cases hcw:zl d with
    |true=>refine qf (hj _ _ ⟨rfl,_,_,rfl,.inl ⟨rfl,?_⟩⟩);grind
    |false=>refine qM (Tc (qK (qQ (qc (qZ H6 .here rfl ?_)))));refine gc (hj _ _ ⟨rfl,_,_,rfl,.inr ⟨rfl,?_⟩⟩);grind
   rintro _ h5 ⟨rfl,u,v,rfl,huv⟩;have hp:∀{K:AV→Go.Ae.R} {Q:AV→AH→Prop},wp (K (.bool w)) Q→wp (zo v (.bool true) u K) Q:=λ{K Q} wk=>by
    rcases huv with⟨rfl,fO⟩ |⟨rfl,rfl⟩
    ·rw[fO]at wk;exact qC wk
    ·exact qB wk
   refine hp ?_;cases w with
   |true=>obtain⟨t1,t2⟩:=hT rfl;refine qX (Tc ?_);refine qK (qQ (qZ H6 (b:=b) .here (x:=.int .u64 d.now) (by rw[← t1];rfl) ?_));refine xT omQ<|qK (qQ (qw H5 (b:=a) e_1 ⟨rfl,rfl⟩ (by simp[xV]) λh6 H7=>nQ _ _ ⟨rfl,?_⟩));rw[iJ rfl,t2];exact H7.pk [0,0] 1
   |false=>refine qJ (nQ _ _ ⟨rfl,?_⟩);rw[iQ (nofun)];exact H5.pk [1,0] 1
  rintro _ h6 ⟨rfl,H7⟩;clear H5 H6;generalize(if w=true then gQ d else x.ak)=st at*;obtain⟨dq,dr,dm,H8⟩:=bN.E (H7.ah e_1);refine qK (qQ (qZ H8 (b:=a) e_5 (x:=.ptr b 0) (by rw[← e1];rfl) ?_));refine qK (qQ (qc (qZ H8 .here rfl ?_)));have gone:∀{f e y:Int} {h7:AH},(f=2∨f=3∨f=4∨f=5)→HS g h7 (qx a (xV { x with c:=some d,ak:=st } { q with ph:=6,ou:=f,er:=e,bM:=y })::bN b d::bc S q.vb x.aW q.xv q.bv q.sw q.kv::aP q.vb x.v::bB q.rb x.r::R)→HS g h7 (aO S a (yG { x with c:=some d,ak:=st } f e y)::R):=λ{f e y h7} h0 H'=>by
   refine aO.I (wg.gone dZ h0) ?_;have Fj:=aU.lG (st:=7) (f:=x.f) (e:=x.e) (c:=some d) (fv:=q.fv) (ev:=q.ev) rfl ⟨e1,E⟩ (H'.ah e_1);exact Fj.pk [1,1,1,1,0] 0
  by_cases d0:d.p.fin=0
  ·rw[iJ d0]at hj ⊢;refine qG ?_
   try dsimp only
   refine qV omQ (qJ (qG ?_))
   try dsimp only
   refine qV omQ (qJ ?_);refine qV omQ (qJ (hj _ _ (aO.I ⟨⟨dZ.1.trans (iJ c8).symm,dZ.2.1.trans (iJ c8).symm,dZ.2.2.trans (iJ c8).symm⟩,?_,λh1 h2=>(by grind),λh=>(by grind),λh=>(by grind),λh=>(by grind),λ_ d' hd=>(by grind),λh=>(by grind),λh=>(by grind),λh=>(by grind),λh=>(by grind)⟩ ?_)))
   ·trivial
   ·have H9:=aU.lG (st:=x.state) (f:=x.f) (e:=x.e) (c:=some d) (fv:=q.fv) (ev:=q.ev) rfl ⟨e1,E⟩ (H7.ah e_1);exact H9.pk [1,1,1,1,0] 0
  rw[iQ d0]at hj ⊢;by_cases d2:d.p.fin=2
  ·have de:d.p.err=0:=by
    rcases E with E |E |E
    all_goals grind[OZ]
   rw[iJ d2,d2,de]at hj ⊢;refine qG ?_
   try dsimp only
   refine qj rfl (qX ?_);exact qW (gZ omQ H7) λ_ h7 H9=>hj _ _ (gone od H9)
  ·rw[iQ d2]at hj ⊢;have d45:d.p.fin=5∨d.p.fin=4:=by
    rcases E with E |E |E
    all_goals grind[OZ]
   refine qG ?_
   try dsimp only
   refine qV d2 (qJ ?_);refine jq [] (λz g'=>g'=h6∧z=(.bool true,.ptr a 0,())) (λj3 mq=>?_) ?_
   ·by_cases d5:d.p.fin=5
    ·exact qj d5 (qX (mq _ _ ⟨rfl,rfl⟩))
    ·exact qV d5 (qJ (qj omQ (mq _ _ ⟨rfl,rfl⟩)))
   rintro _ h6 ⟨rfl,rfl⟩;refine qX ?_;have Td:∀{f:Nat} {v:AV} {K:AV→Go.Ae.R} {Q:AV→AH→Prop},(xX d dq)[0+f]? =some v→wp (K v) Q→wp (jo (.ptr a 0) λv=>qI v 22 λv=>ql h6 v λv=>jo v λv=>qI v 0 λv=>qI v f λv=>ql h6 v K) Q:=λe w=>qK (qQ (qZ H8 e_5 (by rw[← e1];rfl) (qK (qQ (qc (qZ H8 .here e w))))));refine Td rfl<|Td rfl<|Td rfl<|qW (gZ omQ H7) λ_ h7 H9=>hj _ _ (gone omQ H9)
end
end
section
theorem ZP {α:Type} {enc:α→List AV} {es:List ES} {sz p:Nat} {D1 D2:Nat→Prop} {a b:AV} {xs:List α} {h:AH} (he:∀x,(enc x).length=sz) (h0:0<sz) (hr:∀x,xk es (enc x) (enc x)=some true)
  (S1:Sl D1 h sz p a (xs.flatMap enc)) (S2:Sl D2 h sz p b (xs.flatMap enc)) (hp:p<100000000) :
  wp (xi a λv0=>xi b λv1=>jY .neq v0 v1 λv2=>jw v2 (some ((.bool false),h)) (
   wN (σ:=AV×AV×AV×Unit) NN (λi6 s3 h4 d5=>xi s3.2.2.1 λv7=>jY .lss s3.1 v7 λv8=>jw v8 (
    xy s3.2.2.1 s3.1 sz λv9=>q8 h4 v9 sz λv10=>xy s3.2.1 s3.1 sz λv11=>q8 h4 v11 sz λv12=>kU es true v10 v12 λfm=>jw fm (
     jR d5 h4 λim=>some ((.bool false),im)) (
     jY .add s3.1 (.int .i64 ((1:Nat):Int)) λfG=>i6 (fG,s3.2.1,s3.2.2.1,()) h4 d5)) (
    jR d5 h4 λdQ=>some ((.bool true),dQ))) ((.int .i64 ((0:Nat):Int)),b,a,()) h [])) λv h'=>v=.bool true∧h'=h:=by
 have mY:xs.length=p:=by have:=S1.len;rw[vD enc he]at this;grind[Nat.eq_of_mul_eq_mul_right]
 refine zH S1 (zH S2 (q9 rfl (qJ ?_)));refine jF (λm s g=>∃i:Nat,s=(.int .i64 (i:Int),b,a,())∧i≤p∧m=p-i∧g=h) ?_ (by show p<1000000000;omega) ⟨0,rfl,by omega,by rfl,rfl⟩;rintro m ih s g aY ⟨i,rfl,h1,rfl,rfl⟩;refine zH S1 ?_;by_cases hi:i<p
 ·have hx:xs[i]? =some xs[i]:=iW omQ;refine jB omQ (qX ?_);refine zj S1 hi h0 (gO he hx)<|zj S2 hi h0 (gO he hx) ?_;unfold kU;simp only[hr,ob];refine qJ (qS omQ ?_);exact aY (p-(i+1)) _ _ omQ ⟨i+1,rfl,by omega,rfl,rfl⟩
 ·exact jk omQ (qJ (qg (qY ⟨rfl,rfl⟩)))
theorem J4 (x:Int):eV x x=true:=by simp[Ky]
section
variable {n p:Nat} {D1 D2:Nat→Prop} {a b:AV} {h:AH}
theorem qgS {xs:List xA} (hn:1≤n) (S1:Sl D1 h 2 p a (xs.flatMap xK)) (S2:Sl D2 h 2 p b (xs.flatMap xK)) (hp:p<100000000) :
  af n 54 [a,b] h λv h'=>v=.bool true∧h'=h:=by
 (refine qE rfl omQ λk hk=>?_;show wp (S54 (callT tab qv k) _ _ _) _;unfold S54;try simp only[iI,iZ])
 exact ZP (λ_=>rfl) omQ (λ⟨x,y⟩=>by show(bif eV x x then(bif eV y y then some true else some false)else some false)=_;simp[J4]) S1 S2 hp
theorem qgi {xs:List dI} (hn:1≤n) (S1:Sl D1 h 3 p a (xs.flatMap jS)) (S2:Sl D2 h 3 p b (xs.flatMap jS)) (hp:p<100000000) :
  af n 22 [a,b] h λv h'=>v=.bool true∧h'=h:=by
 (refine qE rfl omQ λk hk=>?_;show wp (S22 (callT tab qv k) _ _ _) _;unfold S22;try simp only[iI,iZ])
 exact ZP (λ_=>rfl) omQ (λ⟨x,y,z⟩=>by show(bif eV x x then(bif y==y then(bif eV z z then some true else some false)else some false)else some false)=_;simp[J4]) S1 S2 hp
end
end
section
variable {g h:AH} {L R:List SP}
theorem Ov {s:Bool} {K:AV→Go.Ae.R} {Q:AV→AH→Prop} (w:wp (K (.bool true)) Q):wp (lJ .bool false (.bool s) (.bool s) K) Q:=by
 cases s<;>exact w
theorem qYC {n a b:Nat} {x:jd} {S:SP} (hn:12≤n) (O:zE x) (H:HS g h (ax a x::aO S b x::R)) :
  af n 14 [.ptr a 0,.ptr b 0] h λr h'=>r=.bool true∧HS g h' (ax a x::aO S b x::R):=by
 refine aG rfl omQ λk hk=>?_;unfold S14;try simp only
 obtain⟨q,H0⟩:=ax.E H;obtain⟨d,r,HD⟩:=aO.E (H.ah e_1);have TK:=O.r;refine qW (qGN omQ H0 .here) ?_;rintro _ h ⟨rfl,rfl⟩;refine qA rfl (qA rfl ?_);refine qG ?_
 try dsimp only
 refine qW (qX7 omQ H0 .here) ?_;rintro _ h ⟨rfl,rfl⟩;refine qK (qQ (qQ (qZ HD .here rfl ?_)));refine qj r.en.1.symm (qR ?_);refine qW (qvS omQ H0 .here) ?_;rintro _ h ⟨rfl,rfl⟩;refine qK (qQ (qQ (qZ HD .here rfl ?_)));refine qj r.en.2.1.symm (qC (qR ?_));refine qW (qwu omQ H0 .here) ?_;rintro _ h ⟨rfl,rfl⟩;refine qK (qQ (qQ (qZ HD .here rfl ?_)));refine qj r.en.2.2.symm (qC (qR ?_));refine qK (qQ (qZ HD .here rfl ?_));refine qj rfl (qC (qR ?_));refine qK (qQ (qZ HD .here rfl ?_));refine Ov (qC (qR ?_));refine qW (qKt omQ H0 .here) ?_;rintro _ h ⟨rfl,rfl⟩;refine qK (qQ (qZ HD .here rfl ?_));refine qj rfl (qC (qR ?_));have lb:=HS.lt HD (b:=b) .here;have lv:d.vb<h.nx:=by obtain⟨kv,qk,HV⟩:=aP.E (HD.ah e_2);exact HS.lt HV .here
 have lr:d.rb<h.nx:=by obtain⟨lv,HV⟩:=bB.E (HD.ah e_3);exact HS.lt HV .here
 have H1:HS g h (ax a x::wU S b x d R):=HD.pk [5] 0;refine qW (qVa omQ O H1) ?_;rintro _ h2 ⟨rfl,H2⟩;refine qW (qGu omQ O r (H2.sub (L':=wU S b x d (ax a x::R)) (.cons e_1 (.cons e_1 (.cons e_1 (.cons e_1 (.cons e_1 (.cons .here .refl)))))))) ?_;rintro _ h3 ⟨rfl,H3⟩;refine qgt (qC (qR ?_));have H3:HS g h3 (ax a x::wU S b x d R):=H3.pk [5] 0;refine qW (XI omQ O.c H3) ?_;rintro _ h4 ⟨rfl,H4⟩;refine qW (Qp omQ (aO.I r (H4.pk [1,1,1,1,1] 0))) ?_;rintro _ h4 ⟨rfl,rfl⟩;refine Ov (qC (qR ?_));obtain⟨q4,H5⟩:=ax.E H4;refine qW (NT omQ H5 .here) ?_;rintro _ h4 ⟨rfl,rfl⟩;refine qW (OH omQ (aO.I r (H4.pk [1,1,1,1,1] 0))) ?_;rintro _ h4 ⟨rfl,rfl⟩;refine Ov (qC (qR ?_));obtain⟨Hy,H6⟩:=bB.E (H4.ah e_4);have H6:HS g h4 (ax a x::qx b (xV x d)::qx d.rb [.int .i64 16,Hy]::qF 122 2 x.r.length Hy (x.r.flatMap xK)::bc S d.vb x.aW d.xv d.bv d.sw d.kv::aP d.vb x.v::aU x.state x.f x.e x.c d.fv d.ev d.cv::R):=H6.pk [2,2,0,0] 0;refine qW (qza omQ O H6) λrs h7 H7=>?_;refine qK (qQ (qZ H7 e_2 rfl ?_));refine qK (qQ (qZ H7 e_3 rfl ?_));refine qW (qgS omQ (H7.sl .here) (H7.sl e_4) omQ) ?_;rintro _ h7 ⟨rfl,rfl⟩;refine qC (qR ?_);obtain⟨kv,qk,H8⟩:=aP.E (H7.ah e_6);have H8:HS g h7 (ax a x::qx b (xV x d)::qx d.vb [.int .i64 (x.v.sz:Int),kv,.ptr qk 0,.int .i64 x.v.aw]::qF 129 2 x.v.K.length kv (x.v.K.flatMap jH)::bV qk x.v.most x.v.lv::bc S d.vb x.aW d.xv d.bv d.sw d.kv::bB d.rb x.r::aU x.state x.f x.e x.c d.fv d.ev d.cv::R) :=
  (bB.I (H8.pk [6,6] 0)).sub (.cons e_5 (.cons e_5 (.cons e_1 (.cons e_1 (.cons e_1 (.cons e_2 (.cons .here (.drop (.cons .here .refl)))))))))
 refine qW (qGd omQ O H8) λrk h9 H9=>?_;have mO:x.v.K.length<100000000:=by have:=O.ap.ok.td;omega
 refine qK (qQ (qZ H9 e_2 rfl ?_));refine qK (qQ (qZ H9 e_3 rfl ?_));refine qW (ZN omQ (H9.sl .here) (H9.sl e_4) mO) ?_;rintro _ h9 ⟨rfl,rfl⟩;rw[iG rfl];refine qC (qR ?_);have HA:HS g h9 (ax a x::wU S b x d R):=(aP.I (H9.pk [3,3,3] 0)).pk [2,2,2,0,1,1] 1;refine qW (qVD omQ O HA) λrc hB HB=>?_;refine qW (qWD omQ O r (HB.sub (L':=wU S b x d (ax a x::qF 129 2 (vJ x).length rc ((vJ x).flatMap jH)::R)) (.cons e_2 (.cons e_2 (.cons e_2 (.cons e_2 (.cons e_2 (.cons e_1 (.cons .here .refl))))))))) λrd hC HC=>?_;have dz:(vJ x).length<100000000:=by
  unfold vJ
  split
  ·have:=(Gv O.ap.ok).1;omega
  simp
 refine qW (ZN omQ (HC.sl e_7) (HC.sl .here) dz) ?_;rintro _ hC ⟨rfl,rfl⟩;rw[iG rfl];refine qC (qR ?_);have HC2:HS g hC (ax a x::wU S b x d R):=HC.sub (.cons e_6 (.drop (.cons .here (.cons .here (.cons .here (.cons .here (.cons .here (.drop .refl))))))));refine qW (qGR omQ O HC2) ?_;rintro rf hE ⟨e,HE⟩;refine qW (qG8 omQ O r (HE.sub (L':=wU S b x d (ax a x::qF e 1 (yB x).length rf ((yB x).map (.int .i64))::R)) (.cons e_2 (.cons e_2 (.cons e_2 (.cons e_2 (.cons e_2 (.cons e_1 (.cons .here .refl))))))))) ?_;rintro rg hF ⟨T,HF,RF,_⟩;have Rq:(yB x).length≤1000000:=by
  unfold yB
  split
  ·split
   ·rename_i bs k hj;have:=O.aW;rw[hj]at this;have:=this.2;omega
   ·have:=O.fr;grind[Vn]
  simp
 refine qW (qjO omQ (HF.sl e_7) (RF _ HF) omQ) ?_;rintro _ hF ⟨rfl,rfl⟩;rw[iG rfl];refine qC (qu H8 e_2 rfl H9 e_3 rfl lv ?_);refine qu H8 e_1 rfl H9 e_2 rfl lb<|qu H6 e_2 rfl H7 e_3 rfl lr<|qu H6 e_1 rfl H7 e_2 rfl lb<|qu HD .here rfl HD .here rfl lb<|qu HD .here rfl HD .here rfl lb<|qu HD .here rfl HD .here rfl lb<|qu HD .here rfl HD .here rfl lb<|qY ⟨rfl,(aO.I r HF.drop).pk [1,0] 1⟩
end
section
variable {g h:AH} {L R:List SP}
section
variable {n b:Nat} {r:List R6}
end
end
section
variable {g h:AH} {L R:List SP}
structure Te where
  rv:AV
  cv:AV
  fe:TypeId
  fv:AV
def Ah (x:Option jd) (v:AV):SP:=match x with
 |none=>.di (v=.au)
 |some x=>.ex λa:Nat=>.all [.di (v=.ptr a 0),ax a x]
structure DP where
  jv:AV
  gv:AV
  nv:AV
  pv:AV
  rv:AV
  lb:Nat
  sv:AV
section
variable {n b:Nat} {t:xB} {q:DP}
theorem Ah.E {x:jd} {v:AV} (H:HS g h (Ah (some x) v::R)):∃a,v=.ptr a 0∧HS g h (ax a x::R):=by obtain⟨a,H⟩:=(show HS g h (.ex (λa:Nat=>SP.all [.di (v=.ptr a 0),ax a x])::R)from H).dj;have H:=H.bS.cX;simp_all
theorem Ah.I {x:jd} {a:Nat} (H:HS g h (ax a x::R)):HS g h (Ah (some x) (.ptr a 0)::R) :=
 show HS g h (.ex (λa':Nat=>SP.all [.di (AV.ptr a 0=.ptr a' 0),ax a' x])::R)from HS.dE a (HS.allI (HS.dF rfl H))
end
end
section
variable {g h:AH} {L R:List SP}
section
variable {n b:Nat} {t:xB} {q:DP}
theorem ThrB.next (B:ThrB t) (hj:t.aW<t.eS.length):ThrB { t with aW:=t.aW+1,aV:=false,dp:=[],dM:=0,dY:=0 }:=by have h1:=B.aW;have h2:=B.cq;exact⟨B.set,B.me,B.eS,B.jl,by grind,by grind,B.cd,by simp,by simp,λ_=>rfl⟩
end
end
section
variable {g h:AH} {L R:List SP}
section
variable {n a b:Nat} {t:xB} {q:DP} {x:jd}
end
end
section
variable {g h:AH} {L R:List SP}
section
variable {n a b:Nat} {t:xB} {q:DP} {x:jd}
end
end
section
variable {g h:AH} {L R R':List SP}
def pK (S:SP) (x:Option jd) (v:AV):SP:=match x with
 |none=>.di (v=.au)
 |some x=>.ex λa:Nat=>.all [.di (v=.ptr a 0),aO S a x]
structure Oz where
  jv:AV
  gv:AV
  nv:AV
  pv:AV
  rv:AV
  lv:AV
  sv:AV
  js:List AV
  zs:List Int
  bo:Int
  al:Bool
  le:Int
  at_:Int
def JsR (S:SP) (t:xB) (q:Oz):Prop:=q.js.length=t.eS.length∧∀(k:Nat) (l:List qe) (v:AV),t.eS[k]? =some l→q.js[k]? =some v→mS S 5 l.length v (l.flatMap jG)
structure RthR (S:SP) (t:xB) (q:Oz):Prop where
  js:JsR S t q
  bo:t.state≠6→q.bo=t.born∧q.al=t.pG
  le:t.state=3→q.le=t.lF
  at_:t.state=5→q.at_=t.cd.length∧q.zs=t.cd++List.replicate (t.set.aF.toNat-t.cd.length) 0
section
variable {n a b:Nat} {t:xB} {q:Oz} {S:SP} {x:jd}
theorem pK.E {v:AV} (H:HS g h (pK S (some x) v::R)):∃a,v=.ptr a 0∧HS g h (aO S a x::R):=by obtain⟨a,H⟩:=(show HS g h (.ex (λa:Nat=>SP.all [.di (v=.ptr a 0),aO S a x])::R)from H).dj;have H:=H.bS.cX;simp_all
theorem pK.I {v:AV} (e:v=.ptr a 0) (H:HS g h (aO S a x::R)):HS g h (pK S (some x) v::R) :=
 show HS g h (.ex (λa':Nat=>SP.all [.di (v=.ptr a' 0),aO S a' x])::R)from HS.dE a (HS.allI (HS.dF e H))
end
end
section
variable {g h:AH} {L R R':List SP}
section
variable {n a b:Nat} {t:xB} {q:Oz} {S:SP} {x:jd}
end
end
section
variable {g h:AH} {L R R':List SP}
section
variable {n a b:Nat} {t:xB} {q:Oz} {S:SP} {x:jd}
end
end
section
variable {g h:AH} {L R R':List SP}
section
variable {n a b:Nat} {t:xB} {q:Oz} {S:SP} {x:jd}
end
end
section
variable {g h:AH} {L R R':List SP}
section
variable {n a b:Nat} {t:xB} {q:Oz} {S:SP} {x:jd}
end
end
section
variable {g h:AH} {L R:List SP}
structure RdRec (g:AH) (L:List SP) (z:CH×Te):Prop where
  r:Rd g L 2 z.1.reads.length z.2.rv (z.1.reads.flatMap jH)
  c:Rd g L 2 z.1.cells.length z.2.cv (z.1.cells.flatMap jH)
  f:Rd g L 1 z.1.A5.length z.2.fv (z.1.A5.map (.int .i64))
section
variable {t:xB} {x:jd}
end
end
section
variable {g h:AH} {L R R':List SP}
section
variable {n a b:Nat} {t:xB} {q:Oz} {S:SP} {x:jd}
end
end
section
variable {g h:AH} {L R:List SP}
def GV (S:xn) (M:zn) (wv lv sv:AV):List AV:=[.int .i64 S.words,.int .i64 S.aj,.int .i64 S.wide,.int .i64 S.aF,.int .u64 S.start,wv,lv,.int .u64 M.n,sv,.int .i64 M.cY]
abbrev wT (p:Nat) (S:xn) (M:zn) (wv lv sv:AV) (R:List SP):List SP :=
 qx p (GV S M wv lv sv)::qF 22 1 M.w.length wv (M.w.map (.int .u64))::qF 54 3 M.l.length lv (M.l.flatMap jS)::qF 22 1 M.s.length sv (M.s.map (.int .u64))::R
def aS (p:Nat) (S:xn) (M:zn):SP:=.ex λq:AV×AV×AV=>.all (wT p S M q.1 q.2.1 q.2.2 [])
section
variable {n p:Nat} {S:xn} {M:zn} {o:dR} {wv lv sv:AV}
theorem aS.E (H:HS g h (aS p S M::R)):∃wv lv sv,HS g h (wT p S M wv lv sv R):=by obtain⟨⟨wv,lv,sv⟩,H⟩:=H.dj;exact⟨wv,lv,sv,H.bS⟩
theorem aS.I (H:HS g h (wT p S M wv lv sv R)):HS g h (aS p S M::R):=HS.dE (wv,lv,sv) (HS.allI H)
theorem qxF {l:dI} (hn:1≤n) (H:HS g h R):af n 138 [.agg (jS l)] h λr h'=>r=.bool (decide (Gn l))∧HS g h' R:=by
 refine ag rfl omQ λk hk=>?_;unfold S138;try simp only[iZ]
 obtain⟨w,d,o⟩:=l;refine qH H rfl λb h1 H1=>?_;refine qQ (qZ H1 .here rfl ?_);refine xF (λc1=>?_) (λc1=>?_)
 ·refine qX (qY ⟨?_,H1.drop⟩);cases d with
  |true=>simp_all[iV,YM]
  |false=>simp_all[iV,KD]
 ·refine qJ (qQ (qZ H1 .here rfl ?_));cases d with
  |true=>
   refine qX (qQ (qZ H1 .here rfl ?_));by_cases c2:0≤o
   ·refine jA c2 (qG ?_)
    try dsimp only
    refine qR (qQ (qZ H1 .here rfl ?_));by_cases c3:o<4
    ·exact jB c3 (qC (qY ⟨by simp_all[iG,YM],H1.drop⟩))
    ·exact jk c3 (qC (qY ⟨by simp_all[iV,YM],H1.drop⟩))
   ·refine jz c2 (qG ?_)
    try dsimp only
    exact qT (qB (qY ⟨by simp_all[iV,YM],H1.drop⟩))
  |false=>
   refine qJ (qQ (qZ H1 .here rfl ?_));by_cases c2:o=0
   ·exact qj c2 (qY ⟨by simp_all[iG,KD],H1.drop⟩)
   ·exact qV c2 (qY ⟨by simp_all[iV,KD],H1.drop⟩)
theorem Yb {b:Nat} {a:cT} {Q:AV→AH→Prop} (H:HS g h (qx b (jI dX)::R)) (q:∀h',HS g h' R→Q (.agg (jI a)) h'):wp (qn h (.ptr b 0) (.agg (jI a)) 6 λh'=>q8 h' (.ptr b 0) 6 λv=>some (v,h')) Q:=by refine qh H .here rfl (by trivial) rfl λh2 H2=>?_;exact qD H2 .here rfl omQ rfl (qY (q _ H2.drop))
theorem qVA (hn:1≤n) (H:HS g h (wT p S M wv lv sv R)) :
  af n 76 [.ptr p 0,.agg (jn o)] h λr h'=>r=.agg (jI (Ks M o).1)∧HS g h' (wT p S (Ks M o).2 wv lv sv R):=by
 refine aG rfl omQ λk hk=>?_;unfold S76;try simp only[iZ]
 refine qH H rfl λb0 h1 H1=>?_;refine qH H1 rfl λb1 h2 H2=>?_;unfold Ks;refine qQ (qZ H2 e_1 rfl ?_);by_cases c1:o.at_<1
 ·rw[iJ (Or.inl c1)];refine jB c1 (qG ?_)
  try dsimp only
  refine qf (qC (qX ?_));exact qy (l:=jI (ia 2)) rfl (Yb H2 λh' H'=>⟨rfl,H'.drop⟩)
 refine jk c1 (qG ?_)
 try dsimp only
 refine qM (qQ (qZ H2 e_1 rfl ?_));refine qK (qQ (qZ H2 e_2 rfl ?_));refine qd H2 e_3 ?_;by_cases c2:(M.w.length:Int)≤o.at_
 ·rw[iJ (Or.inr c2)];refine jA c2 (qB (qX ?_));exact qy (l:=jI (ia 2)) rfl (Yb H2 λh' H'=>⟨rfl,H'.drop⟩)
 rw[iQ omQ];refine jz c2 (qB (qJ ?_));refine qQ (qZ H2 e_1 rfl ?_);obtain⟨k,hk⟩:∃k:Nat,o.at_=k:=⟨o.at_.toNat,by omega⟩;by_cases c3:o.kind=1
 ·rw[iJ c3];refine qj c3 (qX ?_);refine qK (qQ (qZ H2 e_2 rfl ?_));refine qQ (qZ H2 e_1 (x:=.int .i64 (k:Int)) (by rw[← hk];rfl) ?_);refine jN (H2.sl e_3) (by rw[List.getElem?_map,yS omQ];rfl)<|qy (by rw[hk];rfl) (Yb H2 λh' H'=>⟨rfl,H'.drop⟩)
 ·rw[iQ c3];refine qV c3 (qJ ?_);refine qK (qQ (qZ H2 e_2 rfl ?_));refine qQ (qZ H2 e_1 (x:=.int .i64 (k:Int)) (by rw[← hk];rfl) ?_);refine qQ (qZ H2 e_1 rfl ?_);refine yr (H2.ah e_3) omQ ⟨rfl,rfl⟩ λh3 H3=>?_;rw[← List.map_set]at H3;refine qy (l:=jI dX) rfl (Yb (H3.ah e_1) λh' H'=>⟨rfl,?_⟩);show HS g h' (qx p (GV S M wv lv sv)::qF _ 1 (M.w.set o.at_.toNat o.word).length wv ((M.w.set o.at_.toNat o.word).map (.int .u64))::_);rw[show o.at_.toNat=k by omega,List.length_set];exact H'.pk [2,0] 1
theorem qGC (hn:2≤n) (H:HS g h (wT p S M wv lv sv R)) :
  af n 77 [.ptr p 0,.agg (jn o)] h λr h'=>r=.agg (jI (Kw M o).1)∧HS g h' (wT p S (Kw M o).2 wv lv sv R):=by
 (refine qE rfl omQ λk hk=>?_;show wp (S77 (callT tab qv k) _ _ _) _;unfold S77;try simp only[iI,uU,iZ])
 refine qH H rfl λb0 h1 H1=>?_;refine qH H1 rfl λb1 h2 H2=>?_;unfold Kw;refine qQ (qZ H2 e_1 rfl ?_);by_cases c1:o.at_<0
 ·rw[iJ (Or.inl c1)];refine jB c1 (qG ?_)
  try dsimp only
  refine qf (qC (qX ?_));exact qy (l:=jI (ia 2)) rfl (Yb H2 λh' H'=>⟨rfl,H'.drop⟩)
 refine jk c1 (qG ?_)
 try dsimp only
 refine qM (qQ (qZ H2 e_1 rfl ?_));refine qK (qQ (qZ H2 e_2 rfl ?_));refine qd H2 e_4 ?_;by_cases c2:(M.l.length:Int)≤o.at_
 ·rw[iJ (Or.inr c2)];refine jA c2 (qB (qX ?_));exact qy (l:=jI (ia 2)) rfl (Yb H2 λh' H'=>⟨rfl,H'.drop⟩)
 rw[iQ omQ];refine jz c2 (qB (qJ ?_));refine qQ (qZ H2 e_1 rfl ?_);obtain⟨k,hk⟩:∃k:Nat,o.at_=k:=⟨o.at_.toNat,by omega⟩;by_cases c3:o.kind=3
 ·rw[iJ c3];refine qj c3 (qX ?_);refine qK (qQ (qZ H2 e_2 rfl ?_));refine qQ (qZ H2 e_1 (x:=.int .i64 (k:Int)) (by rw[← hk];rfl) ?_);refine zj (H2.sl e_4) omQ omQ (JN omQ)<|qy (by rw[hk];rfl) (Yb H2 λh' H'=>⟨rfl,H'.drop⟩)
 rw[iQ c3];refine qV c3 (qJ ?_);refine qQ (qD H2 e_1 rfl omQ rfl ?_);refine qW (qxF omQ H2) ?_;rintro _ h3 ⟨rfl,H3⟩;have put:∀{h4:AH} {a:cT},HS g h4 (qF 54 3 M.l.length lv (wL (M.l.flatMap jS) (k*3) (jS o.lk))::qx b1 (jI dX)::qx b0 (jn o)::qx p (GV S M wv lv sv)::qF 22 1 M.w.length wv (M.w.map (.int .u64))::qF 22 1 M.s.length sv (M.s.map (.int .u64))::R)→
   wp (qn h4 (.ptr b1 0) (.agg (jI a)) 6 λh'=>q8 h' (.ptr b1 0) 6 λv=>some (v,h')) λr h'=>r=.agg (jI a)∧HS g h' (wT p S { M with l:=M.l.set o.at_.toNat o.lk } wv lv sv R):=λ{h4 a} H4=>by
  rw[UQ (enc:=jS) (λ_=>rfl) omQ]at H4;refine Yb (H4.ah e_1) λh' H'=>⟨rfl,?_⟩;show HS g h' (qx p (GV S M wv lv sv)::_::qF _ 3 (M.l.set o.at_.toNat o.lk).length lv ((M.l.set o.at_.toNat o.lk).flatMap jS)::_);rw[show o.at_.toNat=k by omega,List.length_set];exact H'.pk [2,2,0] 1
 by_cases c4:Gn o.lk
 rotate_left
 ·rw[iJ c4,iV c4];refine jg (qX ?_);exact qy (l:=jI (ia 1)) rfl (Yb H3 λh' H'=>⟨rfl,H'.drop⟩)
 rw[iQ (λh=>h c4),iG c4];refine jQ (qJ ?_);refine qQ (qZ H3 e_1 rfl ?_);by_cases c5:o.kind=5
 ·rw[iJ c5];refine qj c5 (qX ?_);refine qK (qQ (qZ H3 e_2 rfl ?_));refine qQ (qZ H3 e_1 (x:=.int .i64 (k:Int)) (by rw[← hk];rfl) ?_);refine qQ (qD H3 e_1 rfl omQ rfl ?_);refine Yp (H3.ah e_4) omQ rfl rfl λh4 H4=>?_;exact qy (l:=jI dX) rfl (put H4)
 rw[iQ c5];refine qV c5 (qJ ?_);refine qK (qQ (qZ H3 e_2 rfl ?_));refine qQ (qZ H3 e_1 (x:=.int .i64 (k:Int)) (by rw[← hk];rfl) ?_);refine zj (H3.sl e_4) omQ omQ (JN omQ)<|qQ (qD H3 e_1 rfl omQ rfl ?_);rw[hk]at put ⊢;refine G3 (I4 _ _) (λc6=>?_) (λc6=>?_)
 ·rw[iQ (λh=>h c6)];refine qJ (qK (qQ (qZ H3 e_2 rfl ?_)));refine qQ (qZ H3 e_1 (x:=.int .i64 (k:Int)) (by rw[← hk];rfl) ?_);refine qQ (qD H3 e_1 rfl omQ rfl ?_);refine Yp (H3.ah e_4) omQ rfl rfl λh4 H4=>?_;exact qy (l:=jI ⟨0,cZ,true,0⟩) rfl (put H4)
 ·rw[iJ c6];refine qX<|qy (l:=jI dX) rfl (Yb H3 λh' H'=>⟨rfl,H'.drop⟩)
theorem qJE (hn:1≤n) (H:HS g h (wT p S M wv lv sv R)) :
  af n 78 [.ptr p 0,.agg (jn o)] h λr h'=>r=.agg (jI (JI M o).1)∧HS g h' (wT p S (JI M o).2 wv lv sv R):=by
 refine aG rfl omQ λk hk=>?_;unfold S78;try simp only[iZ]
 refine qH H rfl λb0 h1 H1=>?_;refine qH H1 rfl λb1 h2 H2=>?_;unfold JI;refine qQ (qZ H2 e_1 rfl ?_);by_cases c1:o.kind=6
 ·rw[iJ c1];refine qj c1 (qX ?_);refine qK (qQ (qZ H2 e_2 rfl ?_));exact qy (l:=jI ⟨M.n,cZ,false,0⟩) rfl (Yb H2 λh' H'=>⟨rfl,H'.drop⟩)
 rw[iQ c1];refine qV c1 (qJ ?_);refine qQ (qZ H2 e_1 rfl ?_);refine qQ (qZ H2 e_1 rfl ?_);by_cases c2:o.word≤o.cr
 ·rw[iJ c2];refine yq c2 (qX ?_);exact qy (l:=jI (ia 1)) rfl (Yb H2 λh' H'=>⟨rfl,H'.drop⟩)
 rw[iQ c2];refine yY c2 (qJ ?_);refine qQ (qZ H2 e_1 rfl ?_);by_cases c3:4611686018427387904≤o.word
 ·rw[iJ c3];refine jA c3 (qX ?_);exact qy (l:=jI (ia 7)) rfl (Yb H2 λh' H'=>⟨rfl,H'.drop⟩)
 rw[iQ c3];refine jz c3 (qJ ?_);refine qK (qQ (qZ H2 e_2 rfl ?_));refine qQ (qZ H2 e_1 rfl ?_);by_cases c4:M.n=o.cr
 ·rw[iQ (λh=>h c4)];refine q9 c4 (qJ ?_);refine qQ (qZ H2 e_1 rfl ?_);refine qK (qQ ?_);refine qw H2 e_2 ⟨rfl,rfl⟩ (by simp[GV]) λh3 H3=>?_;exact qy (l:=jI ⟨0,cZ,true,0⟩) rfl (Yb (H3.ah e_1) λh' H'=>⟨rfl,H'.pk [0] 1⟩)
 ·rw[iJ c4];refine jJ c4 (qX ?_);exact qy (l:=jI dX) rfl (Yb H2 λh' H'=>⟨rfl,H'.drop⟩)
def kV (m:zn) (o:dR):cT×zn:=if o.kind=1∨o.kind=2 then Ks m o else if o.kind=3∨o.kind=4∨o.kind=5 then Kw m o else if o.kind=6∨o.kind=7 then JI m o else if o.kind=8∨o.kind=9 then VX m o else(ia 1,m)
theorem qzu:(kV M o).2.cY=M.cY:=by
 grind[kV,Ks,Kw,JI,VX]
theorem Ox (hn:3≤n) (hc:0≤M.cY∧M.cY<1000000000) (H:HS g h (aS p S M::R)) :
  af n 18 [.ptr p 0,.agg (jn o)] h λr h'=>r=.agg (jI (xD M o).1)∧HS g h' (aS p S (xD M o).2::R):=by
 refine aG rfl omQ λk hk=>?_;unfold S18;try simp only[iZ]
 obtain⟨wv,lv,sv,H0⟩:=aS.E H;refine qH H0 rfl λb0 h1 H1=>?_;refine qH H1 rfl λb1 h2 H2=>?_;refine qy rfl<|qH H2 rfl λb2 h3 H3=>?_;refine qh H3 .here rfl (by simp) rfl λh4 H4=>?_;refine qQ (qZ H4 e_2 rfl ?_);have CU:=qzu (M:=M) (o:=o);refine jq [] (λz h'=>z=(.ptr b2 0,.ptr b1 0,.ptr p 0,())∧HS g h' (qx b2 (jI (kV M o).1)::qx b1 (jI dX)::qx b0 (jn o)::wT p S (kV M o).2 wv lv sv R)) (λj hj=>?_) ?_
 rotate_left
 ·rintro _ h5 ⟨rfl,H5⟩;have eD:xD M o=if(kV M o).1.err=0 then((kV M o).1,{ (kV M o).2 with cY:=(kV M o).2.cY+1 })else kV M o:=rfl
  rw[eD];refine jq [] (λz h'=>z=(.ptr b2 0,.ptr b1 0,())∧HS g h' (qx b2 (jI (kV M o).1)::qx b1 (jI dX)::qx b0 (jn o)::wT p S (if(kV M o).1.err=0 then((kV M o).1,{ (kV M o).2 with cY:=(kV M o).2.cY+1 })else kV M o).2 wv lv sv R)) (λj hj=>?_) ?_
  ·refine qQ (qZ H5 .here rfl ?_);by_cases c:(kV M o).1.err=0
   ·rw[iJ c]at hj ⊢;refine qj c (qX ?_);refine qK (qQ (qZ H5 e_3 rfl ?_));refine qS omQ<|qK (qQ ?_);refine qw H5 e_3 ⟨rfl,rfl⟩ (by simp[GV]) λh6 H6=>?_;exact hj _ _ ⟨rfl,H6.pk [1,1,1,0] 0⟩
   ·rw[iQ c]at hj ⊢;exact qV c (qJ (hj _ _ ⟨rfl,H5⟩))
  rintro _ h6 ⟨rfl,H6⟩;refine qD H6 .here rfl omQ rfl<|qh H6 e_1 rfl (by trivial) rfl λh7 H7=>?_;refine qg (qD H7 .here rfl omQ rfl (qY ⟨by split<;>rfl,?_⟩));exact aS.I (H7.drop.drop.drop)
 have fin:∀{r:cT×zn} {h5:AH},kV M o=r→HS g h5 (qx b2 (jI dX)::qx b1 (jI dX)::qx b0 (jn o)::wT p S r.2 wv lv sv R)→wp (qn h5 (.ptr b2 0) (.agg (jI r.1)) 6 λh'=>j (.ptr b2 0,.ptr b1 0,.ptr p 0,()) h' []) λr h'=>r=.agg (jI (xD M o).1)∧HS g h' (aS p S (xD M o).2::R):=λ{r h5} e H5=>by
  refine qh H5 .here rfl (by trivial) rfl λh6 H6=>hj _ _ ⟨rfl,?_⟩;rw[e];exact H6
 refine jq [] (λz g'=>z=(.bool (decide (o.kind=1∨o.kind=2)),.int .i64 o.kind,.ptr b2 0,.ptr b1 0,.ptr b0 0,.ptr p 0,())∧g'=h4) (λj hj=>?_) ?_
 ·by_cases c:o.kind=1
  ·exact qj c (qX (hj _ _ ⟨by grind,rfl⟩))
  refine qV c (qJ ?_);by_cases c2:o.kind=2
  ·exact qj c2 (hj _ _ ⟨by grind,rfl⟩)
  ·exact qV c2 (hj _ _ ⟨by grind,rfl⟩)
 rintro _ h4 ⟨rfl,rfl⟩;by_cases k1:o.kind=1∨o.kind=2
 ·rw[iG k1];refine qX (qD H4 e_2 rfl omQ rfl ?_);refine qW (qVA omQ (H4.pk [3,3,3,3] 0)) ?_;rintro _ h5 ⟨rfl,H5⟩;exact fin (by simp_all[kV]) (H5.pk [4,4,4] 0)
 rw[iV k1];refine qJ (jq [] (λz g'=>z=(.bool (decide (o.kind=3∨o.kind=4∨o.kind=5)),.int .i64 o.kind,.ptr b2 0,.ptr b1 0,.ptr b0 0,.ptr p 0,())∧g'=h4) (λj hj=>?_) ?_)
 ·by_cases c:o.kind=3
  ·exact qj c (qX (hj _ _ ⟨by grind,rfl⟩))
  refine qV c (qJ ?_);by_cases c2:o.kind=4
  ·exact qj c2 (qX (hj _ _ ⟨by grind,rfl⟩))
  refine qV c2 (qJ ?_);by_cases c3:o.kind=5
  ·exact qj c3 (hj _ _ ⟨by grind,rfl⟩)
  ·exact qV c3 (hj _ _ ⟨by grind,rfl⟩)
 rintro _ h4 ⟨rfl,rfl⟩;by_cases k2:o.kind=3∨o.kind=4∨o.kind=5
 ·rw[iG k2];refine qX (qD H4 e_2 rfl omQ rfl ?_);refine qW (qGC omQ (H4.pk [3,3,3,3] 0)) ?_;rintro _ h5 ⟨rfl,H5⟩;exact fin (by simp_all[kV]) (H5.pk [4,4,4] 0)
 rw[iV k2];refine qJ (jq [] (λz g'=>z=(.bool (decide (o.kind=6∨o.kind=7)),.int .i64 o.kind,.ptr b2 0,.ptr b1 0,.ptr b0 0,.ptr p 0,())∧g'=h4) (λj hj=>?_) ?_)
 ·by_cases c:o.kind=6
  ·exact qj c (qX (hj _ _ ⟨by grind,rfl⟩))
  refine qV c (qJ ?_);by_cases c2:o.kind=7
  ·exact qj c2 (hj _ _ ⟨by grind,rfl⟩)
  ·exact qV c2 (hj _ _ ⟨by grind,rfl⟩)
 rintro _ h4 ⟨rfl,rfl⟩;by_cases k3:o.kind=6∨o.kind=7
 ·rw[iG k3];refine qX (qD H4 e_2 rfl omQ rfl ?_);refine qW (qJE omQ (H4.pk [3,3,3,3] 0)) ?_;rintro _ h5 ⟨rfl,H5⟩;exact fin (by simp_all[kV]) (H5.pk [4,4,4] 0)
 rw[iV k3];refine qJ (jq [] (λz g'=>z=(.bool (decide (o.kind=8∨o.kind=9)),.ptr b2 0,.ptr b1 0,.ptr b0 0,.ptr p 0,())∧g'=h4) (λj hj=>?_) ?_)
 ·by_cases c:o.kind=8
  ·exact qj c (qX (hj _ _ ⟨by grind,rfl⟩))
  refine qV c (qJ ?_);by_cases c2:o.kind=9
  ·exact qj c2 (hj _ _ ⟨by grind,rfl⟩)
  ·exact qV c2 (hj _ _ ⟨by grind,rfl⟩)
 rintro _ h4 ⟨rfl,rfl⟩;have eB:kV M o=if o.kind=8∨o.kind=9 then VX M o else(ia 1,M):=by simp_all[kV]
 have Ai:∀{f:Nat} {x:AV} {r:cT×zn} {h5:AH},kV M o=r→One x→f<6→(jI dX).set f x=jI r.1→HS g h5 (qx b2 (jI dX)::qx b1 (jI dX)::qx b0 (jn o)::wT p S r.2 wv lv sv R)→wp (qI (.ptr b2 0) f λq=>qn h5 q x 1 λh'=>j (.ptr b2 0,.ptr b1 0,.ptr p 0,()) h' []) λr h'=>r=.agg (jI (xD M o).1)∧HS g h' (aS p S (xD M o).2::R):=λ{f x r h5} e h1 hf ex H5=>by
  refine qQ (qw H5 .here h1 hf λh6 H6=>hj _ _ ⟨rfl,?_⟩);grind
 by_cases k4:o.kind=8∨o.kind=9
 rotate_left
 ·rw[iV k4];refine qJ ?_;rw[iQ k4]at eB;exact Ai eB ⟨rfl,rfl⟩ omQ rfl H4
 rw[iG k4];rw[iJ k4]at eB;unfold VX at eB;refine qX (qQ (qZ H4 e_2 rfl ?_));by_cases c1:o.at_<0
 ·rw[iJ (Or.inl c1)]at eB;refine jB c1 (qG ?_)
  try dsimp only
  refine qf (qC (qX ?_));exact Ai eB ⟨rfl,rfl⟩ omQ rfl H4
 refine jk c1 (qG ?_)
 try dsimp only
 refine qM (qQ (qZ H4 e_2 rfl ?_));refine qK (qQ (qZ H4 e_3 rfl ?_));refine qd H4 e_6 ?_;by_cases c2:(M.s.length:Int)≤o.at_
 ·rw[iJ (Or.inr c2)]at eB;refine jA c2 (qB (qX ?_));exact Ai eB ⟨rfl,rfl⟩ omQ rfl H4
 rw[iQ omQ]at eB;refine jz c2 (qB (qJ ?_));refine qQ (qZ H4 e_2 rfl ?_);obtain⟨k,hk⟩:∃k:Nat,o.at_=k:=⟨o.at_.toNat,by omega⟩;by_cases c3:o.kind=8
 ·rw[iJ c3]at eB;refine qj c3 (qX ?_);refine qK (qQ (qZ H4 e_3 rfl ?_));refine qQ (qZ H4 e_2 (x:=.int .i64 (k:Int)) (by rw[← hk];rfl) ?_);refine jN (H4.sl e_6) (by rw[List.getElem?_map,yS omQ];rfl)<|Ai eB ⟨rfl,rfl⟩ omQ (by rw[hk];rfl) H4
 ·rw[iQ c3]at eB;refine qV c3 (qJ ?_);refine qK (qQ (qZ H4 e_3 rfl ?_));refine qQ (qZ H4 e_2 (x:=.int .i64 (k:Int)) (by rw[← hk];rfl) ?_);refine qQ (qZ H4 e_2 rfl ?_);refine yr (H4.ah e_6) omQ ⟨rfl,rfl⟩ λh5 H5=>hj _ _ ⟨rfl,?_⟩;rw[← List.map_set]at H5;rw[eB];show HS g h5 (qx b2 (jI dX)::qx b1 (jI dX)::qx b0 (jn o)::qx p (GV S M wv lv sv)::_::_::qF _ 1 (M.s.set o.at_.toNat o.word).length sv ((M.s.set o.at_.toNat o.word).map (.int .u64))::R);rw[show o.at_.toNat=k by omega,List.length_set];exact H5.pk [1,1,1,1,1,1,0] 0
end
end
section
variable {g h:AH} {L R:List SP}
section
variable {n a b:Nat} {t:xB} {q:DP} {x:jd}
theorem SQ.rl (O:SQ t):t.cq.length+t.dp.length≤63000:=O.b.len (by have:=O.nO;grind)
end
end
section
variable {g h:AH} {L R:List SP}
section
variable {n b:Nat} {t:xB} {q:DP}
end
end
section
variable {g h:AH} {L R:List SP}
end
section
variable {g h:AH} {L R R':List SP}
theorem mS.own {e:TypeId} {sz n:Nat} {v:AV} {xs:List AV}:mS (qF e sz n v xs) sz n v xs:=λD h p=>by
 obtain⟨h1,⟨rfl,rfl,_⟩ |⟨b,cp,o,ys,rfl,_,A,h2,h3,_⟩⟩:=p
 ·obtain rfl:xs=[]:=iA (by grind);exact .ad
 ·exact .mk trivial A.lt A.rd h1 λi hi=>by rw[A.at,Nat.zero_add,← h3,List.getElem?_take_of_lt hi]
theorem qvd {A A':List SP} {P:SP} (s:aR A P A'):∀{D:Nat→Prop} {h:AH},mu A D h→∃D1,P.p D1 h:=by
 induction s with
 |here=>intro D h ⟨D1,_,_,_,p,_⟩;grind
 |there _ ih=>intro D h ⟨_,D2,_,_,_,r⟩;grind
theorem mS.Fi {A A':List SP} {P:SP} {sz n:Nat} {v:AV} {xs:List AV} (s:aR A P A') (r:mS P sz n v xs):mS (.all A) sz n v xs:=λD h p=>by
 obtain⟨D1,p1⟩:=qvd s p;exact r D1 h p1
structure Hz (S:SP) (js:List (List qe)) (v:AV) (vl:List AV):Prop where
  len:vl.length=js.length
  one:∀w∈vl,One w
  s:mS S 1 js.length v vl
  i:∀(k:Nat) (l:List qe) (w:AV),js[k]? =some l→vl[k]? =some w→mS S 5 l.length w (l.flatMap jG)
theorem Hz.nil {S:SP}:Hz S [] .ad []:=⟨rfl,λ_ h=>(by grind),λ_ _ _=>.ad,λk l w h=>by simp⟩
section
variable {n a b:Nat} {t:xB} {q:Oz} {S:SP} {x:jd}
theorem qgO {s:xn} (hn:3≤n) (SO:JD s) (H:HS g h R):af n 35 [.agg (zb s)] h λv h'=>∃p,v=.ptr p 0∧HS g h' (aS p s (J0 s)::R):=by
 refine ag rfl omQ λk hk=>?_;unfold S35;try simp only[iZ]
 have hw:=SO.words;have hl:=SO.aj;have ht:=SO.aF;refine qH H rfl λb0 h1 H1=>?_;refine qD H1 .here rfl omQ rfl<|qW (NW omQ H1) ?_;rintro _ h2 ⟨rfl,H2⟩;rw[Uf SO];refine qH H2 rfl λb1 h3 H3=>?_;refine qh H3 .here rfl (by simp) rfl λh4 H4=>?_;refine qD H4 .here rfl omQ rfl<|qQ (qZ H4 .here (x:=.int .i64 ((s.words.toNat:Nat):Int)) (by show some (AV.int .i64 s.words)=_;grind) ?_);refine kO H4 omQ λwv h5 H5=>?_;refine qQ (qZ H5 e_1 (x:=.int .i64 ((s.aj.toNat:Nat):Int)) (by show some (AV.int .i64 s.aj)=_;grind) ?_);refine JG (ln:=s.aj.toNat) (cp:=s.aj.toNat) H5 rfl (Nat.le_refl _) omQ λlv h6 H6=>?_;rw[List.take_of_length_le (by simp[vI]),show gA [AV.int .u64 ((0:Nat):Int),.bool false,.int .i64 ((0:Nat):Int)] s.aj.toNat=(List.replicate s.aj.toNat cZ).flatMap jS by rw[← Mu];rfl]at H6;refine qQ (qZ H6 e_2 rfl ?_);refine qQ (qZ H6 e_2 (x:=.int .i64 ((s.aF.toNat:Nat):Int)) (by show some (AV.int .i64 s.aF)=_;grind) ?_);refine kO H6 omQ λsv h7 H7=>?_;have o1:=H7.one (v:=wv) e_2;have o2:=H7.one (v:=lv) e_1;have o3:=H7.one (v:=sv) .here;refine qy (by simp only[vG,o1.1,o2.1,o3.1];rfl)<|qH H7 (by simp only[jV,List.all_cons,o1.2,o2.2,o3.2];rfl) λp h8 H8=>qY ⟨p,rfl,?_⟩;refine aS.I (wv:=wv) (lv:=lv) (sv:=sv) ?_;unfold wT J0;rw[List.length_replicate,List.length_replicate,List.length_replicate,List.map_replicate,List.map_replicate];exact H8.pk [0,2,1,0] 2
end
end
section
variable {g h:AH} {L R:List SP}
structure DR (s:xn):Prop where
  words:32≤s.words∧s.words≤80
  aj:1≤s.aj∧s.aj≤16
  wide:1≤s.wide∧s.wide≤4
  aF:s.aF=0
  start:0≤s.start∧s.start<1000
  spins:0≤s.spins∧s.spins≤4
  writes:4≤s.writes∧s.writes≤40
  fuel:20≤s.fuel∧s.fuel≤120
theorem DR.held {s:xn} (K:DR s):ja s={ s with aF:=1 }:=by obtain⟨a,b,c,d,e,f,g,i⟩:=K;simp[ja,min,wB];omega
theorem qvI {n:Nat} (hn:2≤n) {w st wi sp wr fu t:Int} (ht:0≤t∧t<18446744073709551616) (H:HS g h R) :
  af n 34 [.agg [.int .i64 w,.int .i64 st,.int .i64 wi,.int .i64 sp,.int .i64 wr,.int .i64 fu,.int .u64 t]] h λr h'=>∃s,r=.agg (xC s)∧DR s∧HS g h' R:=by
 refine ag rfl omQ λk hk=>?_;unfold S34;try simp only[iZ]
 refine qH H rfl λb0 h1 H1=>?_;refine qH H1 rfl λb1 h2 H2=>?_;have e1:=gH (x:=sp) (lo:=((0:Nat):Int)) (hi:=((4:Nat):Int)) omQ;have e2:=gH (x:=wr) (lo:=((4:Nat):Int)) (hi:=((40:Nat):Int)) omQ;have e3:=gH (x:=fu) (lo:=((20:Nat):Int)) (hi:=((120:Nat):Int)) omQ;have e4:=gH (x:=w) (lo:=((32:Nat):Int)) (hi:=((80:Nat):Int)) omQ;have e5:=gH (x:=st) (lo:=((1:Nat):Int)) (hi:=((16:Nat):Int)) omQ;have e6:=gH (x:=wi) (lo:=((1:Nat):Int)) (hi:=((4:Nat):Int)) omQ;refine qG ?_
 try dsimp only
 refine qQ (qZ H2 e_1 rfl ?_);refine qW (zr omQ omQ omQ omQ) ?_;rintro _ _ ⟨rfl,rfl⟩;refine qQ (qZ H2 e_1 rfl ?_);refine qW (zr omQ omQ omQ omQ) ?_;rintro _ _ ⟨rfl,rfl⟩;refine qQ (qZ H2 e_1 rfl ?_);refine qW (zr omQ omQ omQ omQ) ?_;rintro _ _ ⟨rfl,rfl⟩;generalize jt sp ((0:Nat):Int) ((4:Nat):Int)=e8 at*;generalize jt wr ((4:Nat):Int) ((40:Nat):Int)=HO at*;generalize jt fu ((20:Nat):Int) ((120:Nat):Int)=HQ at*;refine qy rfl<|qH H2 rfl λb2 h3 H3=>?_;refine qh H3 .here rfl (by simp) rfl λh4 H4=>?_
 have H4:HS g h4 (qx b2 [.int .i64 0,.int .i64 0,.int .i64 0,.int .i64 0,.int .u64 0,.int .i64 e8,.int .i64 HO,.int .i64 HQ]::qx b1 [.int .i64 0,.int .i64 0,.int .i64 0,.int .i64 0,.int .u64 0,.int .i64 0,.int .i64 0,.int .i64 0]::
  qx b0 [.int .i64 w,.int .i64 st,.int .i64 wi,.int .i64 sp,.int .i64 wr,.int .i64 fu,.int .u64 t]::R):=H4
 refine qu H2 e_1 rfl H2 e_1 rfl (HS.lt H2 e_1)<|qu H2 e_1 rfl H2 e_1 rfl (HS.lt H2 e_1)<|qu H2 e_1 rfl H2 e_1 rfl (HS.lt H2 e_1)<|qG ?_
 try dsimp only
 refine qQ (qZ H4 e_2 rfl ?_);refine qW (zr omQ omQ omQ omQ) ?_;rintro _ _ ⟨rfl,rfl⟩;refine qQ (qZ H4 e_2 rfl ?_);refine qW (zr omQ omQ omQ omQ) ?_;rintro _ _ ⟨rfl,rfl⟩;refine qQ (qZ H4 e_2 rfl ?_);refine qW (zr omQ omQ omQ omQ) ?_;rintro _ _ ⟨rfl,rfl⟩;refine qQ (qZ H4 e_2 rfl ?_);refine ga od ?_;generalize jt w ((32:Nat):Int) ((80:Nat):Int)=w' at*;generalize jt st ((1:Nat):Int) ((16:Nat):Int)=st' at*;generalize jt wi ((1:Nat):Int) ((4:Nat):Int)=Lg at*;have Rp:0≤t.tmod ((1000:Nat):Int)∧t.tmod ((1000:Nat):Int)<1000:=by grind
 generalize t.tmod ((1000:Nat):Int)=t' at*;refine qy rfl<|qQ (qh H4 .here rfl (by simp) rfl λh5 H5=>?_)
 have H5:HS g h5 (qx b2 (xC ⟨w',st',Lg,0,t',e8,HO,HQ⟩)::qx b1 [.int .i64 0,.int .i64 0,.int .i64 0,.int .i64 0,.int .u64 0,.int .i64 0,.int .i64 0,.int .i64 0]::
  qx b0 [.int .i64 w,.int .i64 st,.int .i64 wi,.int .i64 sp,.int .i64 wr,.int .i64 fu,.int .u64 t]::R):=H5
 refine qu H4 e_2 rfl H4 e_2 rfl (HS.lt H4 e_2)<|qu H4 e_2 rfl H4 e_2 rfl (HS.lt H4 e_2)<|qu H4 e_2 rfl H4 e_2 rfl (HS.lt H4 e_2)<|qu H4 e_2 rfl H4 e_2 rfl (HS.lt H4 e_2)<|qu H4 e_2 rfl H4 e_2 rfl (HS.lt H4 e_2)<|qu H4 e_2 rfl H4 e_2 rfl (HS.lt H4 e_2)<|qD H5 .here rfl omQ rfl<|qh H5 e_1 rfl (by simp) rfl λh6 H6=>?_;refine qD H6 .here rfl omQ rfl<|qY ⟨_,rfl,⟨by omega,by omega,by omega,rfl,Rp,by omega,by omega,by omega⟩,H6.drop.drop.drop⟩
end
section
theorem OS {p v:Int} {l:List Cl} {c:Cl} (h:c∈yn p v l):c=(p,v)∨c∈l:=by
 induction l with
 |nil=>exact .inl (List.mem_singleton.1 h)
 |cons d l ih=>
  unfold yn at h
  grind
theorem Ob {cs:List Cl}:∀{l:List Cl} {c:Cl},c∈yN l cs→c∈cs∨c∈l:=by
 induction cs with
 |nil=>intro l c h;exact .inr h
 |cons d r ih=>
  intro l c h;rcases ih h with h |h
  ·grind
  ·rcases OS h with h |h
   all_goals grind
theorem qGi:∀{lv:List ba} {out:List Cl} {c:Cl},c∈lv.foldl (λout x=>yN x.1 out) out→c∈out∨∃x∈lv,c∈x.1:=by
 intro lv
 induction lv with
 |nil=>simp
 |cons x r ih=>
  intro out c h;rcases ih h with h |⟨y,hy,h⟩
  ·rcases Ob h with h |h
   all_goals grind
  grind
theorem qZt {lv:List ba} {c:Cl} (h:c∈jL lv):∃x∈lv,c∈x.1:=by
 rcases qGi h with h |h
 all_goals grind
theorem qVd {lv:List ba} (h:∀x∈lv,∀c∈x.1,0≤c.2∧c.2<18446744073709551616):∀c∈jL lv,0≤c.2∧c.2<18446744073709551616:=λc hc=>by
 obtain⟨x,hx,h1⟩:=qZt hc;grind
def DT (n:Nat) (lv:List ba):Prop:=∀x∈lv,∀c∈x.1,1≤c.1∧c.1<n
theorem qzn {n most:Nat} {lv:List ba} {p v:Int} (h:DT n lv) (hp:1≤p∧p<n):DT n (vk most lv p v).2:=by
 unfold vk;cases lv with
 |nil=>grind
 |cons x r=>
  dsimp only
  split
  ·grind
  ·split
   ·grind
   ·intro y hy c hc;rcases List.mem_cons.1 hy with rfl |hy
    ·rcases OS hc with rfl |hc
     ·grind
     ·exact h x (iK ..) c hc
    ·exact h y (iX _ hy) c hc
theorem qV1 {n most:Nat} {az:List ba} (hw:DT n az):∀{cs:List Cl} {lv:List ba},DT n lv→(∀c∈cs,1≤c.1∧c.1<n)→DT n (vW most az lv cs).2:=by
 intro cs
 induction cs with
 |nil=>intro lv h _;exact h
 |cons c cs ih=>
  intro lv h hc;rw[vC]
  split
  all_goals simp_all[qzn]
def cG (V:VM):Prop:=DT V.sz V.lv
theorem cG.read {V:VM} (h:cG V) (p:Int):cG (qi V p).2:=by
 unfold qi
 repeat' split
 all_goals exact h
theorem cG.take {V:VM} (h:cG V) (cs:List Cl):cG (zq V cs).2:=by
 unfold zq
 split
 ·rename_i hc;exact qV1 h h hc
 grind
theorem cG.ask {V:VM} (h:cG V) (b:Int):cG (jr V b).2:=by
 unfold jr
 repeat' split
 all_goals first |exact h |exact h.read _
theorem cG.again {V:VM} (h:cG V) (c b:Int):cG (yA V c b).2:=by
 unfold yA
 repeat' split
 all_goals first |exact h |exact h.read _ |exact(h.read _).take _
theorem cG.grown {V:VM} (h:cG V) (c:Int):cG (yg V c).2:=by
 unfold yg
 repeat' split
 all_goals first |exact h |exact h.read _ |exact(h.read _).take _
theorem cG.alloc {V:VM} (h:cG V) (n:Int):cG (zf V n).2:=by
 unfold zf
 repeat' split
 all_goals first |exact h |exact h.read _ |exact(h.read _).grown _ |exact(h.read _).again _ _
theorem cG.HU {V:VM} (h:cG V) (b:Int):cG (eZ V b):=by
 intro x hx c hc;have hx:x∈J3 V.lv b:=hx;unfold J3 at hx;cases hl:V.lv with
 |nil=>grind
 |cons y r=>
  rw[hl]at hx;rcases List.mem_cons.1 hx with rfl |hx
  ·exact h y (by grind) c hc
  ·exact h x (by grind) c hc
theorem cG.free {V:VM} (h:cG V) (b:Int):cG (vP V b).2:=by
 unfold vP
 repeat' split
 all_goals first |exact(((h.ask _).take _).HU _) |exact(h.ask _).take _ |exact h.ask _
theorem cG.tg {V:VM} (h:cG V) (b:Int):cG (xj V b).2:=by
 unfold xj
 repeat' split
 all_goals first |exact((h.ask _).read _).take _ |exact(h.ask _).read _ |exact h.ask _
theorem cG.nL {V:VM} (h:cG V):cG (xN V).2:=by
 unfold xN gg
 split
 ·omega
 ·intro x hx c hc;rcases List.mem_cons.1 hx with rfl |hx
  ·grind
  ·exact h x hx c hc
theorem cG.drop {V:VM} (h:cG V):cG (zN V).2:=by
 unfold zN wS
 split
 ·omega
 ·intro x hx c hc;exact h x (List.mem_of_mem_tail hx) c hc
theorem cG.keep {V:VM} (h:cG V):cG (vj V).2:=by
 intro x hx c hc;have hx:x∈(wR V.lv).2:=hx;unfold wR at hx
 split at hx
 ·rename_i a b r hl;rcases List.mem_cons.1 hx with rfl |hx
  ·rcases Ob hc with hc |hc
   ·exact h a (by grind) c hc
   ·exact h b (by grind) c hc
  ·exact h x (by grind) c hc
 ·exact h x hx c hc
theorem cG.cI {V:VM} (h:cG V) {op a nx:Int} {s:IM}:cG (zW op a nx s V).v:=by
 unfold zW
 split<;>exact h.nL
theorem cG.tC {mt:List Int} {s:IM}:∀(o:List cy) {V:VM},cG V→cG (xw mt o s V).v:=by
 intro o
 induction o with
 |nil=>intro V h;exact h
 |cons p o ih=>
  intro V h;unfold xw
  split
  ·split
   ·exact(cG.cI h.drop)
   ·exact ih h.drop
  ·exact h.drop
theorem cG.CQ {V:VM} (h:cG V) (mt:List Int) (s:IM) (op:Int):cG (yL mt s V op).v:=by
 unfold yL
 split
 ·exact cG.cI h
 ·split
  ·exact h.keep
  ·split
   ·exact h.keep
   ·split
    ·exact h.drop
    grind[cG.tC]
theorem cG.tD {V:VM} (h:cG V) (s:IM) (x:qe):cG (jm s V x).2.2:=by
 unfold jm
 split
 ·split
  ·split<;>exact h.read _
  grind
 ·split
  ·split
   ·exact h.take _
   grind
  ·split
   ·split
    ·grind
    ·split<;>exact h.alloc _
   ·split
    ·grind
    ·exact h.free _
theorem qwB {c:Prop} [Decidable c] {a b:SM} (ha:cG a.v) (hb:cG b.v):cG (if c then a else b).v:=by
 grind
theorem cG.do_ {V:VM} (h:cG V) (mt:List Int) (s:IM) (x:qe):cG (aZ mt s V x).v:=by
 have ht:=h.tD s x;have hu:=h.CQ mt s x.1;unfold aZ;generalize jm s V x=T at*;generalize yL mt s V x.1=U at*
 repeat' (first |exact h |exact ht |exact hu |apply qwB)
theorem cG.run {l:List qe} {mt:List Int}:∀(n:Nat) {s:IM} {V:VM},cG V→cG (zw l mt n s V).v:=by
 intro n
 induction n with
 |zero=>grind[wc]
 |succ n ih=>
  intro s V h;have hd:=h.do_ mt s (qU l s.pc);rw[kw];grind
end
section
abbrev lO (z:Int):Prop:=0≤z∧z<18446744073709551616
structure DU (M:zn):Prop where
  w:∀z∈M.w,lO z
  n:lO M.n
  s:∀z∈M.s,lO z
theorem qXd {l:List Int} (h:∀z∈l,lO z) (i:Int):lO (qP l i):=by
 unfold qP;cases hi:l[i.toNat]? with
 |none=>grind
 |some z=>exact h z (List.mem_of_getElem? hi)
theorem qKP {l:List Int} (h:∀z∈l,lO z) {i:Nat} {w:Int} (hw:lO w):∀z∈l.set i w,lO z:=λz hz=>by
 grind
theorem qX9 {M:zn} {o:dR} (R:DU M) (ho:lO o.word):Kd (xD M o).1∧DU (xD M o).2:=by
 have z0:lO (0:Int):=⟨Int.le_refl _,by simp⟩;have key:Kd (gd M o).1∧DU (gd M o).2:=by
  unfold gd
  split
  ·unfold Ks
   split
   ·trivial
   ·split
    ·exact⟨qXd R.w _,R⟩
    ·exact⟨z0,⟨qKP R.w ho,R.n,R.s⟩⟩
  ·split
   ·unfold Kw
    repeat' split
    all_goals exact⟨z0,⟨R.w,R.n,R.s⟩⟩
   ·split
    ·unfold JI
     split
     ·exact⟨R.n,R⟩
     ·repeat' split
      all_goals first |exact⟨z0,R⟩ |exact⟨z0,⟨R.w,ho,R.s⟩⟩
    ·split
     ·unfold VX
      split
      ·trivial
      ·split
       ·exact⟨qXd R.s _,R⟩
       ·exact⟨z0,⟨R.w,R.n,qKP R.s ho⟩⟩
     trivial
 rw[GJ]
 split
 ·exact⟨key.1,⟨key.2.w,key.2.n,key.2.s⟩⟩
 grind
theorem qGb {M:zn} {o:dR}:(xD M o).2.cY≤M.cY+1∧M.cY≤(xD M o).2.cY:=by
 grind[qQH,GJ,gd]
theorem Yz {c:zG} {f e y:Int}:(gK c f e y).cells=c.cells:=by grind[gK,yv]
theorem MG {c:zG} {l:dI}:(yo c l).cells=c.cells:=by 
 grind[yo,Yz]
theorem Nx {c:zG}:(yU c).cells=c.cells:=by grind[yU]
theorem Vp {c:zG}:(yw c).cells=c.cells:=by 
 grind[yw,Nx]
theorem Ys {c:zG}:(vn c).cells=c.cells:=Vp
theorem Ko:∀(n:Nat) (c:zG),(xo c n).cells=c.cells:=by
 intro n
 induction n with
 |zero=>intro c;exact Ys
 |succ n ih=>
  grind[xo,Yz,Ys]
theorem qVT {c:zG} {a:cT}:(zD c a).cells=c.cells:=by
 unfold zD
 split
 ·rfl
 ·split
  ·unfold gW
   split
   ·exact MG
   ·split
    ·rfl
    ·split
     all_goals rfl
  ·split
   ·unfold vo
    split
    ·exact Yz
    ·split
     ·rfl
     ·split
      ·rfl
      ·split
       ·exact Ys
       ·exact Ko _ _
   ·split
    ·unfold yR
     split
     ·exact MG
     ·split
      ·exact Yz
      ·exact Ko _ _
    grind[Vp,Nx,yv]
def Yv (x:jd):Prop:=∀c,x.c=some c→∀q∈c.cells,lO q.2
theorem qWP {x:jd} {k e:Int} (G:ju x.v) (W:Yv x):Yv (wC x k e):=by
 unfold wC
 split
 ·exact W
 ·split
  ·exact W
  ·split
   ·exact W
   ·split
    ·exact W
    ·intro c hc;cases hc;exact qVd G.wd.l
theorem Me {x:jd} (B:Qh x) (hj:bQ True x.v x.aW) (W:Yv x):Yv (kC x):=by have D:=Uk B.ap B.fr hj;refine qWP D.ap ?_;intro c hc;rw[D.same.2.2.2.2]at hc;exact W c hc
theorem qWF {x:jd} {a:cT} (O:zE x) (W:Yv x) (ha:Kd a):Yv (yc x a):=by
 have bK:=O.st;have stamped:∀{y:jd},Yv y→Yv (yV y):=λ{y} h=>by
  unfold yV
  split
  ·split<;>exact h
  grind
 have told:∀{y:jd},zE y→3≤y.state→y.state≤6→Yv y→Yv (wA y):=λ{y} O h3 h6 W=>by
  refine stamped ?_;show Yv (if(yi y).1=0 then y else if(yi y).1=5 then yG y 5 0 (yi y).2 else yy y)
  split
  ·grind
  ·split
   ·exact W
   ·unfold yy
    split
    ·rename_i hs;have hw:=X9 (O.f hs).2;unfold yE
     split
     ·exact W
     ·split
      ·have hj:=(O.aW.same λ_=>by omega:bQ True y.v y.aW).oL (p:=y.v.aw) hw;refine Me ⟨O.set,Xi O.ap hw,by rw[kp.2];exact O.sz,by rw[kp.1];exact O.fr,Gc O.r,hj.same λh=>h.elim,O.c⟩ hj W
      ·split<;>exact W
    ·split
     ·exact W
     ·split
      ·exact W
      ·split<;>exact W
 unfold yc
 split
 ·grind
 ·split
  ·exact W
  ·split
   ·exact W
   ·split
    ·exact W
    ·split
     ·exact Me O.b (O.aW.same λ_=>by omega) W
     ·split
      ·exact W
      ·split
       ·rename_i hs;have hf:=O.f hs;refine told ?_ (by grind) (by grind) W;exact⟨O.set,O.ap,O.sz,O.fr,O.r,O.aW,O.st,λ_=>⟨Jc hf.1,Yj hf.2 ha⟩,O.aw,O.e,O.c,O.c0,O.c6⟩
       ·split
        ·rename_i hs;refine told ?_ (by grind) (by grind) ?_
         ·refine⟨O.set,O.ap,O.sz,O.fr,O.r,O.aW,O.st,O.f,O.aw,O.e,λc h=>?_,λh=>absurd h (by grind),λh hn=>O.c6 h ?_⟩
          ·obtain⟨c',h1,rfl⟩:=Option.map_eq_some_iff.1 h;exact Yk (O.c c' h1) ha
          simp_all
         ·intro c h;obtain⟨c',h1,rfl⟩:=Option.map_eq_some_iff.1 h;rw[qVT];exact W c' h1
        ·refine told ?_ (by grind) (by grind) W;exact⟨O.set,O.ap,O.sz,O.fr,O.r,O.aW,O.st,O.f,O.aw,λh1 h2=>Jn (O.e h1 h2),O.c,O.c0,O.c6⟩
theorem qWh {x:jd} {o:dR} (O:zE x) (W:Yv x) (h:yI x=some o):lO o.word:=by
 have z0:lO (0:Int):=⟨Int.le_refl _,by simp⟩;unfold yI at h
 split at h
 ·cases h;exact⟨by show(0:Int)≤1;simp,by show(1:Int)<_;simp⟩
 ·split at h
  ·cases h;exact z0
  ·split at h
   ·cases h;exact I0 _
   ·split at h
    ·cases h;exact z0
    ·split at h
     ·grind
     ·split at h
      ·unfold QJ at h
       split at h
       ·grind
       ·split at h<;>(cases h;exact z0)
      ·split at h
       ·rename_i h6;cases hc:x.c with
        |none=>grind
        |some c=>
         rw[hc]at h;have hn:=(O.c c hc).now;have h:wK c=some o:=h;unfold wK at h
         split at h
         ·grind
         ·split at h
          ·cases h;exact z0
          ·split at h
           ·grind
           ·split at h
            ·cases h;exact z0
            ·split at h
             ·grind
             ·split at h
              ·cases h;exact z0
              ·split at h
               ·cases h;unfold ka;cases hi:c.cells[c.at_.toNat]? with
                |none=>exact z0
                |some q=>exact W c hc q (List.mem_of_getElem? hi)
               grind
       ·unfold QX at h
        split at h
        ·grind
        ·split at h<;>(cases h;exact z0)
theorem qxD {me:Int} {S:xn} {j:Kv}:Yv (VW me S j):=λc h=>by cases h
end
section
section
variable {S:xn} {M:zn} {me:Int}
structure Ended (S:xn) (M:zn) (me:Int) (R:(Int×Int)×Kv×VM) (y:jd) (N:zn):Prop where
  st:y.state=8
  me_:y.me=me
  set:y.set=S
  fin:y.fin=R.1.1
  err:y.err=if R.1.1=4 then R.1.2 else 0
  lv:y.v.lv=R.2.2.lv
  aW:y.aW=R.2.1
  bM:y.bM= -1
  calm:UN S N me
  s:N.s=M.s.set me.toNat 0
  w:N.w=if R.1.1=2 then SU M.w (jL R.2.2.lv)else M.w
  n:N.n=M.n+(if R.1.1=2∧jL R.2.2.lv≠[]then 1 else 0)
  ak:y.ak=N.n
  begun:y.begun=true
  kind:R.1.1=2∨R.1.1=3∨R.1.1=4
end
end
namespace fl
variable {g h:AH} {L R:List SP}
def jS (a:Int×Int×Bool):List AV:=[.int .i64 a.1,.int .i64 a.2.1,.bool a.2.2]
end fl
section
variable {g h:AH} {L R:List SP}
def Da (zs:List Int) (m:Int) (C:List Cl) (F:List Int):VM:={ kl zs m with lv:=[(C,F)] }
structure FullS (zs:List Int) (T c i:Nat):Prop where
  len:zs.length=T
  lo:32≤T
  hi:T≤256
  lY:1≤c∧c≤4
  nn:∀z∈zs,0≤z∧z<18446744073709551616
  head:QN zs c=0
  bump:QN zs 5=14+(i:Int)*(yO c+1)
  hdr:∀j,j<i→∀p:Nat,(p:Int)=14+(j:Int)*(yO c+1)→QN zs p=(c:Int)+8
end
namespace rM
open Go Go.Ae fl
set_option maxRecDepth 100000
variable {g h:AH} {L R:List SP}
end rM
section
structure RawM (S:xn) (M:zn) (k:Int):Prop where
  w:(M.w.length:Int)=S.words
  wd:∀z∈M.w,lO z
  w0:M.w[0]? =some 0
  l:M.l=List.replicate S.aj.toNat cZ
  n:M.n=S.start
  s:M.s=List.replicate S.aF.toNat 0
  cY:0≤M.cY∧M.cY≤k
end
section
open Go Go.Ae fl
set_option maxRecDepth 100000
variable {g h:AH} {L R:List SP}
end
section
variable {g h:AH} {L R:List SP}
abbrev GO (l:List qe) (n:Nat) (zs:List Int) (m:Int):RM:=zw l (qb l) n XQ (kl zs m)
end
section
def DV:Nat→Nat→xB→zn→xB×zn
 | 0,_,t,M=>(t,M)
 |n+1,i,t,M=>match NU t with
  |none=>(t,M)
  |some o=>DV n (i+1) (Uy t (xD M o).1 0 ((i:Int)+1)) (xD M o).2
inductive OF:Nat→Nat→xB→zn→xB→zn→Prop
  |nil {i:Nat} {t:xB} {M:zn}:OF i 0 t M t M
  |cons {i m:Nat} {t u:xB} {M N:zn} {o:dR} (hn:NU t=some o) (r:OF (i+1) m (Uy t (xD M o).1 0 ((i:Int)+1)) (xD M o).2 u N):OF i (m+1) t M u N
theorem OF.run {i m:Nat} {t u:xB} {M N:zn} (s:OF i m t M u N):∀n,DV (m+n) i t M=DV n (i+m) u N:=by
 induction s with
 |nil=>simp
 |cons hn r ih=>
  grind[DV,Uy,xD,NU]
theorem OF.trans {i m k:Nat} {t u v:xB} {M N P:zn} (s:OF i m t M u N):OF (i+m) k u N v P→OF i (m+k) t M v P:=by
 induction s with
 |nil=>simp
 |cons hn r ih=>rename_i i m t u M N o;intro q;rw[show m+1+k=(m+k)+1 by omega];exact .cons hn (ih (by grind))
structure Grow (t u:xB):Prop where
  nO:∃r,u.results=t.results++r
  eF:u.eF.length≤t.eF.length+1
structure C0 (t u:xB):Prop where
  nO:u.results=t.results
  eF:u.eF=t.eF
theorem C0.refl (t:xB):C0 t t:=⟨rfl,rfl⟩
theorem C0.trans {t u v:xB} (a:C0 t u) (b:C0 u v):C0 t v:=⟨b.nO.trans a.nO,b.eF.trans a.eF⟩
theorem Grow.of {t u v:xB} (a:C0 u v) {r:List Hm} (h:u.results=t.results++r) (hp:u.eF.length≤t.eF.length+1):Grow t v:=⟨⟨r,a.nO.trans h⟩,by rw[a.eF];grind⟩
def Aj (t:xB):Prop:=∀x,t.now=some x→Yv x
theorem Aj.same {t u:xB} (W:Aj t) (h:u.now=t.now):Aj u:=λx hx=>W x (h▸hx)
end
section
theorem qZe {M:zn} {o:dR}:(xD M o).2.w.length=M.w.length∧(xD M o).2.l.length=M.l.length∧(xD M o).2.s.length=M.s.length:=by
 have key:(gd M o).2.w.length=M.w.length∧(gd M o).2.l.length=M.l.length∧(gd M o).2.s.length=M.s.length:=by
  grind[gd,Ks,Kw,JI,VX]
 grind[GJ]
structure MacOk (m:R7):Prop where
  so:JD m.s
  r:DU m.m
  len:(m.t.length:Int)=m.s.aF
  w:(m.m.w.length:Int)=m.s.words
  l:(m.m.l.length:Int)=m.s.aj
  sl:(m.m.s.length:Int)=m.s.aF
  t:∀(i:Nat) (t:xB),m.t[i]? =some t→SQ t∧Aj t∧(t.eF.length:Int)≤m.pH
  pH:0≤m.pH
  cY:0≤m.m.cY∧m.m.cY≤m.pH+1
end
section
variable {g h:AH} {L R:List SP}
theorem GT {g' ha:AH} {L2 R2:List SP} {b off n nx:Nat} {xs ys l:List AV} {K0:Go.Ae.R} {Q:AV→AH→Prop} (H:HS g h L) (s:aR L (qx b xs) R) (H2:HS g' ha L2) (s2:aR L2 (qx b ys) R2) (hl:l.length=n) (h0:0<n) (hx:(xs.drop off).take n=l) (hy:(ys.drop off).take n=l) (ae:b<nx) (w:wp K0 Q) :
  wp (ve (.ptr b off) (some n) (.agg l) h ha nx K0) Q:=by
 obtain⟨e,A⟩:=H.obj s;obtain⟨e2,A2⟩:=H2.obj s2;exact WB hl h0 (λi hi=>by rw[A.at,← hx,List.getElem?_take_of_lt hi,List.getElem?_drop]) (λi hi=>by rw[A2.at,← hy,List.getElem?_take_of_lt hi,List.getElem?_drop]) ae w
abbrev z10:List AV:=[.int .i64 0,.int .i64 0,.int .u64 0,.int .u64 0,.int .u64 0,.bool false,.int .i64 0,.int .u64 0,.bool false,.int .i64 0]
abbrev zz (s:xn):xn:={ s with aF:=3 }
theorem qKE {s:xn} (K:DR s):JD (zz s):=by obtain⟨a,b,c,d,e,f,g,i⟩:=K;exact⟨by grind,by omega,by grind,by simp,by grind,by omega,by grind,by grind⟩
theorem qjF {S:xn} (O:JD S):DU (J0 S):=by
 have:=O.start;refine⟨λz hz=>?_,⟨by show 0≤S.start;omega,by show S.start<_;omega⟩,λz hz=>?_⟩
 ·have:=List.eq_of_mem_replicate hz;grind
 ·have:=List.eq_of_mem_replicate hz;grind
structure V4 (S:xn) (M:zn) (k:Nat):Prop where
  r:DU M
  c:0≤M.cY∧M.cY≤k
  w:(M.w.length:Int)=S.words
  l:(M.l.length:Int)=S.aj
  s:(M.s.length:Int)=S.aF
theorem V4.next {S:xn} {M:zn} {k:Nat} {o:dR} (B:V4 S M k) (ho:lO o.word):V4 S (xD M o).2 (k+1):=by have h1:=qGb (M:=M) (o:=o);have h2:=B.c;obtain⟨e1,e2,e3⟩:=qZe;exact⟨(qX9 B.r ho).2,by omega,by rw[e1];exact B.w,by rw[e2];exact B.l,by rw[e3];exact B.s⟩
theorem jQA (o:dR):xk [.b6 .int 0,.b6 .int 1,.b6 .int 2,.b6 .int 3,.len 7,.b6 .int 4,.b6 .bool 5,.b6 .int 6,.len 10,.b6 .int 7,.b6 .bool 8,.b6 .int 9] (jn o) (jn o)=some true:=by obtain⟨a,b,c,d,⟨e,f,g⟩,⟨k,l,m⟩⟩:=o;show(bif eV a a then(bif eV b b then(bif eV c c then(bif eV d d then(bif eV e e then(bif f==f then(bif eV g g then(bif eV k k then(bif l==l then(bif eV m m then some true else some false)else some false)else some false)else some false)else some false)else some false)else some false)else some false)else some false)else some false)=some true;simp[J4]
theorem qxT {o:dR} {K:AV→Go.Ae.R} {Q:AV→AH→Prop} (w:wp (K (.bool false)) Q):wp (kU [.b6 .int 0,.b6 .int 1,.b6 .int 2,.b6 .int 3,.len 7,.b6 .int 4,.b6 .bool 5,.b6 .int 6,.len 10,.b6 .int 7,.b6 .bool 8,.b6 .int 9] true (.agg (jn o)) (.agg (jn o)) K) Q:=by unfold kU;simp only[jQA,ob];exact w
theorem qv0 {s:Bool} {K:AV→Go.Ae.R} {Q:AV→AH→Prop} (w:wp (K (.bool false)) Q):wp (lJ .bool true (.bool s) (.bool s) K) Q:=by
 cases s<;>exact w
abbrev HW:Type:=Int×Int×Int×Int×Int×Bool×Int×Int×Bool×Int
def Nv (x:HW):List AV:=[.int .i64 x.1,.int .i64 x.2.1,.int .u64 x.2.2.1,.int .u64 x.2.2.2.1,.int .u64 x.2.2.2.2.1,.bool x.2.2.2.2.2.1,.int .i64 x.2.2.2.2.2.2.1,.int .u64 x.2.2.2.2.2.2.2.1,.bool x.2.2.2.2.2.2.2.2.1,.int .i64 x.2.2.2.2.2.2.2.2.2]
end
section
variable {g h:AH} {L R:List SP}
abbrev kM (me w st wi sp wr fu t:Int) (pv rv bv:AV) (sw:Bool) (lv ov:AV):List AV:=[.int .i64 me,.int .i64 w,.int .i64 st,.int .i64 wi,.int .i64 sp,.int .i64 wr,.int .i64 fu,.int .u64 t,pv,rv,bv,.bool sw,lv,ov]
theorem qkM {n:Nat} {me w st wi sp wr fu t:Int} {pv rv bv lv ov:AV} {sw:Bool} {rs bs:List Int} (hn:12≤n) (ht:0≤t∧t<18446744073709551616) (ho:jV (kM me w st wi sp wr fu t pv rv bv sw lv ov)=true)
  (S1:∀{h':AH} {L':List SP},HS g h' L'→Rd g L' 1 rs.length rv (rs.map (.int .u64))) (hr:∀z∈rs,0≤z∧z<18446744073709551616) (S2:∀{h':AH} {L':List SP},HS g h' L'→Rd g L' 1 bs.length bv (bs.map (.int .u8))) (hb:∀z∈bs,0≤z∧z≤255) (H:HS g h R) :
  af n 5 [.agg (kM me w st wi sp wr fu t pv rv bv sw lv ov)] h λr h'=>∃s p q M,r=.bm [.agg (xC (zz s)),.ptr p 0,.ptr q 0]∧DR s∧V4 (zz s) M 80∧HS g h' (bt p (zz s) M::aS q (zz s) M::R):=by
 refine ag rfl omQ λk hk=>?_;unfold S5;try simp only[iZ]
 refine qH H ho λb0 h1 H1=>?_;refine qH H1 rfl λb1 h2 H2=>?_;refine qQ (qD H2 e_1 rfl omQ rfl ?_);refine qW (qvI omQ ht H2) ?_;rintro _ h3 ⟨s,rfl,K,H3⟩;refine qH H3 rfl λb2 h4 H4=>?_;refine qh H4 .here rfl (by simp) rfl λh5 H5=>?_;have H5:HS g h5 (qx b2 (xC s)::qx b1 [.int .i64 0,.int .i64 0,.int .i64 0,.int .i64 0,.int .u64 0,.int .i64 0,.int .i64 0,.int .i64 0]::qx b0 (kM me w st wi sp wr fu t pv rv bv sw lv ov)::R):=H5;refine qQ (qQ (qw H5 .here ⟨rfl,rfl⟩ (by simp) λh6 H6=>?_));have SO:=qKE K;have hid:ja (zz s)=zz s:=Uf SO;refine qG ?_
 try dsimp only
 refine qQ (qD H6 .here rfl omQ rfl ?_);refine qW (qv9 omQ SO.start.1 H6) ?_;rintro _ h7 ⟨p,rfl,H7⟩;rw[hid]at H7;refine qQ (qD H7 e_1 rfl omQ rfl ?_);refine qW (qgO omQ SO H7) ?_;rintro _ h8 ⟨q,rfl,H8⟩;refine GT H6 .here H7 e_1 rfl omQ rfl rfl (HS.lt H6 .here)<|Y3 (qJ ?_);refine qQ (qQ (qZ H8 e_2 rfl ?_));refine qQ (qZ H8 e_4 rfl ?_);refine qQ (qZ H8 e_4 rfl ?_);refine qW (qZd omQ H8 (S1 H8) hr (S2 H8) hb) ?_;rintro wv h9 ⟨zs,hz,_,hz1,Hp,_,_,H9⟩;have HN:HS g h9 (bt p (zz s) (J0 (zz s))::aS q (zz s) (J0 (zz s))::qF 22 1 zs.length wv (zs.map (.int .u64))::qx b2 (xC (zz s))::qx b1 [.int .i64 0,.int .i64 0,.int .i64 0,.int .i64 0,.int .u64 0,.int .i64 0,.int .i64 0,.int .i64 0]::R):=H9.pk [2,1,0,0,0] 1;have B0:V4 (zz s) (J0 (zz s)) 0:=by
  have h1:=SO.words;have h2:=SO.aj;refine⟨qjF SO,⟨Int.le_refl _,Int.le_refl _⟩,?_,?_,?_⟩
  ·show((List.replicate (zz s).words.toNat (0:Int)).length:Int)=_;grind
  ·show((List.replicate (zz s).aj.toNat cZ).length:Int)=_;grind
  rfl
 refine jF (λc x h'=>∃(i:Nat) (M:zn),x=(.int .i64 ((i+1:Nat):Int),wv,.ptr q 0,.ptr p 0,.ptr b2 0,.ptr b1 0,())∧i+1≤zs.length∧c=zs.length-(i+1)∧V4 (zz s) M i∧HS g h' (bt p (zz s) M::aS q (zz s) M::qF 22 1 zs.length wv (zs.map (.int .u64))::qx b2 (xC (zz s))::qx b1 [.int .i64 0,.int .i64 0,.int .i64 0,.int .i64 0,.int .u64 0,.int .i64 0,.int .i64 0,.int .i64 0]::R))
  ?_ omQ ⟨0,_,rfl,by omega,rfl,B0,HN⟩
 rintro c ih x h7 aY ⟨i,M,rfl,hi,rfl,B,H⟩;refine qd H e_2 ?_;obtain⟨w1,l1,s1,HR⟩:=aS.E (H.ah e_1);refine wX<|gS (λz g'=>g'=h7∧∃u:AV,z=(u,.bool (decide (((i+1:Nat):Int)<(zs.length:Int))),.int .i64 ((i+1:Nat):Int),wv,.ptr q 0,.ptr p 0,.ptr b2 0,.ptr b1 0,())∧(i+1<zs.length→u=.bool (decide (((i+1:Nat):Int)<(M.w.length:Int))))) (λj hj=>?_) ?_
 ·refine Qn (λc1=>?_) (λc1=>?_)
  ·refine qK (qQ (qZ HR .here rfl ?_));refine qd HR e_1<|wX<|hj _ _ ⟨rfl,_,rfl,λ_=>rfl⟩
  ·exact hj _ _ ⟨rfl,_,rfl,λh=>absurd h omQ⟩
 rintro _ h7 ⟨rfl,u,rfl,hu⟩;have fin:wp (q8 h7 (.ptr b2 0) 8 λv53=>qn h7 (.ptr b1 0) v53 8 λDv=>jR [] Dv λh55=>q8 h55 (.ptr b1 0) 8 λnz=>some (.bm [nz,.ptr p 0,.ptr q 0],h55)) λr h'=>∃s p q M,r=.bm [.agg (xC (zz s)),.ptr p 0,.ptr q 0]∧DR s∧V4 (zz s) M 80∧HS g h' (bt p (zz s) M::aS q (zz s) M::R):=by refine qD H e_3 rfl omQ rfl<|qh H e_4 rfl (by simp) rfl λh8 H8=>?_;refine qg (qD H8 .here rfl omQ rfl ?_);exact qY ⟨s,p,q,M,rfl,K,⟨B.r,by have:=B.c;omega,B.w,B.l,B.s⟩,H8.pk [1,1] 3⟩
 by_cases c1:i+1<zs.length
 ·rw[iG (show((i+1:Nat):Int)<(zs.length:Int) by omega),hu c1];refine qC ?_;by_cases c2:((i+1:Nat):Int)<(M.w.length:Int)
  ·rw[iG c2];refine qX ?_;have hx:zs[i+1]? =some zs[i+1]:=iW c1;refine jN (H.sl e_2) (by rw[List.getElem?_map,hx];rfl)<|qy rfl<|qH H rfl λb3 h8 H8=>?_;refine qh H8 .here rfl (by simp) rfl λh9 H9=>?_;have H9:HS g h9 (qx b3 (jn (ck 2 ((i+1:Nat):Int) zs[i+1]))::bt p (zz s) M::aS q (zz s) M::qF 22 1 zs.length wv (zs.map (.int .u64))::qx b2 (xC (zz s))::qx b1 [.int .i64 0,.int .i64 0,.int .i64 0,.int .i64 0,.int .u64 0,.int .i64 0,.int .i64 0,.int .i64 0]::R):=H9;have CU:=B.c;refine qD H9 .here rfl omQ rfl<|qW (RV omQ ⟨CU.1,by omega⟩ (H9.ah e_1)) ?_;rintro _ hA ⟨rfl,HA⟩;refine qD HA e_1 rfl omQ rfl<|qW (Ox omQ ⟨CU.1,by omega⟩ (HA.ah e_2)) ?_;rintro _ hB ⟨rfl,HB⟩;refine qS omQ<|aY (zs.length-(i+1+1)) _ _ omQ ⟨i+1,_,rfl,by omega,rfl,B.next (o:=ck 2 ((i+1:Nat):Int) zs[i+1]) (hz _ (List.getElem_mem c1)),?_⟩;exact HB.pk [1,0] 1
  ·rw[iV c2];exact qJ fin
 ·rw[iV (show¬((i+1:Nat):Int)<(zs.length:Int) by omega)];exact qB (qJ fin)
theorem Ze {n q:Nat} {S:xn} {M:zn} {k:Nat} {kd at_ cr word ow Tf lv lo:Int} {wh lh:Bool} (hn:4≤n) (B:V4 S M k) (SO:JD S) (hwd:0≤word) (H:HS g h (aS q S M::R)) :
  af n 19 [.agg [.int .i64 kd,.int .i64 at_,.int .u64 cr,.int .u64 word,.int .u64 ow,.bool wh,.int .i64 Tf,.int .u64 lv,.bool lh,.int .i64 lo],.ptr q 0] h λr h'=>∃z,r=.agg (jn z)∧lO z.word∧HS g h' (aS q S M::R):=by
 refine aG rfl omQ λk hk=>?_;unfold S19;try simp only[iZ]
 have u0:lO (0:Int):=⟨Int.le_refl _,by simp⟩;have uw:∀z:Int,lO (zC .u64 z):=λz=>by grind[kL,Ge]
 refine qH H rfl λb0 h1 H1=>?_;refine qH H1 rfl λb1 h2 H2=>?_;obtain⟨w1,l1,s1,H3⟩:=aS.E (H2.ah e_2);have hl:=B.l;have bK:=SO.aj;refine qQ (qZ H2 e_1 rfl ?_);refine qK (qQ (qZ H3 .here rfl ?_));refine qd H3 e_2 (jK omQ ?_);have hw:=gH (x:=at_) (lo:=((0:Nat):Int)) (hi:=(M.l.length:Int)-((1:Nat):Int)) omQ;refine qW (zr omQ omQ omQ omQ) ?_;rintro _ h2 ⟨rfl,rfl⟩;obtain⟨j,hj⟩:∃j:Nat,jt at_ ((0:Nat):Int) ((M.l.length:Int)-((1:Nat):Int))=(j:Int):=⟨(jt at_ ((0:Nat):Int) ((M.l.length:Int)-((1:Nat):Int))).toNat,by omega⟩;rw[hj]at hw ⊢;have l9:j<M.l.length:=by omega
 refine qK (qQ (qZ H3 .here rfl ?_));refine zj (H3.sl e_2) l9 omQ (JN l9) ?_;generalize yP M.l (j:Int)=lk;obtain⟨kv,kh,ko⟩:=lk;refine qH H2 rfl λb2 h4 H4=>?_;refine qh H4 .here rfl (by simp) rfl λh5 H5=>?_;refine qQ (qZ H5 e_2 rfl ?_);refine qW (zr omQ omQ omQ omQ) ?_;rintro _ h5 ⟨rfl,rfl⟩;generalize jt kd ((0:Nat):Int) ((9:Nat):Int)=kk at*;have back:∀(z:dR) (h':AH),lO z.word→HS g h' (qx b1 (jn z)::qx b2 (jS (kv,kh,ko))::qx b0 [.int .i64 kd,.int .i64 at_,.int .u64 cr,.int .u64 word,.int .u64 ow,.bool wh,.int .i64 Tf,.int .u64 lv,.bool lh,.int .i64 lo]::aS q S M::R)→
   wp (q8 h' (.ptr b1 0) 10 λv=>some (v,h')) λr h'=>∃z,r=.agg (jn z)∧lO z.word∧HS g h' (aS q S M::R):=λz h' hz H=>by
  refine qD H .here rfl omQ rfl<|qY ⟨z,rfl,hz,H.drop.drop.drop⟩
 by_cases c0:kk=0
 ·refine qj c0 (qX (qG ?_))
  try dsimp only
  refine qQ (qZ H5 .here rfl ?_);refine qQ (qc (qZ H5 e_2 rfl ?_));refine qW (zr omQ omQ omQ omQ) ?_;rintro _ h5 ⟨rfl,rfl⟩;refine qy rfl<|qy (l:=jn ⟨5,(j:Int),0,0,(0,false,0),(kv,true,jt lo ((0:Nat):Int) ((2:Nat):Int))⟩) rfl<|qh H5 e_1 rfl (by simp) rfl λh6 H6=>?_;refine qu H5 .here rfl H5 .here rfl (HS.lt H5 .here)<|back _ _ u0 H6
 refine qV c0 (qJ ?_);refine jq [] (λz g'=>g'=h5∧z=(.bool (decide (kk=1∨kk=2)),.int .i64 kk,.ptr b2 0,.int .i64 (j:Int),.ptr b1 0,.ptr b0 0,.ptr q 0,())) (λjj Bb=>?_) ?_
 ·by_cases c1:kk=1
  ·refine qj c1 (qX ?_);exact Bb _ _ ⟨rfl,by grind⟩
  ·refine qV c1 (qJ (gc ?_));exact Bb _ _ ⟨rfl,by grind⟩
 rintro _ h5 ⟨rfl,rfl⟩;dsimp only;refine Gi (λiw=>?_) (λiw=>?_)
 ·refine qQ (qZ H5 .here rfl ?_);refine qy rfl<|qy (l:=jn ⟨5,(j:Int),0,0,(0,false,0),(kv,false,0)⟩) rfl<|qh H5 e_1 rfl (by simp) rfl λh6 H6=>?_;exact qg (back _ _ u0 H6)
 by_cases c3:kk=3
 ·refine qj c3 (qX ?_);refine qQ (qZ H5 .here rfl (JX ?_));refine qy rfl<|qy (l:=jn ⟨5,(j:Int),0,0,(0,false,0),(zC .u64 (kv+((1:Nat):Int)),false,0)⟩) rfl<|qh H5 e_1 rfl (by simp) rfl λh6 H6=>?_;exact qg (back _ _ u0 H6)
 refine qV c3 (qJ ?_);refine jq [] (λz g'=>g'=h5∧z=(.bool (decide (kk=4∨kk=5)),.int .i64 kk,.ptr b1 0,.ptr b0 0,.ptr q 0,())) (λjj Bb=>?_) ?_
 ·by_cases c1:kk=4
  ·refine qj c1 (qX ?_);exact Bb _ _ ⟨rfl,by grind⟩
  ·refine qV c1 (qJ (gc ?_));exact Bb _ _ ⟨rfl,by grind⟩
 rintro _ h5 ⟨rfl,rfl⟩;refine Gi (λtX=>?_) (λtX=>?_)
 ·obtain⟨w2,l2,s2,H6⟩:=aS.E (H5.ah e_3);refine qK (qQ (qZ H6 .here rfl ?_));refine qK (qQ (qZ H6 .here rfl (JX ?_)));refine qy (l:=jn ⟨7,0,M.n,zC .u64 (M.n+((1:Nat):Int)),(0,false,0),(0,false,0)⟩) rfl<|qh H5 e_1 rfl (by simp) rfl λh6 H6=>?_;exact qg (back _ _ (uw _) H6)
 by_cases c6:kk=6
 ·refine qj c6 (qX (qG ?_))
  try dsimp only
  refine qQ (qZ H5 e_2 rfl ?_);refine qW (zr omQ omQ omQ omQ) ?_;rintro _ h5 ⟨rfl,rfl⟩;refine qQ (qZ H5 e_2 rfl (ga od ?_));refine qy (l:=jn ⟨2,jt at_ ((6:Nat):Int) ((13:Nat):Int),0,word.tmod ((40:Nat):Int),(0,false,0),(0,false,0)⟩) rfl<|qh H5 e_1 rfl (by simp) rfl λh6 H6=>?_;refine qu H5 e_2 rfl H5 e_2 rfl (HS.lt H5 e_2)<|qg (back _ _ ?_ H6);grind
 ·refine qV c6 (qJ ?_);refine qy (l:=jn ⟨6,0,0,0,(0,false,0),(0,false,0)⟩) rfl<|qh H5 e_1 rfl (by simp) rfl λh6 H6=>?_;exact qg (back _ _ u0 H6)
end
section
theorem qge {h:AH} {d:Nat} {v:AV} (H:WT Tryz.prog h (d+3) 26 [v]):∃ks:List qe,Sl (λb=>b<h.nx) h 5 ks.length v (ks.flatMap jG)∧∀x∈ks,0≤x.2.2.2.2∧x.2.2.2.2<18446744073709551616:=by
 obtain⟨q,xs,S,_,H2⟩:=UD (sz:=5) Tryz.underlying26 (by rfl) omQ H
 obtain⟨ks,g1,g3,rfl⟩:=VA (Pr:=λx=>0≤x.2.2.2.2∧x.2.2.2.2<18446744073709551616) jG S.len (λi hi=>by
  have:=H2 i hi;generalize(xs.drop (i*5)).take 5=row at this;unfold WT at this;simp only[Tryz.underlying86]at this;obtain⟨g1,g2⟩:=this;rw[show Tryz.prog.cellsOf 86=5 by rfl]at g1
  match row,g1 with
  |[x,y,z,u,t],_=>
   have f1:=g2 _ (iK ..);have f2:=g2 _ (iX _ (iK ..));have f3:=g2 _ (iX _ (iX _ (iK ..)));have f4:=g2 _ (iX _ (iX _ (iX _ (iK ..))));have f5:=g2 _ (iX _ (iX _ (iX _ (iX _ (iK ..)))));rw[show Tryz.prog.cellsOf 3=1 by rfl]at f1 f2 f3 f4;rw[show Tryz.prog.cellsOf 22=1 by rfl]at f5;unfold WT at f1 f2 f3 f4 f5;simp only[Tryz.underlying3,List.drop_zero,List.take_succ_cons,List.take_zero,List.drop_succ_cons]at f1 f2 f3 f4;simp only[Tryz.underlying22,List.drop_succ_cons,List.drop_zero,List.take_succ_cons,List.take_zero]at f5;obtain⟨a,ha,_⟩:=f1;obtain⟨b,hb,_⟩:=f2;obtain⟨c,hc,_⟩:=f3;obtain⟨d,hd,_⟩:=f4;obtain⟨e,he,c5⟩:=f5;cases ha;cases hb;cases hc;cases hd;cases he
   exact⟨(a,b,c,d,e),⟨c5.1,Int.lt_of_le_of_lt c5.2 od⟩,rfl⟩)
 grind
end
section
def QA (k:Nat) (x:qe):qe:=if x.1=12∨x.1=13 then(x.1,x.2.1,x.2.2.1,x.2.2.2.1+k,x.2.2.2.2)else x
theorem Jq {k:Nat} {x:qe}:(QA k x).1=x.1:=by grind[QA]
theorem qXI (x:qe):QA 0 x=x:=by simp[QA]
structure Bc (l L:List qe) (k:Nat) (iN:List Int):Prop where
  le:k+l.length≤L.length
  ins:∀i:Nat,i<l.length→qU L ((k+i:Nat):Int)=QA k (qU l i)
  st:qL L k=iN
theorem qJN {iN s:List Int} {k i:Nat} {op:Int} (h:0<zZ op→s≠[]):jD (iN++s.map (· +(k:Int))) ((k+i:Nat):Int) op=iN++(jD s i op).map (· +(k:Int)):=by
 have hd:0<zZ op→(iN++s.map (· +(k:Int))).dropLast=iN++s.dropLast.map (· +(k:Int)):=by simp_all
 have e:[((k+i:Nat):Int)]=[(i:Int)].map (· +(k:Int)):=by grind
 unfold jD;by_cases c1:ze op=true∨op=18
 ·rw[iJ c1,iJ c1];split<;>simp_all
 ·rw[iQ c1,iQ c1];split<;>simp_all
section
variable {l L:List qe} {k:Nat} {iN:List Int}
theorem Bc.stack (E:Bc l L k iN) (hw:∀j,j<l.length→xJ l (qL l j) (qU l j)=0):∀i,i≤l.length→qL L (k+i)=iN++(qL l i).map (· +(k:Int)):=by
 intro i
 induction i with
 |zero=>intro _;rw[Nat.add_zero,E.st];simp[qL]
 |succ i ih=>intro hi;rw[← Nat.add_assoc,jb,ih omQ,E.ins i omQ,Jq,qJN λh=>(zi (hw i omQ)).2.1 (.inl h),jb]
theorem qJ7 {s:List Int} (h:s≠[]):jW (iN++s.map (· +(k:Int)))=jW s+k:=by grind[jW,List.getLast?_append,List.getLast?_map,List.getLast?_eq_some_getLast]
theorem qqS (F:Fit l) {p e:Nat} (hp:p<l.length) (ho:(qU l p).1=14∨(qU l p).1=17∨(qU l p).1=18) (he:e<l.length) (h1:0<zZ (qU l e).1) (h2:jW (qL l e)=p):qP (qb l) (p:Int)=e:=by
 obtain⟨e0,_,_,_,_,_,hu⟩:=Uj F hp ho;obtain⟨e1,g1,g2,g3,g4,g5⟩:=gn F hp ho;have cM:jW (qL l (p+1))=p:=by rw[jb];unfold jD;rw[iJ (by grind[ze])];simp[jW]
 grind
theorem qwM (F:Fit l) {u e:Nat} (hu:u<l.length) (ho:(qU l u).1=16) (he:e<l.length) (h1:0<zZ (qU l e).1) (h2:jW (qL l e)=jW (qL l u)):qP (qb l) (u:Int)=e:=by obtain⟨e1,g1,g2,g3,g4,g5⟩:=QF F hu ho;obtain⟨q,q1,q2,_,q3⟩:=vv g5;have hq:=(yZ (F.ok u hu)).2.2.1 ho;rw[Vh g5 q1]at hq;obtain⟨e0,_,_,_,_,_,hU⟩:=Uj F omQ (.inl hq);have a:=hU e he h1 (h2.trans q1);have b:=hU e1 g2 (by rw[g3];decide) (by grind);grind
theorem Bc.mt (E:Bc l L k iN) (F:Fit l) (FL:Fit L) {i:Nat} (hi:i<l.length) (ho:(qU l i).1=14∨(qU l i).1=17∨(qU l i).1=18∨(qU l i).1=16):qP (qb L) ((k+i:Nat):Int)=qP (qb l) (i:Int)+k:=by
 have hle:=E.le;by_cases h:(qU l i).1=16
 ·obtain⟨e1,g1,g2,g3,g4,g5⟩:=QF F hi h;rw[g1,qwM FL (e:=k+e1) omQ (by rw[E.ins i hi,Jq];grind) omQ (by rw[E.ins e1 g2,Jq,g3];decide) (by rw[E.stack F.ok _ omQ,E.stack F.ok _ omQ,g4])];omega
 ·obtain⟨e1,g1,g2,g3,g4,g5⟩:=gn F hi omQ;have cM:jW (qL l (i+1))=i:=by
   rw[jb];unfold jD;rw[iJ (by grind[ze])];simp[jW]
  have bG:qL l e1≠[]:=by grind[Yc]
  rw[g1,qqS FL (e:=k+e1) omQ (by rw[E.ins i hi,Jq];omega) omQ (by rw[E.ins e1 g3,Jq,g4];omega) (by rw[E.stack F.ok _ omQ,qJ7 bG,g5,cM];omega)];omega
end
def YP (k:Nat) (p:cy):cy:={ p with pc:=p.pc+k }
structure Bd (k:Nat) (o0:List cy) (s S:IM):Prop where
  aa:S.aa=s.aa
  out:S.out=s.out
  pc:S.pc=s.pc+k
  ay:S.ay=s.ay.map (YP k)++o0
structure C1 (k:Nat) (o0:List cy) (d D:SM):Prop where
  e:D.e=d.e
  bf:D.bf=d.bf
  v:D.v=d.v
  nx:D.nx=d.nx+k
  aa:D.s.aa=d.s.aa
  out:D.s.out=d.s.out
  ay:D.s.ay=d.s.ay.map (YP k)++o0
section
variable {l L:List qe} {k:Nat} {iN:List Int} {o0:List cy} {s S:IM} {V:VM}
theorem qGl {x:qe} (h:Bd k o0 s S):(jm S V x).1=(jm s V x).1∧(jm S V x).2.2=(jm s V x).2.2∧(jm S V x).2.1.aa=(jm s V x).2.1.aa∧(jm S V x).2.1.out=(jm s V x).2.1.out∧(jm S V x).2.1.ay=(jm s V x).2.1.ay.map (YP k)++o0:=by
 unfold jm b9;rw[h.aa];by_cases c1:x.1=8
 ·rw[iJ c1,iJ c1]
  split
  ·split
   ·exact⟨rfl,rfl,rfl,h.out,h.ay⟩
   ·exact⟨rfl,rfl,h.aa,h.out,h.ay⟩
  ·exact⟨rfl,rfl,h.aa,h.out,h.ay⟩
 rw[iQ c1,iQ c1];by_cases c2:x.1=9
 ·rw[iJ c2,iJ c2]
  split
  ·exact⟨rfl,rfl,h.aa,h.out,h.ay⟩
  ·exact⟨rfl,rfl,h.aa,h.out,h.ay⟩
 rw[iQ c2,iQ c2];by_cases c3:x.1=10
 ·rw[iJ c3,iJ c3]
  split
  ·exact⟨rfl,rfl,h.aa,h.out,h.ay⟩
  ·split
   ·exact⟨rfl,rfl,rfl,h.out,h.ay⟩
   ·exact⟨rfl,rfl,h.aa,h.out,h.ay⟩
 rw[iQ c3,iQ c3]
 split
 ·exact⟨rfl,rfl,h.aa,h.out,h.ay⟩
 ·exact⟨rfl,rfl,h.aa,h.out,h.ay⟩
theorem qVn {op:Int} (h:Bd k o0 s S):C1 k o0 (zW op s.pc (s.pc+1) s V) (zW op S.pc (S.pc+1) S V):=by
 unfold zW;have hp:=h.pc
 split
 ·refine⟨rfl,rfl,rfl,by grind,h.aa,h.out,?_⟩;show _::S.ay=_::(s.ay.map (YP k))++o0;rw[h.ay,List.cons_append];unfold YP;rw[h.aa,h.out,hp]
 ·exact⟨rfl,rfl,rfl,by grind,h.aa,h.out,h.ay⟩
theorem qyH {mt MT:List Int} {x:qe} (h:Bd k o0 s S) (hx:1≤x.1∧x.1≤22) (fW:x.1≠20) (hm:x.1=16∨x.1=18→qP MT S.pc=qP mt s.pc+k) (ho:x.1=15∨x.1=16∨x.1=18∨x.1=19→s.ay≠[]) :
  C1 k o0 (aZ mt s V x) (aZ MT S V (QA k x)):=by
 have hp:=h.pc;have hr:=h.aa;have np:S.pc+1=s.pc+1+k:=by omega
 by_cases cj:x.1=12∨x.1=13
 ·have ex:QA k x=(x.1,x.2.1,x.2.2.1,x.2.2.2.1+k,x.2.2.2.2):=iJ cj;rw[ex];unfold aZ;rcases cj with cj |cj
  ·simp only[cj];exact⟨rfl,rfl,rfl,rfl,h.aa,h.out,h.ay⟩
  ·simp only[cj];refine⟨rfl,rfl,rfl,?_,h.aa,h.out,h.ay⟩;grind
 have ex:QA k x=x:=iQ cj;rw[ex];unfold aZ;by_cases c1:x.1=1
 ·rw[iJ c1,iJ c1];unfold b9;rw[hr];exact⟨rfl,rfl,rfl,np,rfl,h.out,h.ay⟩
 rw[iQ c1,iQ c1];by_cases c2:x.1=2
 ·rw[iJ c2,iJ c2];unfold b9;rw[hr];exact⟨rfl,rfl,rfl,np,rfl,h.out,h.ay⟩
 rw[iQ c2,iQ c2];by_cases c3:x.1=3
 ·rw[iJ c3,iJ c3];unfold b9;rw[hr];exact⟨rfl,rfl,rfl,np,rfl,h.out,h.ay⟩
 rw[iQ c3,iQ c3];by_cases c4:x.1=4
 ·rw[iJ c4,iJ c4];unfold b9;rw[hr];exact⟨rfl,rfl,rfl,np,rfl,h.out,h.ay⟩
 rw[iQ c4,iQ c4];by_cases c5:x.1=5
 ·rw[iJ c5,iJ c5];unfold b9;rw[hr];exact⟨rfl,rfl,rfl,np,rfl,h.out,h.ay⟩
 rw[iQ c5,iQ c5];by_cases c6:x.1=6
 ·rw[iJ c6,iJ c6];unfold b9;rw[hr];exact⟨rfl,rfl,rfl,np,rfl,h.out,h.ay⟩
 rw[iQ c6,iQ c6];by_cases c7:x.1=7
 ·rw[iJ c7,iJ c7];unfold b9;rw[hr];exact⟨rfl,rfl,rfl,np,rfl,h.out,h.ay⟩
 rw[iQ c7,iQ c7,iQ (λh=>cj (.inl h)),iQ (λh=>cj (.inl h)),iQ (λh=>cj (.inr h)),iQ (λh=>cj (.inr h))];by_cases iM:x.1=21
 ·rw[iJ iM,iJ iM,h.out,hr]
  split
  ·exact⟨rfl,rfl,rfl,np,h.aa,h.out,h.ay⟩
  ·exact⟨rfl,rfl,rfl,np,rfl,rfl,h.ay⟩
 rw[iQ iM,iQ iM];by_cases lN:x.1=22
 ·rw[iJ lN,iJ lN];exact⟨rfl,rfl,rfl,np,h.aa,h.out,h.ay⟩
 rw[iQ lN,iQ lN];by_cases c8:x.1=8∨x.1=9∨x.1=10∨x.1=11
 ·rw[iJ c8,iJ c8];obtain⟨a,b,c,d,e⟩:=qGl h;exact⟨a,rfl,b,np,c,d,e⟩
 rw[iQ c8,iQ c8];unfold yL;by_cases t1:x.1=14∨x.1=17
 ·rw[iJ t1,iJ t1];exact qVn h
 rw[iQ t1,iQ t1];have tl:x.1=15∨x.1=16∨x.1=18∨x.1=19→S.ay.tail=s.ay.tail.map (YP k)++o0:=by
  intro hh;have:=ho hh;rw[h.ay];simp_all
 by_cases t2:x.1=15∨x.1=19
 ·rw[iJ t2,iJ t2];exact⟨rfl,rfl,rfl,np,h.aa,h.out,tl omQ⟩
 rw[iQ t2,iQ t2];by_cases t3:x.1=18
 ·rw[iJ t3,iJ t3];have:=hm (.inr t3);exact⟨rfl,rfl,rfl,by grind,h.aa,h.out,tl omQ⟩
 rw[iQ t3,iQ t3];by_cases t4:x.1=16
 ·rw[iJ t4,iJ t4];have:=hm (.inl t4);have hh:VJ S.ay=YP k (VJ s.ay):=by
   have:=ho (.inr (.inl t4));rw[h.ay];cases hs:s.ay with
   |nil=>grind
   |cons p o=>rfl
  refine⟨rfl,rfl,rfl,by grind,?_,?_,tl omQ⟩
  ·rw[hh];rfl
  ·show S.out.take (VJ S.ay).told=s.out.take (VJ s.ay).told;rw[hh,h.out];rfl
 omega
end
end
section
theorem HX {l:List qe} (F:Fit l) {s:IM} {V:VM} {i:Nat} (hi:s.pc=i) (ae:i<l.length) (fW:(qU l i).1≠20) (oG:(qU l i).1≠23):∃j:Nat,(aZ (qb l) s V (qU l i)).nx=j∧j≤l.length:=by
 have hm:=I2 (yZ (F.ok i ae)).1 oG;have hj:=F.jump i ae;have h1:∃j:Nat,s.pc+1=j∧j≤l.length:=⟨i+1,by omega,by omega⟩;have mR:(qU l i).1=16∨(qU l i).1=18→∃j:Nat,qP (qb l) s.pc+1=j∧j≤l.length:=by
  intro h;rw[hi];rcases h with h |h
  ·obtain⟨e,e1,e2,_⟩:=QF F ae h;exact⟨e+1,by omega,by omega⟩
  ·obtain⟨e,e1,_,e2,_⟩:=gn F ae (.inr (.inr h));exact⟨e+1,by omega,by omega⟩
 have hc:(qU l i).1=12∨(qU l i).1=13→∃j:Nat,(qU l i).2.2.2.1=j∧j≤l.length:=by
  intro h;refine⟨(qU l i).2.2.2.1.toNat,by omega,?_⟩;by_cases hc:(l.length:Int)<(qU l i).2.2.2.1
  ·exact absurd ⟨h,.inl hc⟩ hj
  grind
 generalize qU l i=x at*;unfold aZ;by_cases c1:x.1=1
 ·grind
 rw[iQ c1];by_cases c2:x.1=2
 ·grind
 rw[iQ c2];by_cases c3:x.1=3
 ·grind
 rw[iQ c3];by_cases c4:x.1=4
 ·grind
 rw[iQ c4];by_cases c5:x.1=5
 ·grind
 rw[iQ c5];by_cases c6:x.1=6
 ·grind
 rw[iQ c6];by_cases c7:x.1=7
 ·grind
 rw[iQ c7];by_cases iw:x.1=12
 ·grind
 rw[iQ iw];by_cases lD:x.1=13
 ·grind
 rw[iQ lD];by_cases iM:x.1=21
 ·grind
 rw[iQ iM];by_cases lN:x.1=22
 ·grind
 rw[iQ lN];by_cases c8:x.1=8∨x.1=9∨x.1=10∨x.1=11
 ·grind
 rw[iQ c8];unfold yL;by_cases t1:x.1=14∨x.1=17
 ·rw[iJ t1];grind[zW]
 grind
section
variable {l L:List qe} {k:Nat} {iN:List Int} {o0:List cy}
theorem qvh (E:Bc l L k iN) (F:Fit l) {s S:IM} {V:VM} (h:Bd k o0 s S) (G:GI L S V) {i:Nat} (hi:s.pc=i) (p0:i≤l.length) (h0:o0.length=iN.length):s.ay.length=(qL l i).length:=by have e:=congrArg List.length G.CC;rw[h.pc,hi,show((i:Int)+(k:Int)).toNat=k+i by omega,E.stack F.ok i p0,h.ay]at e;grind
theorem qzO (E:Bc l L k iN) (F:Fit l) (FL:Fit L) (QL:Quiet L) (Cl:Calm l) (h0:o0.length=iN.length) {s S:IM} {V:VM} (h:Bd k o0 s S) (G:GI L S V) {i:Nat} (hi:s.pc=i) (ae:i<l.length) :
  C1 k o0 (aZ (qb l) s V (qU l i)) (aZ (qb L) S V (qU L ((k+i:Nat):Int)))∧(aZ (qb l) s V (qU l i)).bf=false∧∃j:Nat,(aZ (qb l) s V (qU l i)).nx=j∧j≤l.length:=by
 have hle:=E.le;have hq:(qU l i).1≠23:=by
  have:=(QL.at (i:=k+i) omQ).1
  rwa [E.ins i ae,Jq]at this
 have fW:(qU l i).1≠20:=by rw[xq ae];exact Cl _ (List.getElem_mem ae)
 have hw:=F.ok i ae;have hb:=I2 (yZ hw).1 hq;have hlen:=qvh E F h G hi omQ h0;have I7:S.pc=((k+i:Nat):Int):=by have:=h.pc;omega
 rw[E.ins i ae];refine⟨qyH h omQ fW (λho=>?_) (λho hn=>?_),qQl omQ fW hq,HX F hi ae fW hq⟩
 ·rw[I7,hi,E.mt F FL ae omQ]
 ·rw[hn]at hlen
  have:qL l i≠[]:=(zi hw).2.1 (by
   rcases ho with ho |ho |ho |ho
   ·exact .inl (by rw[ho];decide)
   ·grind
   ·exact .inl (by rw[ho];decide)
   ·exact .inl (by rw[ho];decide))
  grind
theorem qgs (E:Bc l L k iN) (F:Fit l) (FL:Fit L) (QL:Quiet L) (Cl:Calm l) (h0:o0.length=iN.length):∀(n:Nat) {s S:IM} {V:VM},Bd k o0 s S→GI L S V→(∃i:Nat,s.pc=i∧i≤l.length)→bA V.lv+n<9000→
  ((zw l (qb l) n s V).kind=2→∃S',zw L (qb L) n S V=zw L (qb L) (zw l (qb l) n s V).left S' (zw l (qb l) n s V).v∧Bd k o0 (zw l (qb l) n s V).s S'∧GI L S' (zw l (qb l) n s V).v∧
   bA (zw l (qb l) n s V).v.lv+(zw l (qb l) n s V).left<9000∧(zw l (qb l) n s V).s.pc=l.length∧(zw l (qb l) n s V).left≤n)∧
  ((zw l (qb l) n s V).kind≠2→(zw L (qb L) n S V).kind=(zw l (qb l) n s V).kind∧(zw L (qb L) n S V).err=(zw l (qb l) n s V).err):=by
 have hle:=E.le;intro n
 induction n with
 |zero=>
  rintro s S V h G ⟨i,hi,p0⟩ hf;have hp:=h.pc;rw[wc];by_cases c:s.pc=l.length
  ·grind
  ·rw[iQ c,wc,iQ omQ];simp
 |succ n ih=>
  rintro s S V h G ⟨i,hi,p0⟩ hf;have hp:=h.pc;rw[kw];by_cases c:s.pc=l.length
  ·grind
  ·have ae:i<l.length:=by omega
   have hSp:S.pc=((k+i:Nat):Int):=by omega
   obtain⟨D,hb,j,hj,l9⟩:=qzO E F FL QL Cl h0 h G hi ae;have St:=YY FL G hSp omQ omQ (QL.at (i:=k+i) omQ).2 (QL.at (i:=k+i) omQ).1;have e1:=kw (l:=L) (mt:=qb L) (n:=n) (s:=S) (V:=V);rw[iQ (show¬S.pc=L.length by omega),hSp]at e1;rw[iQ c,e1,hi];generalize aZ (qb l) s V (qU l i)=d at*;generalize aZ (qb L) S V (qU L ((k+i:Nat):Int))=D' at*;have hB:D'.bf=false:=D.bf.trans hb;by_cases c0:d.e=0
   ·rw[iJ c0,iQ (by grind),iJ (D.e.trans c0),iQ (by grind)];have A3:=St.fr;have G2:=St.next (D.e.trans c0) hB;have S2:Bd k o0 { d.s with pc:=d.nx } { D'.s with pc:=D'.nx }:=⟨D.aa,D.out,D.nx,D.ay⟩;rw[D.v]at A3 G2 ⊢;obtain⟨a,b⟩:=ih S2 G2 ⟨j,hj,l9⟩ omQ;grind
   ·have c0':¬D'.e=0:=by rw[D.e];grind
    rw[iQ c0,iQ c0'];by_cases Ag:d.e=11
    ·rw[iJ Ag,iJ (D.e.trans Ag)];simp
    ·have Tg:¬D'.e=11:=by rw[D.e];grind
     rw[iQ Ag,iQ Tg];exact⟨λhk=>(by grind),λ_=>⟨rfl,D.e⟩⟩
end
end
section
variable {g h:AH} {L R:List SP}
def Mw (p l:List qe):List qe:=p++l.map (QA p.length)
def HY (ls:List (List qe)):List qe:=ls.foldl Mw []
end
section
theorem cV.Th {l:List qe} {st:List Int} (B:cV true l st):cV false l st :=
 ⟨λx hx=>⟨(B.ok x hx).may,(B.ok x hx).no,(B.ok x hx).n,λh=>(by grind)⟩,B.wr,B.top,λj hj ho=>(by
  obtain⟨c,c1,c2,c3,_⟩:=B.jp j hj ho
  grind),B.oM⟩
theorem qZ1 (p:List qe):p.map (QA 0)=p:=by
 induction p with
 |nil=>rfl
 |cons x p ih=>rw[List.map_cons,qXI,ih]
theorem join_one {p:List qe} {op:Int} (h:op=20∨op=22):HY [p,[one op]]=p++[one op]:=by
 have e:QA p.length (one op)=one op:=iQ (by grind);show Mw (Mw [] p) [one op]=_;grind[Mw,List.length_nil,qZ1,List.map_singleton]
theorem qgE (p t:List qe):Bc p (p++t) 0 []:=⟨by simp,λi hi=>by rw[qXI,Nat.zero_add,Xf hi],rfl⟩
section
variable {p:List qe} {op:Int}
theorem qjL (B:cV true p []) (h:op=20∨op=22):cV false (p++[one op]) [] :=
 B.Th.flat ⟨by rcases h with rfl |rfl<;>decide,by grind,by simp,λh=>(by grind)⟩ (by rcases h with rfl |rfl<;>(trivial)) (by grind)
theorem KQ {calm:Bool} {l:List qe} (B:cV calm l []):Quiet l:=λx hx=>⟨(B.ok x hx).no,(B.ok x hx).n⟩
theorem qY2 {l:List qe} (B:cV true l []):Calm l:=λx hx=>((B.ok x hx).cal rfl).1
theorem fails (B:cV true p []) (h0:0<p.length) (Cr:p.length≤39) (h:op=20∨op=22) {zs:List Int} (hz:CK zs) :
  (GO (p++[one op]) 400 zs 96).kind≠2∧
  ((GO p 400 zs 96).kind≠2→(GO p 400 zs 96).kind=4∧(GO (p++[one op]) 400 zs 96).kind=4∧(GO (p++[one op]) 400 zs 96).err=(GO p 400 zs 96).err)∧
  ((GO p 400 zs 96).kind=2→op=20∧(GO (p++[one op]) 400 zs 96).kind=3∧(GO (p++[one op]) 400 zs 96).err=0∨op=22∧(GO (p++[one op]) 400 zs 96).kind=4∧(GO (p++[one op]) 400 zs 96).err=13∨
   (GO (p++[one op]) 400 zs 96).kind=4∧(GO (p++[one op]) 400 zs 96).err=6):=by
 have BL:=qjL B h;have F:Fit p:=Kk (by rw[B.fit h0 omQ]);have FL:Fit (p++[one op]):=Kk (by rw[BL.fit aA (by grind)]);have Q:=KQ B;have QL:=KQ BL;have C:=qY2 B;have G:=qXn (l:=p) (m:=96) hz;have GL:=qXn (l:=p++[one op]) (m:=96) hz;have f0:=qWt zs 96;have n3:=qxb F Q C 400 G omQ;have n1:=qV2 F Q (n:=400) (zs:=zs) G rfl rfl omQ;have rk:=(RN F Q 400 G omQ).2.2.2.2;obtain⟨a,b⟩:=qgs (qgE p [one op]) F FL QL C (o0:=[]) rfl 400 ⟨rfl,rfl,rfl,rfl⟩ GL ⟨0,rfl,Nat.zero_le _⟩ omQ;unfold GO;generalize zw p (qb p) 400 XQ (kl zs 96)=A at*;by_cases k2:A.kind=2
 ·obtain⟨S',x1,x2,x3,x4,x5,x6⟩:=a k2;have hp:S'.pc=((p.length:Nat):Int):=by have:=x2.pc;omega
  have bG:¬S'.pc=(p++[one op]).length:=by grind
  have us:qU (p++[one op]) S'.pc=one op:=by have e:=JL (l:=p) (t:=[one op]) (k:=0) (x:=one op) rfl;grind
  have ho:S'.ay=[]:=by have e:=x3.CC;rw[hp,Int.toNat_natCast,wn _ (Nat.le_refl _),F.nil]at e;simp_all
  have key:op=20∧(zw (p++[one op]) (qb (p++[one op])) A.left S' A.v).kind=3∧(zw (p++[one op]) (qb (p++[one op])) A.left S' A.v).err=0∨op=22∧(zw (p++[one op]) (qb (p++[one op])) A.left S' A.v).kind=4∧(zw (p++[one op]) (qb (p++[one op])) A.left S' A.v).err=13∨
    (zw (p++[one op]) (qb (p++[one op])) A.left S' A.v).kind=4∧(zw (p++[one op]) (qb (p++[one op])) A.left S' A.v).err=6:=by
   cases A.left with
   |zero=>rw[wc,iQ bG];simp
   |succ m=>
    rw[kw,iQ bG,us];rcases h with rfl |rfl
    ·have e:aZ (qb (p++[one 20])) S' A.v (one 20)=⟨0,S'.pc,true,{ S' with ay:=[] },A.v⟩:=by
      show xw _ S'.ay S' A.v=_;rw[ho];rfl
     grind
    ·exact .inr (.inl ⟨rfl,rfl,rfl⟩)
  grind
 grind
end
end
end Go.Proofs.YtpbpkcdebchbbaaGreatDoor
