/- Lemmas for 'quietus/quietuslaw26.AttemptAlone': An attempt: by the program: its work;the machine in it;An attempt: by the program: what it is told, what it does next;A new memory, a new attempt: by the ... No condition. -/
import Derived.Test.YtnalffoigcmnnaaGreatDoorAttemptAloneM4
import Derived.Test.YtnalffoigcmnnaaGreatDoorAttemptAloneM2
import Derived.Test.YtnalffoigcmnnaaGreatDoorAttemptAloneM1
namespace Go.Proofs.YtnalffoigcmnnaaGreatDoor
open Go Go.Ae
set_option maxRecDepth 100000
variable {g h:AH} {L R:List SP}
section
variable {st:Int} {f:ki} {e:kP} {c:Option ju} {iv fv ev cv:AV} {b:Nat}
theorem InnC.fetI (hst:st=3) (hc:c=none) (q:cv=.nilp∧fv=.ptr b 0∧iv=.iface 107 (.ptr b 0)) (H:HS g h (qk b (gX f)::R)):HS g h (InnC st f e c iv fv ev cv::R):=by subst hst;subst hc;show HS g h (.ex (λb':Nat=>SP.all [.pur (cv=.nilp∧fv=.ptr b' 0∧iv=.iface 107 (.ptr b' 0)),qk b' (gX f)])::R);exact HS.exI b (HS.allI (A:=[_,_]) (HS.purI q H))
theorem InnC.fetE (hst:st=3) (hc:c=none) (H:HS g h (InnC st f e c iv fv ev cv::R)):∃b,(cv=.nilp∧fv=.ptr b 0∧iv=.iface 107 (.ptr b 0))∧HS g h (qk b (gX f)::R):=by subst hst;subst hc;exact InnC.fet H
theorem InnC.extI (hst:st=4∨st=5) (hc:c=none) (q:cv=.nilp∧ev=.ptr b 0∧iv=.iface 108 (.ptr b 0)) (H:HS g h (ExtC b e::R)):HS g h (InnC st f e c iv fv ev cv::R):=by subst hc;unfold InnC;dsimp only;rw[iQ omQ,iJ hst];exact HS.exI b (HS.allI (A:=[_,_]) (HS.purI q H))
theorem InnC.extE (hst:st=4∨st=5) (hc:c=none) (H:HS g h (InnC st f e c iv fv ev cv::R)):∃b,(cv=.nilp∧ev=.ptr b 0∧iv=.iface 108 (.ptr b 0))∧HS g h (ExtC b e::R):=by subst hc;unfold InnC at H;dsimp only at H;rw[iQ omQ,iJ hst]at H;obtain⟨b,H⟩:=H.exE;exact⟨b,H.allE.purE⟩
theorem InnC.noI (hst:st≠3∧st≠4∧st≠5) (hc:c=none) (q:cv=.nilp) (H:HS g h R):HS g h (InnC st f e c iv fv ev cv::R):=by subst hc;unfold InnC;dsimp only;rw[iQ omQ,iQ omQ];exact HS.purI q H
theorem InnC.noE (hc:c=none) (H:HS g h (InnC st f e c iv fv ev cv::R)):cv=.nilp∧HS g h R:=by subst hc;exact InnC.nil H
theorem InnC.comI {d:ju} (hc:c=some d) (q:cv=.ptr b 0∧(st=6→iv=.iface 109 (.ptr b 0))) (H:HS g h (ComC b d::R)):HS g h (InnC st f e c iv fv ev cv::R):=by subst hc;show HS g h (.ex (λb':Nat=>SP.all [.pur (cv=.ptr b' 0∧(st=6→iv=.iface 109 (.ptr b' 0))),ComC b' d])::R);exact HS.exI b (HS.allI (A:=[_,_]) (HS.purI q H))
theorem InnC.comE {d:ju} (hc:c=some d) (H:HS g h (InnC st f e c iv fv ev cv::R)):∃b,(cv=.ptr b 0∧(st=6→iv=.iface 109 (.ptr b 0)))∧HS g h (ComC b d::R):=by subst hc;obtain⟨b,H⟩:=(show HS g h (.ex (λb':Nat=>SP.all [.pur (cv=.ptr b' 0∧(st=6→iv=.iface 109 (.ptr b' 0))),ComC b' d])::R)from H).exE;exact⟨b,H.allE.purE⟩
end
section
variable {n a:Nat} {x:jG} {q:Na}
theorem OH (hn:18≤n) (B:wV x) (hj:JobOk True x.v x.job) (hc:x.c=none) (hcv:q.cv=.nilp) (H:HS g h (qk a (zu x q)::JobC q.vb x.job q.rv q.bv q.gv::ViewC q.vb x.v::RdsC q.db x.r::R)) :
  t_w n 59 [.ptr a 0] h λ_ h'=>HS g h' (AttC a (xO x)::R):=by
 refine t_e1 (S:=S59) rfl omQ λk hk=>?_;unfold S59;try simp only[iZ]
 have D:=Gs B.good B.fr hj;unfold xO;refine qW (qko omQ B.good B.fr hj H) ?_;rintro _ h1 ⟨rfl,gv,H1⟩;clear H;generalize(yR x).1.1=kd at*;generalize(yR x).1.2=er at*;generalize(yR x).2=y at*;obtain⟨e1,e2,e3,e4,e5⟩:=D.same;have hyc:y.c=none:=by rw[e5,hc]
 have hyr:y.r.length≤16:=by rw[e3];exact B.r
 rw[← e3]at H1;generalize hA:ge y kd er=A;refine qw rfl (qw rfl ?_);refine jT [] (λ_ h'=>HS g h' (AttC a A::R)) (λj hj=>?_) λ_ h' H'=>qx (qY H');unfold ge at hA;have hhi:=D.good.ok.hi;by_cases c1:kd=1
 ·rw[iJ c1]at hA;subst hA;refine qz c1 (qX ?_);have hnd:=D.need c1;have hk:=D.kept.1;refine qq (qQ (qG H1 (b:=a) .here rfl ?_));refine qW (Ky omQ (H1.sel (P:=ViewC q.vb y.v) e_2)) ?_;rintro _ _ ⟨rfl,rfl⟩;refine qW (qJB omQ omQ H1) ?_;rintro _ h2 ⟨b,H2⟩;refine hj _ _ (AttC.I (q:={ q with gv:=gv,iv:=.iface 107 (.ptr b 0),fv:=.ptr b 0 }) ?_);have H3:=InnC.fetI (st:=3) (e:=y.e) (ev:=q.ev) rfl hyc ⟨hcv,rfl,rfl⟩ H2;exact H3.sub (.cons e_1 (.cons e_1 (.cons e_1 (.cons e_1 (.cons .here .refl)))))
 rw[iQ c1]at hA;refine qZ c1 (qJ ?_);by_cases c3:kd=3
 ·rw[iJ c3]at hA;subst hA;refine qz c3 (qX ?_);refine qq (qQ ?_);refine qH H1 (b:=a) .here ⟨rfl,rfl⟩ (by simp[zu]) λh2 H2=>?_;have H2:HS g h2 (qk a (zu { y with blocking:=true } { q with gv:=gv })::JobC q.vb y.job q.rv q.bv gv::ViewC q.vb y.v::RdsC q.db y.r::R):=H2;refine qW (VK (x:={ y with blocking:=true }) (q:={ q with gv:=gv }) omQ hyr (H2.sub (.cons .here (.cons e_2 .refl)))) ?_;rintro _ h3 ⟨b,H3⟩;refine hj _ _ (AttC.I (q:={ q with gv:=gv,iv:=.iface 108 (.ptr b 0),ev:=.ptr b 0 }) ?_);have H4:=InnC.extI (st:=5) (f:=y.f) (fv:=q.fv) (c:=y.c) (cv:=q.cv) (.inr rfl) hyc ⟨hcv,rfl,rfl⟩ H3;exact H4.sub (.cons e_1 (.cons e_2 (.cons e_2 (.cons e_1 (.cons .here .refl)))))
 rw[iQ c3]at hA;refine qZ c3 (qJ ?_);have gone:∀{fin err:Int} {h2:AH},HS g h2 (qk a (zu (xK y fin err (-1)) { q with gv:=gv })::JobC q.vb y.job q.rv q.bv gv::ViewC q.vb y.v::RdsC q.db y.r::R)→HS g h2 (AttC a (xK y fin err (-1))::R):=λ{fin err h2} H2=>by
  refine AttC.I (q:={ q with gv:=gv }) ?_;have H3:=InnC.noI (st:=7) (f:=y.f) (e:=y.e) (c:=y.c) (iv:=q.iv) (fv:=q.fv) (ev:=q.ev) (cv:=q.cv) od hyc hcv H2;exact H3.sub (.cons e_1 (.cons e_1 (.cons e_1 (.cons e_1 (.cons .here .refl)))))
 by_cases c4:kd=4
 ·rw[iJ c4]at hA;subst hA;refine qz c4 (qX ?_);refine qW (kF omQ H1) λ_ h2 H2=>?_;exact hj _ _ (gone H2)
 rw[iQ c4]at hA;refine qZ c4 (qJ ?_);refine qq (qQ (qG H1 (b:=a) .here rfl ?_));refine qW (Yp omQ (H1.sel (P:=ViewC q.vb y.v) e_2) D.good.ok) λv h2 H2=>?_;have hmo:=Xl D.good.ok;refine qs H2 .here ?_;by_cases c5:jV y.v.lv=[]
 ·rw[iJ c5]at hA;subst hA;refine qz (by rw[c5];rfl) (qX ?_);refine qW (kF omQ (H2.sub (.cons e_2 (.cons e_2 (.cons e_1 (.cons e_1 (.drop .refl))))))) λ_ h3 H3=>?_;exact qY (gone H3)
 ·rw[iQ c5]at hA;have hml:0<(jV y.v.lv).length:=List.length_pos_iff.2 c5;refine qZ omQ (qJ ?_);refine qV ?_
  try dsimp only
  refine qq (qQ (qG H2 (b:=a) e_2 rfl ?_));refine qq (qQ (jN (qG H2 (b:=a) e_2 rfl ?_)));refine qq (qQ (qG H2 (b:=a) e_2 rfl ?_));refine qq (qQ (qG H2 (b:=a) e_2 rfl ?_));refine qW (qQH omQ omQ (H2.sel (P:=RdsC q.db y.r) e_4)) λv2 h3 H3=>?_;refine qq (qQ (jN (jN (qG H3 (b:=a) e_4 rfl ?_))));refine qq (qQ (jN (jN (qG H3 (b:=a) e_4 rfl ?_))));refine qW (qzi (me:=y.me) (sp:=y.set.spins) (st:=y.stamp) (a:=y.set.stripes) (w:=y.set.wide) (r:=y.r) (cs:=jV y.v.lv) omQ omQ hml omQ (λc h=>by have:=hmo.2 c h;omega) (H3.sub (.cons .here (.cons e_1 .refl)))) ?_;rintro _ h4 ⟨b,rfl,H4⟩;refine qq (qQ ?_);refine qH H4 (b:=a) e_3 (x:=.ptr b 0) ⟨rfl,rfl⟩ (by simp[zu]) λh5 H5=>?_;refine qp H2 e_2 rfl H3 e_4 rfl (HS.lt H2 e_2) ?_;refine qp H2 e_2 rfl H3 e_4 rfl (HS.lt H2 e_2) ?_;refine qp H2 e_2 rfl H3 e_4 rfl (HS.lt H2 e_2) ?_;refine qp H2 e_2 rfl H3 e_4 rfl (HS.lt H2 e_2) ?_;refine qp H2 e_2 rfl H3 e_4 rfl (HS.lt H2 e_2) ?_;have H6:HS g h5 (qk a (zu { y with c:=some (Qi y.me y.set.spins y.stamp y.r (jV y.v.lv) y.set.stripes y.set.wide) } { q with gv:=gv,cv:=.ptr b 0 })::ComC b (Qi y.me y.set.spins y.stamp y.r (jV y.v.lv) y.set.stripes y.set.wide)::RdsC q.db y.r::ViewC q.vb y.v::JobC q.vb y.job q.rv q.bv gv::R):=H5;refine qq (qQ (qG H6 (b:=a) .here rfl ?_));refine qW (Y6 omQ H6) λ_ h6 H7=>?_;subst hA;refine hj _ _ (AttC.I (q:={ q with gv:=gv,cv:=.ptr b 0,iv:=.iface 109 (.ptr b 0) }) ?_);have H8:=InnC.comI (st:=6) (f:=y.f) (e:=y.e) (fv:=q.fv) (ev:=q.ev) rfl ⟨rfl,λ_=>rfl⟩ (H7.sel e_1);exact H8.sub (.cons e_1 (.cons e_3 (.cons e_2 (.cons e_1 (.cons .here .refl)))))
theorem qXN (r:List xG) (x:xG):(wk r x).1=0∨(wk r x).2=r:=by
 unfold wk
 split
 ·exact .inr rfl
 ·split
  ·split<;>exact .inr rfl
  ·split
   ·exact .inr rfl
   ·exact .inl rfl
theorem M8 (hn:20≤n) (B:wV x) (hj:JobOk True x.v x.job) (hw:0≤x.f.word∧x.f.word<18446744073709551616) (hc:x.c=none) {b:Nat} (hq:q.cv=.nilp∧q.fv=.ptr b 0) (H:HS g h (qk a (zu x q)::JobC q.vb x.job q.rv q.bv q.gv::ViewC q.vb x.v::RdsC q.db x.r::qk b (gX x.f)::R)) :
  t_w n 134 [.ptr a 0] h λ_ h'=>HS g h' (AttC a (yH x)::R):=by
 refine t_e1 (S:=S134) rfl omQ λk hk=>?_;unfold S134;try simp only[iZ]
 generalize hA:yH x=A;unfold yH at hA;refine qq (qQ (qG H (b:=a) .here (x:=.ptr b 0) (by rw[← hq.2];rfl) ?_));refine qW (GS omQ H (s:=e_4)) ?_;rintro _ _ ⟨rfl,rfl⟩;by_cases c6:x.f.p.fin=6
 ·rw[iJ c6]at hA;subst hA;refine qz c6 (qX ?_);refine qW (VK (q:=q) omQ B.r (H.sub (.cons .here (.cons e_2 .refl)))) ?_;rintro _ h3 ⟨b',H3⟩;refine qY (AttC.I (q:={ q with iv:=.iface 108 (.ptr b' 0),ev:=.ptr b' 0 }) ?_);have H4:=InnC.extI (st:=4) (f:=x.f) (fv:=q.fv) (c:=x.c) (cv:=q.cv) (.inl rfl) hc ⟨hq.1,rfl,rfl⟩ H3;exact H4.sub (.cons e_1 (.cons e_2 (.cons e_2 (.cons e_1 (.cons .here (.drop .refl))))))
 rw[iQ c6]at hA;refine qZ c6 (qJ ?_);refine qV ?_
 try dsimp only
 refine qq (qQ (qG H (b:=a) .here rfl ?_));refine qq (qQ (qG H (b:=a) .here (x:=.ptr b 0) (by rw[← hq.2];rfl) ?_));refine qW (qVi omQ H e_4) ?_;rintro _ h1 ⟨rfl,H1⟩;refine qW (qjP (x:=ye x.f) omQ B.r (H1.sel (P:=RdsC q.db x.r) e_3)) ?_;rintro _ h2 ⟨rfl,H2⟩;refine qp H .here rfl H1 .here rfl (HS.lt H .here) ?_;refine jT [] (λ_ h'=>HS g h' (AttC a A::R)) (λj hj'=>?_) λ_ h' H'=>qx (qY H');have hx:=YO hw;by_cases c0:(wk x.r (ye x.f)).1=0
 ·rw[iJ c0]at hA;subst hA;refine qz c0 (qX ?_);refine qV ?_
  try dsimp only
  refine qq (qQ (qG H2 (b:=a) e_1 rfl ?_));refine qq (qQ (qG H2 (b:=a) e_1 rfl ?_));refine qW (Ky omQ (H2.sel (P:=ViewC q.vb x.v) e_3)) ?_;rintro _ _ ⟨rfl,rfl⟩;refine qq (qQ (qG H2 (b:=a) e_1 (x:=.ptr b 0) (by rw[← hq.2];rfl) ?_));refine qW (qWO omQ H2 e_4) ?_;rintro _ _ ⟨rfl,rfl⟩;refine qW (Ow (p:=x.v.need) (x:=yX x.f) omQ (H2.sel (P:=ViewC q.vb x.v) e_3) B.good.ok) ?_;rintro _ h3 ⟨rfl,H3⟩;refine qp H2 e_1 (x:=.ptr b 0) (by rw[← hq.2];rfl) H2 e_1 (by rw[← hq.2];rfl) (HS.lt H2 e_1) ?_;refine qp H2 e_1 rfl H2 e_1 rfl (HS.lt H2 e_1) ?_;refine qp H2 e_1 rfl H2 e_1 rfl (HS.lt H2 e_1) ?_;refine qW (OH (x:={ x with r:=(wk x.r (ye x.f)).2,v:=(zP x.v x.v.need (yX x.f)).2 }) (q:=q) (R:=R) omQ ?_ (hj.know hx) hc hq.1 (H3.sub (.cons e_2 (.cons e_2 (.cons .here (.cons .here (.drop .refl))))))) λ_ h4 H4=>hj' _ _ H4;exact⟨B.set,J2 B.good hx,by show((zP x.v x.v.need (yX x.f)).2.sz:Int)=x.set.words;rw[gc.2];exact B.sz,by show frS (zP x.v x.v.need (yX x.f)).2.lv<9000;rw[gc.1];exact B.fr,Xn B.r,(hj.know hx).same λh=>h.elim,B.c⟩
 rw[iQ c0]at hA;refine qZ c0 (qJ ?_);have hsame:(wk x.r (ye x.f)).2=x.r:=(qXN x.r (ye x.f)).resolve_left c0;rw[hsame]at H2;have gone:∀{fin err:Int} {h2:AH},HS g h2 (qk a (zu (xK x fin err (-1)) q)::RdsC q.db x.r::JobC q.vb x.job q.rv q.bv q.gv::ViewC q.vb x.v::qk b (gX x.f)::R)→HS g h2 (AttC a (xK x fin err (-1))::R):=λ{fin err h2} H2=>by
  refine AttC.I (q:=q) ?_;have H3:=InnC.noI (st:=7) (f:=x.f) (e:=x.e) (c:=x.c) (iv:=q.iv) (fv:=q.fv) (ev:=q.ev) (cv:=q.cv) od hc hq.1 H2;exact H3.sub (.cons e_1 (.cons e_2 (.cons e_2 (.cons e_1 (.cons .here (.drop .refl))))))
 by_cases c14:(wk x.r (ye x.f)).1=14
 ·rw[iJ c14]at hA;subst hA;refine qz c14 (qX ?_);refine qW (kF omQ (H2.sel e_1)) λ_ h3 H3=>?_;exact hj' _ _ (gone H3)
 ·rw[iQ c14]at hA;subst hA;refine qZ c14 (qJ ?_);refine qW (kF omQ (H2.sel e_1)) λ_ h3 H3=>?_;exact hj' _ _ (gone H3)
theorem GX (hn:4≤n) (O:∀c,x.c=some c→zc c) (H:HS g h (AttC a x::R)):t_w n 30 [.ptr a 0] h λr h'=>r=.bool (zm x)∧HS g h' (AttC a x::R):=by
 refine t_e1 (S:=S30) rfl omQ λk hk=>?_;unfold S30;try simp only[iZ]
 obtain⟨q,H1⟩:=AttC.E H;refine qq (qQ (qG H1 (b:=a) .here rfl ?_));unfold zm;by_cases c8:x.state=8
 ·rw[iV (λh=>h c8),Bool.false_and];refine jk c8 ?_;refine qV ?_;(try dsimp only);refine qT ?_;(try dsimp only);refine qF (qV ?_);(try dsimp only);refine qT ?_;(try dsimp only);refine qV ?_;(try dsimp only);refine jc ?_;(try dsimp only);refine qV ?_;(try dsimp only);refine qT ?_;(try dsimp only);refine qF ?_
  exact qY ⟨rfl,H⟩
 rw[iG (show x.state≠8 from c8),Bool.true_and];refine jq c8 ?_;cases hc:x.c with
 |none=>
  obtain⟨e,H2⟩:=InnC.noE hc (H1.sel e_4);refine qV ?_;(try dsimp only);refine qR ?_;(try dsimp only);refine qq (qQ (qG ‹_› .here rfl ?_))
  rw[e];refine ON (qC (qV ?_));(try dsimp only);refine qT ?_;(try dsimp only);refine qV ?_;(try dsimp only);refine jc ?_;(try dsimp only);refine qV ?_;(try dsimp only);refine qT ?_;(try dsimp only);refine qF ?_
  exact qY ⟨rfl,H⟩
 |some c=>
  obtain⟨b,e,H2⟩:=InnC.comE hc (H1.sel e_4);refine qV ?_;(try dsimp only);refine qR ?_;(try dsimp only);refine qq (qQ (qG ‹_› e_1 rfl ?_))
  rw[e.1];refine qQL (qC (qV ?_));(try dsimp only);refine qR ?_;(try dsimp only);refine qq (qQ (qG ‹_› e_1 rfl ?_))
  rw[e.1];refine qW (Nq omQ H2) ?_;rintro _ _ ⟨rfl,rfl⟩;cases hw:gC c with
  |true=>
   refine qV ?_;(try dsimp only);refine qf ?_;(try dsimp only);refine qV ?_;(try dsimp only);refine qR ?_;(try dsimp only);refine qC (qC ?_)
   exact qY ⟨rfl,H⟩
  |false=>
   refine qV ?_;(try dsimp only);refine qa ?_;(try dsimp only);refine qq (qQ (qG ‹_› e_1 rfl ?_))
   rw[e.1];refine qW (Ga omQ H2) ?_;rintro _ _ ⟨rfl,rfl⟩;by_cases c2:c.p.fin=2
   ·refine qz c2 ?_;rw[iG c2];refine qV ?_;(try dsimp only);refine qR ?_;(try dsimp only);refine qF (qC ?_)
    exact qY ⟨rfl,H⟩
   ·refine qZ c2 ?_;rw[iV c2];refine qV ?_;(try dsimp only);refine qR ?_;(try dsimp only);refine qF (qC ?_)
    exact qY ⟨rfl,H⟩
theorem qZ7 (hn:22≤n) (O:zM x) (h3:3≤x.state) (h6:x.state≤6) (H:HS g h (AttC a x::R)):t_w n 96 [.ptr a 0] h λ_ h'=>HS g h' (AttC a (xp x)::R):=by
 refine t_e1 (S:=S96) rfl omQ λk hk=>?_;unfold S96;try simp only[iZ]
 obtain⟨q,H1⟩:=AttC.E H;clear H;generalize hA:xp x=A;unfold xp at hA;refine qq (qQ (qG H1 (b:=a) .here rfl ?_));refine jT [] (λ_ h'=>HS g h' (AttC a A::R)) (λj hj=>?_) λ_ h' H'=>qx (qY H');by_cases c3:x.state=3
 ·rw[iJ c3]at hA;subst hA;refine qz c3 (qX ?_);obtain⟨b,e,H2⟩:=InnC.fetE c3 (O.c0 omQ) (H1.sel e_4);refine qW (M8 (q:=q) (R:=R) omQ O.b (O.job.same λ_=>by omega) (O.f c3).2 (O.c0 omQ) ⟨e.1,e.2.1⟩ (H2.sub (.cons e_1 (.cons e_1 (.cons e_1 (.cons e_1 (.cons .here .refl))))))) λ_ h3 H3=>hj _ _ H3
 rw[iQ c3]at hA;refine qZ c3 (qJ ?_);by_cases c4:x.state=4
 ·rw[iJ c4]at hA;subst hA;refine qz c4 (qX ?_);have hnd:=O.need omQ omQ;have hhi:=O.good.ok.hi;obtain⟨b,e,H2⟩:=InnC.extE (.inl c4) (O.c0 omQ) (H1.sel e_4);obtain⟨sv,H3⟩:=ExtC.E H2;refine qq (qQ (qG H1 (b:=a) .here (x:=.ptr b 0) (by rw[← e.2.1];rfl) ?_));refine qW (Ut omQ H3 .here) ?_;rintro _ _ ⟨rfl,rfl⟩;refine qq (qQ ?_);refine qH H2 (b:=a) e_1 ⟨rfl,rfl⟩ (by simp[zu]) λh4 H4=>?_;have H4:HS g h4 (qk a (zu { x with stamp:=ve x.e } q)::ExtC b x.e::JobC q.vb x.job q.rv q.bv q.gv::ViewC q.vb x.v::RdsC q.db x.r::R):=H4;refine qq (qQ (qG H4 (b:=a) .here rfl ?_));refine qW (Ky omQ (H4.sel (P:=ViewC q.vb x.v) e_3)) ?_;rintro _ _ ⟨rfl,rfl⟩;refine qW (qJB omQ omQ H4) ?_;rintro _ h5 ⟨b',H5⟩;refine hj _ _ (AttC.I (q:={ q with iv:=.iface 107 (.ptr b' 0),fv:=.ptr b' 0 }) ?_);have H6:=InnC.fetI (st:=3) (e:=x.e) (ev:=q.ev) (c:=x.c) (cv:=q.cv) rfl (O.c0 omQ) ⟨e.1,rfl,rfl⟩ H5;exact H6.sub (.cons e_1 (.cons e_2 (.cons e_2 (.cons e_2 (.cons .here (.drop .refl))))))
 rw[iQ c4]at hA;refine qZ c4 (qJ ?_);by_cases c5:x.state=5
 ·rw[iJ c5]at hA;subst hA;refine qz c5 (qX ?_);obtain⟨b,e,H2⟩:=InnC.extE (.inr c5) (O.c0 omQ) (H1.sel e_4);obtain⟨sv,H3⟩:=ExtC.E H2;refine qq (qQ (qG H1 (b:=a) .here (x:=.ptr b 0) (by rw[← e.2.1];rfl) ?_));refine qW (Ut omQ H3 .here) ?_;rintro _ _ ⟨rfl,rfl⟩;refine qq (qQ ?_);refine qH H2 (b:=a) e_1 ⟨rfl,rfl⟩ (by simp[zu]) λh4 H4=>?_;have H4:HS g h4 (qk a (zu { x with stamp:=ve x.e } q)::ExtC b x.e::JobC q.vb x.job q.rv q.bv q.gv::ViewC q.vb x.v::RdsC q.db x.r::R):=H4;refine qW (kF omQ H4) λ_ h5 H5=>?_;refine hj _ _ (AttC.I (q:=q) ?_);have H6:=InnC.noI (st:=7) (f:=x.f) (e:=x.e) (c:=x.c) (iv:=q.iv) (fv:=q.fv) (ev:=q.ev) (cv:=q.cv) od (O.c0 omQ) e.1 H5;exact H6.sub (.cons e_1 (.cons e_2 (.cons e_2 (.cons e_2 (.cons .here (.drop .refl))))))
 rw[iQ c5]at hA;refine qZ c5 (qJ ?_);have c6:x.state=6:=by omega
 refine qz c6 (qX ?_)
 split at hA
 ·rename_i c hc;subst hA;obtain⟨b,e,H2⟩:=InnC.comE hc (H1.sel e_4);refine qV ?_
  try dsimp only
  refine qq (qQ (qG H1 (b:=a) .here (x:=.ptr b 0) (by rw[← e.1];rfl) ?_));refine qW (Ga omQ H2) ?_;rintro _ _ ⟨rfl,rfl⟩;refine qq (qQ (qG H1 (b:=a) .here (x:=.ptr b 0) (by rw[← e.1];rfl) ?_));refine qW (qq0 omQ H2) ?_;rintro _ _ ⟨rfl,rfl⟩;refine qW (kF omQ (H2.sel e_1)) λ_ h5 H5=>?_;refine qp H1 .here (x:=.ptr b 0) (by rw[← e.1];rfl) H1 .here (by rw[← e.1];rfl) (HS.lt H1 .here) ?_;refine hj _ _ (AttC.I (q:=q) ?_);have H6:=InnC.comI (st:=7) (f:=x.f) (e:=x.e) (iv:=q.iv) (fv:=q.fv) (ev:=q.ev) (b:=b) hc ⟨e.1,λh=>by cases h⟩ (H5.sel (P:=ComC b c) e_1);exact H6.sub (.cons e_1 (.cons e_1 (.cons e_1 (.cons e_1 (.cons .here .refl)))))
 ·rename_i hc;exact absurd hc (O.c6 c6)
end
end Go.Proofs.YtnalffoigcmnnaaGreatDoor
namespace Go.Proofs.YtnalffoigcmnnaaGreatDoor
open Go Go.Ae
set_option maxRecDepth 100000
variable {g h:AH} {L R:List SP}
section
variable {n a:Nat} {x:jG} {q:Na}
theorem InnC.out {st st':Int} {f:ki} {e:kP} {c:Option ju} {iv fv ev cv:AV} (h7:st'=7∨st'=8) (H:HS g h (InnC st f e c iv fv ev cv::R)):HS g h (InnC st' f e c iv fv ev cv::R):=by
 cases c with
 |none=>obtain⟨q,H⟩:=InnC.noE rfl H;exact InnC.noI omQ rfl q H
 |some d=>obtain⟨b,q,H⟩:=InnC.comE rfl H;exact InnC.comI rfl ⟨q.1,λh=>by omega⟩ H
theorem KG (hn:24≤n) (O:zM x) (h3:3≤x.state) (h6:x.state≤6) (H:HS g h (AttC a x::R)):t_w n 60 [.ptr a 0] h λ_ h'=>HS g h' (AttC a (xd x)::R):=by
 (refine qy (g:=W60) rfl omQ λk hk=>?_;show wp (S60 (callT tab qj k) _ _) _;unfold S60;try simp only[iI,uU,iZ])
 obtain⟨q,H1⟩:=AttC.E H;have fin:∀{K2:AV→AH→Go.Ae.R} {Q:AV→AH→Prop},wp (K2 (.int .i64 (zi x).1) h) Q→wp (xm (callT tab qj k) [(51,16),(107,179),(108,183),(109,62),(214,98)] q.iv [] h K2) Q:=λ{K2 Q} w=>by
  unfold zi at w;by_cases c3:x.state=3
  ·rw[iJ c3]at w;obtain⟨b,e,H2⟩:=InnC.fetE c3 (O.c0 omQ) (H1.sel e_4);rw[e.2.2];refine wG rfl (GS omQ H2 .here) ?_;rintro _ _ ⟨rfl,rfl⟩;exact w
  ·rw[iQ c3]at w;by_cases c6:x.state=6
   ·rw[iJ c6]at w
    split at w
    ·rename_i c hc;obtain⟨b,e,H2⟩:=InnC.comE hc (H1.sel e_4);rw[e.2 c6];refine wG rfl (Ga omQ H2) ?_;rintro _ _ ⟨rfl,rfl⟩;exact w
    ·rename_i hc;exact absurd hc (O.c6 c6)
   ·rw[iQ c6]at w;obtain⟨b,e,H2⟩:=InnC.extE omQ (O.c0 omQ) (H1.sel e_4);obtain⟨sv,H3⟩:=ExtC.E H2;rw[e.2.2];refine wG rfl (qQn omQ H3 .here) ?_;rintro _ _ ⟨rfl,rfl⟩;exact w
 have by_:∀{K2:AV→AH→Go.Ae.R} {Q:AV→AH→Prop},wp (K2 (.int .i64 (zi x).2) h) Q→wp (xm (callT tab qj k) [(51,29),(107,324),(108,332),(109,335),(214,327)] q.iv [] h K2) Q:=λ{K2 Q} w=>by
  unfold zi at w;by_cases c3:x.state=3
  ·rw[iJ c3]at w;obtain⟨b,e,H2⟩:=InnC.fetE c3 (O.c0 omQ) (H1.sel e_4);rw[e.2.2];refine wG rfl (qxt omQ H2 .here) ?_;rintro _ _ ⟨rfl,rfl⟩;exact w
  ·rw[iQ c3]at w;by_cases c6:x.state=6
   ·rw[iJ c6]at w
    split at w
    ·rename_i c hc;obtain⟨b,e,H2⟩:=InnC.comE hc (H1.sel e_4);rw[e.2 c6];refine wG rfl (qki omQ H2) ?_;rintro _ _ ⟨rfl,rfl⟩;exact w
    ·rename_i hc;exact absurd hc (O.c6 c6)
   ·rw[iQ c6]at w;obtain⟨b,e,H2⟩:=InnC.extE omQ (O.c0 omQ) (H1.sel e_4);obtain⟨sv,H3⟩:=ExtC.E H2;rw[e.2.2];refine wG rfl (qkd omQ H3 .here) ?_;rintro _ _ ⟨rfl,rfl⟩;exact w
 refine qq (qQ (qG H1 (b:=a) .here rfl (fin ?_)));have OL:=Ua O h3 h6;show wp _ λ_ h'=>HS g h' (AttC a (xV (yA x))::R);refine jT [] (λs h'=>s=(.ptr a 0,())∧HS g h' (AttC a (yA x)::R)) (λj hj=>?_) ?_
 rotate_left
 ·rintro _ h2 ⟨rfl,H2⟩;dsimp only;refine qW (GX omQ OL.c H2) ?_;rintro _ h3 ⟨rfl,H3⟩;unfold xV;cases hw:zm (yA x)with
  |false=>exact qJ (qx (qY H3))
  |true=>
   refine qX ?_;have hcs:∃c,(yA x).c=some c:=by
    unfold zm at hw;cases hc:(yA x).c with
    |none=>rw[hc]at hw;simp at hw
    |some c=>exact⟨c,rfl⟩
   obtain⟨c,hc⟩:=hcs;obtain⟨q2,H4⟩:=AttC.E H3;obtain⟨b,e,H5⟩:=InnC.comE hc (H4.sel e_4);refine qq (qQ (qG H4 (b:=a) .here (x:=.ptr b 0) (by rw[← e.1];rfl) ?_));refine qW (qXb omQ (OL.c c hc).now H5) ?_;rintro _ _ ⟨rfl,rfl⟩;refine qq (qQ ?_);refine qH H4 (b:=a) .here ⟨rfl,rfl⟩ (by simp[zu]) λh5 H6=>qx (qY ?_);rw[iJ rfl];have H7:HS g h5 (qk a (zu { yA x with stamp:=vO c } q2)::JobC q2.vb (yA x).job q2.rv q2.bv q2.gv::ViewC q2.vb (yA x).v::RdsC q2.db (yA x).r::InnC (yA x).state (yA x).f (yA x).e (yA x).c q2.iv q2.fv q2.ev q2.cv::R):=H6;rw[hc]at H7 ⊢;exact AttC.I (q:=q2) H7
 generalize hL:yA x=Y at*;unfold yA at hL;by_cases c0:(zi x).1=0
 ·rw[iJ c0]at hL;subst hL;exact qz c0 (qX (hj _ _ ⟨rfl,H⟩))
 rw[iQ c0]at hL;refine qZ c0 (qJ ?_);by_cases c5:(zi x).1=5
 ·rw[iJ c5]at hL;subst hL;refine qz c5 (qX ?_);refine qq (qQ (qG H1 (b:=a) .here rfl (by_ ?_)));refine qW (kF omQ H1) λ_ h2 H2=>hj _ _ ⟨rfl,AttC.I (q:=q) ?_⟩;have H3:=InnC.out (st':=7) (.inl rfl) (H2.sel e_4);exact H3.sub (.cons e_1 (.cons e_1 (.cons e_1 (.cons e_1 (.cons .here .refl)))))
 ·rw[iQ c5]at hL;subst hL;refine qZ c5 (qJ ?_);exact qW (qZ7 omQ O h3 h6 H) λ_ h2 H2=>hj _ _ ⟨rfl,H2⟩
theorem qWs {an:AnM} (hn:26≤n) (O:zM x) (ha:G3 an) (H:HS g h (AttC a x::R)):t_w n 27 [.ptr a 0,.agg (xq an)] h λ_ h'=>HS g h' (AttC a (xB x an)::R):=by
 (refine qy (g:=W27) rfl omQ λk hk=>?_;show wp (S27 (callT tab qj k) _ _ _) _;unfold S27;try simp only[iI,uU,iZ])
 have hst:=O.st;obtain⟨q,H0⟩:=AttC.E H;refine qM H0 rfl λb0 h1 H1=>?_;have H1:HS g h1 (qk b0 (xq an)::ZN a x q R):=H1;clear H H0;generalize hA:xB x an=A;unfold xB at hA;refine qq (qQ (qG H1 (b:=a) e_1 rfl ?_));by_cases c8:x.state=8
 ·rw[iJ c8]at hA;subst hA;exact qz c8 (qX (qY (AttC.I (q:=q) H1.drop)))
 rw[iQ c8]at hA;refine qZ c8 (qJ ?_);refine qQ (qG H1 (b:=b0) .here (x:=.int .i64 an.err) rfl ?_);by_cases ce:an.err=0
 rotate_left
 ·rw[iJ ce]at hA;subst hA;refine jq ce (qX ?_);refine qQ (qG H1 (b:=b0) .here (x:=.int .i64 an.err) rfl ?_);refine qW (kF omQ (H1.sel e_1)) λ_ h2 H2=>?_;refine qq (qQ ?_);refine qH H2 (b:=a) .here ⟨rfl,rfl⟩ (by simp[zu]) λh3 H3=>qY (AttC.I (q:=q) ?_);have H4:=InnC.out (st':=8) (.inr rfl) (H3.sel e_5);exact H4.sub (.cons e_1 (.cons e_2 (.cons e_2 (.cons e_2 (.cons .here (.drop .refl))))))
 rw[iQ (λh=>h ce)]at hA;refine jk ce (qJ ?_);refine qq (qQ (qG H1 (b:=a) e_1 rfl ?_));refine jT [] (λ_ h'=>HS g h' (AttC a A::R)) (λj hj=>?_) λ_ h' H'=>qx (qY H');by_cases c0:x.state=0
 ·rw[iJ c0]at hA;subst hA;refine qz c0 (qX ?_);refine qq (qQ ?_);refine qH H1 (b:=a) e_1 ⟨rfl,rfl⟩ (by simp[zu]) λh2 H2=>hj _ _ (AttC.I (q:=q) ?_);obtain⟨e,H3⟩:=InnC.noE (O.c0 omQ) (H2.sel e_5);have H4:=InnC.noI (st:=1) (f:=x.f) (e:=x.e) (c:=x.c) (iv:=q.iv) (fv:=q.fv) (ev:=q.ev) od (O.c0 omQ) e H3;exact H4.sub (.cons e_1 (.cons e_2 (.cons e_2 (.cons e_2 (.cons .here (.drop .refl))))))
 rw[iQ c0]at hA;refine qZ c0 (qJ ?_);by_cases c1:x.state=1
 ·rw[iJ c1]at hA;subst hA;refine qz c1 (qX ?_);refine qV ?_
  try dsimp only
  refine qQ (qG H1 (b:=b0) .here (x:=.int .u64 an.word) rfl ?_);refine qQ (qG H1 (b:=b0) .here (x:=.int .u64 an.word) rfl ?_);refine qq (qQ ?_);refine qH H1 (b:=a) e_1 ⟨rfl,rfl⟩ (by simp[zu]) λh2 H2=>?_;refine qq (qQ ?_);refine qH H2 (b:=a) .here ⟨rfl,rfl⟩ (by simp[zu]) λh3 H3=>?_;refine qq (qQ ?_);refine qH H3 (b:=a) .here ⟨rfl,rfl⟩ (by simp[zu]) λh4 H4=>?_;refine qp H2 e_1 rfl H3 e_1 rfl (HS.lt H1 .here) ?_;refine qp H1 .here rfl H2 e_1 rfl (HS.lt H1 .here) ?_;refine qp H1 .here rfl H2 e_1 rfl (HS.lt H1 .here) ?_;refine qq (qQ ?_);refine qH H4 (b:=a) .here ⟨rfl,rfl⟩ (by simp[zu]) λh5 H5=>hj _ _ (AttC.I (q:=q) ?_);obtain⟨e,H6⟩:=InnC.noE (O.c0 omQ) (H5.sel e_5);have H7:=InnC.noI (st:=2) (f:=x.f) (e:=x.e) (c:=x.c) (iv:=q.iv) (fv:=q.fv) (ev:=q.ev) od (O.c0 omQ) e H6;exact H7.sub (.cons e_1 (.cons e_2 (.cons e_2 (.cons e_2 (.cons .here (.drop .refl))))))
 rw[iQ c1]at hA;refine qZ c1 (qJ ?_);by_cases c2:x.state=2
 ·rw[iJ c2]at hA;subst hA;refine qz c2 (qX ?_);obtain⟨e,H3⟩:=InnC.noE (O.c0 omQ) (H1.sel e_5);exact qW (OH (q:=q) (R:=R) omQ O.b (O.job.same λ_=>by omega) (O.c0 omQ) e (H3.sub (.cons e_1 (.cons e_1 (.cons e_1 (.cons e_1 (.drop .refl))))))) λ_ h4 H4=>hj _ _ H4
 rw[iQ c2]at hA;refine qZ c2 (qJ ?_);by_cases c7:x.state=7
 ·rw[iJ c7]at hA;subst hA;refine qz c7 (qX ?_);refine qq (qQ ?_);refine qH H1 (b:=a) e_1 ⟨rfl,rfl⟩ (by simp[zu]) λh2 H2=>hj _ _ (AttC.I (q:=q) ?_);have H3:=InnC.out (st':=8) (.inr rfl) (H2.sel e_5);exact H3.sub (.cons e_1 (.cons e_2 (.cons e_2 (.cons e_2 (.cons .here (.drop .refl))))))
 rw[iQ c7]at hA;refine qZ c7 (qJ ?_);refine qq (qQ (qG H1 (b:=a) e_1 rfl ?_));refine qE H1 (b:=b0) (off:=0) .here rfl omQ (l:=xq an) rfl ?_;have hsx:∀{y:jG},y.state=x.state→3≤y.state∧y.state≤6:=λh=>by omega
 by_cases c3:x.state=3
 ·rw[iJ c3]at hA;subst hA;obtain⟨b,e,H2⟩:=InnC.fetE c3 (O.c0 omQ) (H1.sel e_5);rw[e.2.2];refine wG rfl (qK4 (a:=an) omQ (O.f c3).1 H2) λ_ h3 H3=>?_;have H4:=InnC.fetI (st:=x.state) (e:=x.e) (ev:=q.ev) c3 (O.c0 omQ) e H3;have O':zM { x with f:=xD x.f an }:=⟨O.set,O.good,O.sz,O.fr,O.r,O.job,O.st,λh=>⟨XO (O.f h).1,Yo (O.f h).2 ha⟩,O.need,O.e,O.c,O.c0,O.c6⟩;exact qW (KG (x:={ x with f:=xD x.f an }) omQ O' (hsx rfl).1 (hsx rfl).2 (AttC.I (q:=q) (H4.sub (.cons e_2 (.cons e_2 (.cons e_2 (.cons e_2 (.cons .here (.drop .refl))))))))) λ_ h5 H5=>hj _ _ H5
 rw[iQ c3]at hA;by_cases c6:x.state=6
 ·rw[iJ c6]at hA;subst hA;cases hc:x.c with
  |none=>exact absurd hc (O.c6 c6)
  |some c=>obtain⟨b,e,H2⟩:=InnC.comE hc (H1.sel e_5);rw[e.2 c6];have Oc:=O.c c hc;refine wG rfl (qGI (a:=an) omQ Oc H2) λ_ h3 H3=>?_;have H4:=InnC.comI (st:=x.state) (f:=x.f) (e:=x.e) (fv:=q.fv) (ev:=q.ev) (c:=some (zV c an)) rfl e H3;have O':zM { x with c:=some (zV c an) }:=⟨O.set,O.good,O.sz,O.fr,O.r,O.job,O.st,O.f,O.need,O.e,λc' h=>by cases h;exact Yc Oc ha,λh=>absurd h (by show¬x.state≤5;omega),λ_ h=>by cases h⟩;rw[hc]at hj;exact qW (KG (x:={ x with c:=some (zV c an) }) omQ O' (hsx rfl).1 (hsx rfl).2 (AttC.I (q:=q) (H4.sub (.cons e_2 (.cons e_2 (.cons e_2 (.cons e_2 (.cons .here (.drop .refl))))))))) λ_ h5 H5=>hj _ _ H5
 rw[iQ c6]at hA;subst hA;obtain⟨b,e,H2⟩:=InnC.extE omQ (O.c0 omQ) (H1.sel e_5);rw[e.2.2];refine wG rfl (qVs (a:=an) omQ (O.e omQ omQ) H2) λ_ h3 H3=>?_;have H4:=InnC.extI (st:=x.state) (f:=x.f) (fv:=q.fv) omQ (O.c0 omQ) e H3;have O':zM { x with e:=xU x.e an }:=⟨O.set,O.good,O.sz,O.fr,O.r,O.job,O.st,O.f,O.need,λh1 h2=>Xz (O.e h1 h2),O.c,O.c0,O.c6⟩;exact qW (KG (x:={ x with e:=xU x.e an }) omQ O' (hsx rfl).1 (hsx rfl).2 (AttC.I (q:=q) (H4.sub (.cons e_2 (.cons e_2 (.cons e_2 (.cons e_2 (.cons .here (.drop .refl))))))))) λ_ h5 H5=>hj _ _ H5
theorem qKI (hn:4≤n) (O:zM x) (H:HS g h (AttC a x::R)):t_w n 26 [.ptr a 0] h λr h'=>r=opV (z8 x)∧HS g h' (AttC a x::R):=by
 (refine qy (g:=W26) rfl omQ λk hk=>?_;show wp (S26 (callT tab qj k) _ _) _;unfold S26;try simp only[iI,uU,iZ])
 have hst:=O.st;obtain⟨q,H0⟩:=AttC.E H;refine qM H0 rfl λb0 h1 H1=>?_;clear H H0;refine qq (qQ (qG H1 (b:=a) e_1 rfl ?_));unfold z8;have say:∀{o:OpM} {h':AH},HS g h' (qk b0 (ym o)::ZN a x q R)→wp (je h' (.ptr b0 0) 10 λv=>some (.tup [v,.bool true],h')) λr h'=>r=opV (some o)∧HS g h' (AttC a x::R):=λ{o h'} H'=>by
  refine qE H' (b:=b0) (off:=0) .here rfl omQ (l:=ym o) rfl ?_;exact qY ⟨rfl,AttC.I (q:=q) H'.drop⟩
 by_cases c0:x.state=0
 ·rw[iJ c0];refine qz c0 (qX ?_);refine qq (qQ (qG H1 (b:=a) e_1 rfl ?_));refine qI (l:=ym (op0 9 x.me 1)) rfl ?_;exact qc H1 (b:=b0) .here rfl (by show 0+10≤10;omega) rfl λh3 H3=>say H3
 rw[iQ c0];refine qZ c0 (qJ ?_);by_cases c1:x.state=1
 ·rw[iJ c1];refine qz c1 (qX ?_);refine qI (l:=ym (op0 6 0 0)) rfl ?_;exact qc H1 (b:=b0) .here rfl (by show 0+10≤10;omega) rfl λh3 H3=>say H3
 rw[iQ c1];refine qZ c1 (qJ ?_);by_cases c2:x.state=2
 ·rw[iJ c2];refine qz c2 (qX ?_);refine qq (qQ (qG H1 (b:=a) e_1 rfl ?_));refine qq (qQ (qG H1 (b:=a) e_1 rfl ?_));refine MI (qI (l:=ym (op0 9 x.me (j6 .u64 (x.stamp+1)))) rfl ?_);exact qc H1 (b:=b0) .here rfl (by show 0+10≤10;omega) rfl λh3 H3=>say H3
 rw[iQ c2];refine qZ c2 (qJ ?_);by_cases c7:x.state=7
 ·rw[iJ c7];refine qz c7 (qX ?_);refine qq (qQ (qG H1 (b:=a) e_1 rfl ?_));refine qI (l:=ym (op0 9 x.me 0)) rfl ?_;exact qc H1 (b:=b0) .here rfl (by show 0+10≤10;omega) rfl λh3 H3=>say H3
 rw[iQ c7];refine qZ c7 (qJ ?_);by_cases c8:x.state=8
 ·rw[iJ c8];refine qz c8 (qX ?_);refine qI (l:=ym (op0 0 0 0)) rfl ?_;refine qc H1 (b:=b0) .here rfl (by show 0+10≤10;omega) rfl λh3 H3=>?_;refine qE H3 (b:=b0) (off:=0) .here rfl omQ (l:=ym (op0 0 0 0)) rfl ?_;exact qY ⟨rfl,AttC.I (q:=q) H3.drop⟩
 rw[iQ c8];refine qZ c8 (qJ ?_);refine qq (qQ (qG H1 (b:=a) e_1 rfl ?_));have inn:∀{o:Option OpM} {h':AH},HS g h' (qk b0 (ym (op0 0 0 0))::ZN a x q R)→wp (jb (opV o) 0 λv=>jb (opV o) 1 λv2=>jj h' (.ptr b0 0) v 10 λh2=>je h2 (.ptr b0 0) 10 λv3=>some (.tup [v3,v2],h2)) λr h'=>r=opV o∧HS g h' (AttC a x::R):=λ{o h'} H'=>by
  refine qw rfl (qw rfl ?_);refine qc H' (b:=b0) .here rfl (by show 0+10≤10;omega) rfl λh3 H3=>?_;refine qE H3 (b:=b0) (off:=0) .here rfl omQ (l:=ym (o.getD (op0 0 0 0))) rfl ?_;exact qY ⟨rfl,AttC.I (q:=q) H3.drop⟩
 by_cases c3:x.state=3
 ·rw[iJ c3];obtain⟨b,e,H2⟩:=InnC.fetE c3 (O.c0 omQ) (H1.sel e_5);rw[e.2.2];refine wG rfl (qWt omQ H2) ?_;rintro _ h3 ⟨rfl,H3⟩;have H4:=InnC.fetI (st:=x.state) (e:=x.e) (ev:=q.ev) c3 (O.c0 omQ) e H3;exact inn (H4.sub (.cons e_1 (.cons e_1 (.cons e_1 (.cons e_1 (.cons e_1 (.cons .here .refl)))))))
 rw[iQ c3];by_cases c6:x.state=6
 ·rw[iJ c6];cases hc:x.c with
  |none=>exact absurd hc (O.c6 c6)
  |some c=>obtain⟨b,e,H2⟩:=InnC.comE hc (H1.sel e_5);rw[e.2 c6];refine wG rfl (qVb omQ (O.c c hc) H2) ?_;rintro _ h3 ⟨rfl,H3⟩;have H4:=InnC.comI (st:=x.state) (f:=x.f) (e:=x.e) (fv:=q.fv) (ev:=q.ev) hc e H3;exact inn (H4.sub (.cons e_1 (.cons e_1 (.cons e_1 (.cons e_1 (.cons e_1 (.cons .here .refl)))))))
 rw[iQ c6];obtain⟨b,e,H2⟩:=InnC.extE omQ (O.c0 omQ) (H1.sel e_5);rw[e.2.2];refine wG rfl (qK5 omQ (O.e omQ omQ) H2) ?_;rintro _ h3 ⟨rfl,H3⟩;have H4:=InnC.extI (st:=x.state) (f:=x.f) (fv:=q.fv) omQ (O.c0 omQ) e H3;exact inn (H4.sub (.cons e_1 (.cons e_1 (.cons e_1 (.cons e_1 (.cons e_1 (.cons .here .refl)))))))
end
end Go.Proofs.YtnalffoigcmnnaaGreatDoor
namespace Go.Proofs.YtnalffoigcmnnaaGreatDoor
open Go Go.Ae
set_option maxRecDepth 100000
variable {g h:AH} {L R:List SP}
section
variable {n:Nat} {s S:yv}
abbrev kS (S:yv):List AV:=[.int .i64 S.words,.int .i64 S.stripes,.int .i64 S.wide,.int .i64 S.threads,.int .u64 S.start]
abbrev vZ (S:yv):List AV:=[.int .i64 S.words,.int .i64 S.stripes,.int .i64 S.wide,.int .i64 S.threads,.int .u64 S.start,.int .i64 S.spins,.int .i64 S.writes,.int .i64 S.fuel]
theorem NH (hn:1≤n) (H:HS g h R):t_w n 33 [.agg (kS s)] h λr h'=>r=.agg (kS (jf s))∧HS g h' R:=by
 refine t_e1 (S:=S33) rfl omQ λk hk=>?_;unfold S33;try simp only[iZ]
 refine qM H rfl λb0 h1 H1=>?_;refine qM H1 rfl λb1 h2 H2=>?_;refine qQ (qG H2 (b:=b0) e_1 rfl (jm (zK ?_)));refine qQ (qG H2 (b:=b0) e_1 rfl (jm (zK ?_)));refine qQ (qG H2 (b:=b0) e_1 rfl (jm (zK ?_)));refine qQ (qG H2 (b:=b0) e_1 rfl (jm (zK ?_)));refine qQ (qG H2 (b:=b0) e_1 rfl (jm ?_));refine qI (l:=kS (jf s)) rfl ?_;refine qc H2 (b:=b1) .here rfl (by show 0+5≤5;omega) rfl λh3 H3=>?_;refine qE H3 (b:=b1) (off:=0) .here rfl omQ (l:=kS (jf s)) rfl ?_;exact qY ⟨rfl,H3.drop.drop⟩
theorem qWL (hn:2≤n) (H:HS g h R):t_w n 73 [.agg (vZ s)] h λr h'=>r=.agg (vZ (jf s))∧HS g h' R:=by
 refine t_e1 (S:=S73) rfl omQ λk hk=>?_;unfold S73;try simp only[iZ]
 refine qM H rfl λb0 h1 H1=>?_;refine qM H1 rfl λb1 h2 H2=>?_;refine qV ?_
 try dsimp only
 refine qQ (qE H2 (b:=b0) (off:=0) e_1 rfl omQ (l:=kS s) rfl ?_);refine qW (NH omQ H2) ?_;rintro _ h3 ⟨rfl,H3⟩;refine qQ (qG H3 (b:=b0) e_1 rfl (jm (zK ?_)));refine qQ (qG H3 (b:=b0) e_1 rfl (jm (zK ?_)));refine qQ (qG H3 (b:=b0) e_1 rfl (jm (zK ?_)));refine qI (l:=vZ (jf s)) rfl ?_;refine qc H3 (b:=b1) .here rfl (by show 0+8≤8;omega) rfl λh4 H4=>?_;refine qp H2 e_1 rfl H3 e_1 rfl (HS.lt H2 e_1) ?_;refine qp H2 e_1 rfl H3 e_1 rfl (HS.lt H2 e_1) ?_;refine qp H2 e_1 rfl H3 e_1 rfl (HS.lt H2 e_1) ?_;refine qE H4 (b:=b1) (off:=0) .here rfl omQ (l:=vZ (jf s)) rfl ?_;exact qY ⟨rfl,H4.drop.drop⟩
theorem qjA {w:Int} (hn:1≤n) (hw:32≤w∧w≤256) (H:HS g h R):t_w n 34 [.int .i64 w] h λr h'=>∃b v,r=.ptr b 0∧HS g h' (qk b [v]::qD 24 1 w.toNat v ((List.replicate w.toNat (0:Int)).map (.int .u64))::R):=by
 refine t_e1 (S:=S34) rfl omQ λk hk=>?_;unfold S34;try simp only[iZ]
 refine jm (zK ?_);rw[show max ((32:Nat):Int) (min w ((256:Nat):Int))=((w.toNat:Nat):Int) by omega];refine YB H omQ λv h1 H1=>?_;rw[show List.replicate w.toNat (AV.int .u64 ((0:Nat):Int))=(List.replicate w.toNat (0:Int)).map (.int .u64) by rw[List.map_replicate];rfl]at H1;have o1:=H1.one .here;refine qI (l:=[v]) (by simp only[vB,o1.1];rfl) ?_;refine qM H1 (by simp only[ql,List.all_cons,o1.2];rfl) λb h2 H2=>qY ⟨b,v,rfl,H2⟩
theorem qq1 {w:Int} (hn:1≤n) (hw:1≤w∧w≤4) (H:HS g h R):t_w n 37 [.int .i64 w] h λr h'=>∃b v,r=.ptr b 0∧HS g h' (qk b [v]::qD 24 1 w.toNat v ((List.replicate w.toNat (0:Int)).map (.int .u64))::R):=by
 refine t_e1 (S:=S37) rfl omQ λk hk=>?_;unfold S37;try simp only[iZ]
 refine jm (zK ?_);rw[show max ((1:Nat):Int) (min w ((4:Nat):Int))=((w.toNat:Nat):Int) by omega];refine YB H omQ λv h1 H1=>?_;rw[show List.replicate w.toNat (AV.int .u64 ((0:Nat):Int))=(List.replicate w.toNat (0:Int)).map (.int .u64) by rw[List.map_replicate];rfl]at H1;have o1:=H1.one .here;refine qI (l:=[v]) (by simp only[vB,o1.1];rfl) ?_;refine qM H1 (by simp only[ql,List.all_cons,o1.2];rfl) λb h2 H2=>qY ⟨b,v,rfl,H2⟩
theorem Zc:∀k:Nat,y9 [AV.int .u64 ((0:Nat):Int),.bool false,.int .i64 ((0:Nat):Int)] k=(List.replicate k lk0).flatMap ji:=by
 intro k
 induction k with
 |zero=>rfl
 |succ k ih=>rw[List.replicate_succ,List.flatMap_cons,← ih];rfl
theorem qzr {w z:Int} (hn:2≤n) (hw:1≤w∧w≤16) (hz:1≤z∧z≤16) (H:HS g h R):t_w n 35 [.int .i64 w,.int .i64 z] h λr h'=>∃b v,r=.ptr b 0∧HS g h' (qk b [v,.int .i64 z]::qD 39 3 w.toNat v ((List.replicate w.toNat lk0).flatMap ji)::R):=by
 refine t_e2 (S:=S35) rfl omQ λk hk=>?_;unfold S35;try simp only[iZ]
 refine qW (Gd omQ) ?_;rintro _ _ ⟨rfl,rfl⟩;rw[show max 1 (min w ((16:Nat):Int))=((w.toNat:Nat):Int) by omega];refine KX (sz:=3) (ln:=w.toNat) (cp:=w.toNat) H rfl (Nat.le_refl _) omQ λv h1 H1=>?_;rw[List.take_of_length_le (by rw[yN];exact Nat.le_refl _),Zc]at H1;refine qW (Gd omQ) ?_;rintro _ _ ⟨rfl,rfl⟩;rw[show max 1 (min z ((16:Nat):Int))=z by omega];have o1:=H1.one .here;refine qI (l:=[v,.int .i64 z]) (by simp only[vB,o1.1];rfl) ?_;refine qM H1 (by simp only[ql,List.all_cons,o1.2];rfl) λb h2 H2=>qY ⟨b,v,rfl,H2⟩
theorem qzA {w:Int} (hn:1≤n) (hw:w≤4611686018427387903) (H:HS g h R):t_w n 36 [.int .u64 w] h λr h'=>∃b,r=.ptr b 0∧HS g h' (qk b [.int .u64 w]::R):=by
 refine t_e1 (S:=S36) rfl omQ λk hk=>?_;unfold S36;try simp only[iZ]
 refine jm ?_;rw[show min w ((4611686018427387903:Nat):Int)=w by omega];refine qI (l:=[.int .u64 w]) rfl ?_;refine qM H rfl λb h2 H2=>qY ⟨b,rfl,H2⟩
theorem qja (hn:4≤n) (hs:0≤s.start) (H:HS g h R):t_w n 6 [.agg (kS s)] h λr h'=>∃p,r=.ptr p 0∧HS g h' (MemC p (jf s) (Vp (jf s))::R):=by
 refine t_e1 (S:=S6) rfl omQ λk hk=>?_;unfold S6;try simp only[iZ]
 have O:=Xd hs;refine qM H rfl λb0 h1 H1=>?_;refine qE H1 (b:=b0) (off:=0) .here rfl omQ (l:=kS s) rfl ?_;refine qW (NH omQ H1) ?_;rintro _ h2 ⟨rfl,H2⟩;clear H H1;refine qc H2 (b:=b0) .here rfl (by show 0+5≤5;omega) rfl λh3 H3=>?_;have H3:HS g h3 (qk b0 (kS (jf s))::R):=H3;generalize jf s=S at*;clear H2;refine qV ?_
 try dsimp only
 refine qE H3 (b:=b0) (off:=0) .here rfl omQ (l:=kS S) rfl ?_;refine qQ (qG H3 (b:=b0) .here rfl ?_);refine qW (qjA omQ O.words H3) ?_;rintro _ h4 ⟨hb,wv,rfl,H4⟩;refine qQ (qG H4 (b:=b0) e_2 rfl ?_);refine qQ (qG H4 (b:=b0) e_2 rfl ?_);refine qW (qzr omQ O.stripes O.wide H4) ?_;rintro _ h5 ⟨tb,lv,rfl,H5⟩;refine qQ (qG H5 (b:=b0) e_4 rfl ?_);refine qW (qzA omQ O.start.2 H5) ?_;rintro _ h6 ⟨cb,rfl,H6⟩;refine qQ (qG H6 (b:=b0) e_5 rfl ?_);refine qW (qq1 omQ O.threads H6) ?_;rintro _ h7 ⟨sb,sv,rfl,H7⟩;refine qI (l:=[.int .i64 S.words,.int .i64 S.stripes,.int .i64 S.wide,.int .i64 S.threads,.int .u64 S.start,.ptr hb 0,.ptr tb 0,.ptr cb 0,.ptr sb 0,.int .i64 0]) rfl ?_;refine qM H7 rfl λp h8 H8=>?_;refine qp H5 e_4 rfl H6 e_5 rfl (HS.lt H3 .here) ?_;refine qp H4 e_2 rfl H5 e_4 rfl (HS.lt H3 .here) ?_;refine qp H3 .here rfl H4 e_2 rfl (HS.lt H3 .here) ?_;refine qp H4 e_2 rfl H5 e_4 rfl (HS.lt H3 .here) ?_;refine qp H3 .here rfl H4 e_2 rfl (HS.lt H3 .here) ?_;refine qp H3 .here rfl H4 e_2 rfl (HS.lt H3 .here) ?_;refine qp H3 .here rfl H4 e_2 rfl (HS.lt H3 .here) ?_;refine zb H6 e_5 rfl H7 e_7 rfl rfl omQ (HS.lt H3 .here) ?_;refine zb H5 e_4 rfl H6 e_5 rfl rfl omQ (HS.lt H3 .here) ?_;refine zb H4 e_2 rfl H5 e_4 rfl rfl omQ (HS.lt H3 .here) ?_;refine zb H3 .here rfl H4 e_2 rfl rfl omQ (HS.lt H3 .here) ?_;refine qY ⟨p,rfl,MemC.I (hb:=hb) (tb:=tb) (cb:=cb) (sb:=sb) (wv:=wv) (lv:=lv) (sv:=sv) ?_⟩;unfold Z5 Vp;dsimp only;simp only[List.length_replicate];exact H8.sub (.cons .here (.cons e_5 (.cons e_5 (.cons e_3 (.cons e_3 (.cons e_2 (.cons .here (.cons .here (.drop .refl)))))))))
theorem qX1 {m:Nat} {e:TypeId} {v:AV} {xs:List AV} {R2:List SP} (hn:1≤n) (H:HS g h L) (s:Sel L (qD e 1 m v xs) R2) (ha:ql xs=true) (hm:m≤1000000) :
  t_w n 56 [v] h λr h'=>HS g h' (qD 3 1 m r xs::L):=by
 refine t_e1 (S:=S56) rfl omQ λk hk=>?_;unfold S56;try simp only[iZ]
 refine Je H s (λh1 h2=>?_) (qJ ?_)
 ·subst h1 h2;obtain rfl:xs=[]:=iA (by simpa using H.sl_len s);exact qX (qY H.nils)
 ·refine qr (n:=0) (l:=[]) (sz:=1) H rfl rfl rfl rfl λv2 h2 H2=>?_;refine zT H2 (H2.sl (.there s)) omQ omQ ha λv3 h3 H3=>?_;rw[Nat.zero_add,List.nil_append]at H3;exact qY H3
theorem ZM {me:Int} (hn:6≤n) (hs:0≤s.start) (H:HS g h R):t_w n 43 [.int .i64 me,.agg (vZ s)] h λr h'=>∃a vb db,r=.ptr a 0∧
  HS g h' (qk a (zu (GF me (jf s) (.sweep [] 0)) ⟨.nilp,.nils,.nili,.nilp,.nilp,.nilp,0,vb,db⟩)::RdsC db []::ViewC vb (Xg (jf s).words (jf s).writes)::R):=by
 refine t_e2 (S:=S43) rfl omQ λk hk=>?_;unfold S43;try simp only[iZ]
 refine qM H rfl λb0 h1 H1=>?_;refine qE H1 (b:=b0) (off:=0) .here rfl omQ (l:=vZ s) rfl ?_;refine qW (qWL omQ H1) ?_;rintro _ h2 ⟨rfl,H2⟩;clear H H1;refine qc H2 (b:=b0) .here rfl (by show 0+8≤8;omega) rfl λh3 H3=>?_;have H3:HS g h3 (qk b0 (vZ (jf s))::R):=H3;generalize jf s=S at*;clear H2;refine qV ?_
 try dsimp only
 refine qE H3 (b:=b0) (off:=0) .here rfl omQ (l:=vZ S) rfl ?_;refine qQ (jN (qG H3 (b:=b0) .here rfl ?_));refine qQ (qG H3 (b:=b0) .here rfl ?_);refine qW (qQd omQ H3) ?_;rintro _ h4 ⟨vb,rfl,H4⟩;refine qW (qze omQ H4) ?_;rintro _ h5 ⟨db,rfl,H5⟩;refine qI (l:=zu (GF me S (.sweep [] 0)) ⟨.nilp,.nils,.nili,.nilp,.nilp,.nilp,0,vb,db⟩) rfl ?_;refine qM H5 rfl λa h6 H6=>?_;refine zb H4 e_1 rfl H5 e_2 rfl rfl omQ (HS.lt H3 .here) ?_;refine zb H3 .here rfl H4 e_1 rfl rfl omQ (HS.lt H3 .here) ?_;exact qY ⟨a,vb,db,rfl,H6.sub (.cons .here (.cons .here (.cons .here (.drop .refl))))⟩
theorem qYl {me:Int} {l:List qS} {sv:AV} (hn:10≤n) (hs:0≤s.start) (hc:(yQ l).2=0) (S:Rd g R 5 l.length sv (l.flatMap q8)) (H:HS g h R) :
  t_w n 11 [.int .i64 me,.agg (vZ s),.agg [sv]] h λr h'=>∃a,r=.ptr a 0∧HS g h' (AttC a (Jp me s l)::R):=by
 refine t_e3 (S:=S11) rfl omQ λk hk=>?_;unfold S11;try simp only[iZ]
 have hle:=(QF hc).le;refine qM H rfl λb0 h1 H1=>?_;refine qM H1 (yG (wE (S.sl H))) λb1 h2 H2=>?_;refine qE H2 (b:=b0) (off:=0) e_1 rfl omQ (l:=vZ s) rfl ?_;refine qW (ZM omQ hs H2) ?_;rintro _ h3 ⟨a,vb,db,rfl,H3⟩;refine qE H3 (b:=b1) (off:=0) e_3 rfl omQ (l:=[sv]) rfl ?_;refine qq (qQ (qG H3 (b:=a) .here rfl ?_));refine qq (qQ (jN (qG H3 (b:=a) .here rfl ?_)));refine qW (qJH omQ H3 S.more.more.more.more.more omQ) ?_;rintro _ h4 ⟨ib,rfl,H4⟩;refine qq (qQ ?_);refine qH H4 (b:=a) e_1 (x:=.ptr ib 0) ⟨rfl,rfl⟩ (by simp[zu]) λh5 H5=>qY ⟨a,rfl,?_⟩;have hm:YT l=qA l:=by unfold YT;rw[iJ hc]
 rw[hm,hc]at H5;refine AttC.I (q:=⟨.ptr ib 0,.nils,.nili,.nilp,.nilp,.nilp,0,vb,db⟩) ?_;have H6:=JobC.PI (p:=⟨l,J7,0,0,jd (jf s).fuel⟩) ⟨rfl,rfl,rfl⟩ (H5.sel e_1);have H7:=InnC.noI (st:=0) (f:=kY 0 0 0 0 0) (e:=UA 0 0 []) (c:=none) (iv:=.nili) (fv:=.nilp) (ev:=.nilp) od rfl rfl H6;exact H7.sub (.cons e_2 (.cons e_1 (.cons e_2 (.cons e_1 (.cons .here (.drop (.drop .refl)))))))
section
variable {a:Nat} {x:jG} {q:Na}
theorem kO (hn:5≤n) (O:zM x) (H:HS g h (AttC a x::R)):t_w n 55 [.ptr a 0] h λr h'=>r=.bool (zo x)∧HS g h' (AttC a x::R):=by
 refine t_e1 (S:=S55) rfl omQ λk hk=>?_;unfold S55;try simp only[iZ]
 obtain⟨q,H1⟩:=AttC.E H;refine qW (qQe omQ H1 .here) ?_;rintro _ _ ⟨rfl,rfl⟩;unfold zo;by_cases c:YR x=2
 ·refine qz c ?_;rw[iG c];refine qV ?_;(try dsimp only);refine qf ?_;(try dsimp only);refine qC ?_
  exact qY ⟨rfl,H⟩
 ·refine qZ c ?_;rw[iV c];refine qV ?_;(try dsimp only);refine qa ?_;(try dsimp only)
  refine qW (GX omQ O.c H) ?_;rintro _ h2 ⟨rfl,H2⟩;refine qF ?_;exact qY ⟨rfl,H2⟩
theorem qJ8 (hn:11≤n) (O:zM x) (H:HS g h (AttC a x::R)):t_w n 20 [.ptr a 0] h λr h'=>HS g h' (qD 66 2 (Q3 x).length r ((Q3 x).flatMap jU)::AttC a x::R):=by
 refine t_e1 (S:=S20) rfl omQ λk hk=>?_;unfold S20;try simp only[iZ]
 refine qW (kO omQ O H) ?_;rintro _ h1 ⟨rfl,H1⟩;unfold Q3;cases hc:zo x with
 |false=>exact jQ (qX (qY H1.nils))
 |true=>refine qu (qJ ?_);obtain⟨q,H2⟩:=AttC.E H1;refine qq (qQ (qG H2 (b:=a) .here rfl ?_));refine qW (Yp omQ (H2.sel (P:=ViewC q.vb x.v) e_2) O.good.ok) λv h3 H3=>qY ?_;exact HS.unsel e_1 (AttC.I (q:=q) (H3.sub (.cons e_2 (.cons e_2 (.cons e_1 (.cons e_1 (.cons e_1 (.cons .here .refl))))))))
theorem qXd (hn:6≤n) (O:zM x) (H:HS g h (AttC a x::R)):t_w n 22 [.ptr a 0] h λr h'=>∃e,HS g h' (qD e 1 (JX x).length r ((JX x).map (.int .i64))::AttC a x::R):=by
 refine t_e1 (S:=S22) rfl omQ λk hk=>?_;unfold S22;try simp only[iZ]
 refine qW (kO omQ O H) ?_;rintro _ h1 ⟨rfl,H1⟩;unfold JX;cases hc:zo x with
 |false=>exact jQ (qX (qY ⟨3,H1.nils⟩))
 |true=>
  refine qu (qJ ?_);rw[iJ rfl];obtain⟨q,H2⟩:=AttC.E H1;have hj:=O.job;cases hx:x.job with
  |sweep bs k=>rw[hx]at hj;obtain⟨e,H3⟩:=JobC.S (by rw[← hx];exact H2.sel e_1);have hbl:=hj.2;refine qq (qQ (qG H2 (b:=a) .here (x:=.nilp) (by rw[← e.1];rfl) ?_));refine Og (qX ?_);refine qq (qQ (qG H2 (b:=a) .here rfl ?_));refine qW (qX1 omQ H3 .here (Mb (λ_=>rfl) _) omQ) λv h4 H4=>qY ⟨3,?_⟩;have H5:=JobC.SI (vb:=q.vb) (k:=k) e (H4.sel e_1);rw[← hx]at H5;exact HS.unsel e_1 (AttC.I (q:=q) (H5.sub (.cons e_2 (.cons .here (.cons e_1 (.cons e_1 (.cons e_1 (.cons .here .refl))))))))
  |prog p=>obtain⟨ib,nx,e,H3⟩:=JobC.P (by rw[← hx];exact H2.sel e_1);refine qq (qQ (qG H2 (b:=a) .here (x:=.ptr ib 0) (by rw[← e.1];rfl) ?_));refine Gp (qJ ?_);refine qq (qQ (qG H2 (b:=a) .here rfl ?_));refine qW (Uh omQ (H2.sel (P:=ViewC q.vb x.v) e_2) O.good.ok) λv h4 H4=>qY ⟨3,?_⟩;exact HS.unsel e_1 (AttC.I (q:=q) (H4.sub (.cons e_2 (.cons e_2 (.cons e_1 (.cons e_1 (.cons e_1 (.cons .here .refl))))))))
theorem qZN (hn:8≤n) (O:zM x) (H:HS g h (AttC a x::R)):t_w n 18 [.ptr a 0] h λr h'=>r=.str (Xt x)∧HS g h' (AttC a x::R):=by
 refine t_e1 (S:=S18) rfl omQ λk hk=>?_;unfold S18;try simp only[iZ]
 refine qW (kO omQ O H) ?_;rintro _ h1 ⟨rfl,H1⟩;unfold Xt;cases hc:zo x with
 |false=>
  refine jQ (qV ?_);(try dsimp only);refine qf ?_;(try dsimp only);refine qC (qX ?_)
  exact qY ⟨rfl,H1⟩
 |true=>
  refine qu ?_;rw[iJ rfl];obtain⟨q,H2⟩:=AttC.E H1;have hj:=O.job;cases hx:x.job with
  |sweep bs k=>
   obtain⟨e,H3⟩:=JobC.S (by rw[← hx];exact H2.sel e_1);refine qV ?_;(try dsimp only);refine qa ?_;(try dsimp only);refine qq (qQ (qG ‹_› e_1 rfl ?_))
   rw[e.1];refine Og (qF (qX ?_));exact qY ⟨rfl,H1⟩
  |prog p=>
   rw[hx]at hj;obtain⟨ib,nx,e,H3⟩:=JobC.P (by rw[← hx];exact H2.sel e_1);refine qV ?_;(try dsimp only);refine qa ?_;(try dsimp only);refine qq (qQ (qG ‹_› e_1 rfl ?_))
   rw[e.1];refine Gp (qF (qJ (qq (qQ (qG ‹_› e_1 rfl ?_)))));rw[e.1];have ho:=hj.2.2.1.out;refine qW (U9 omQ H3 ho) ?_;rintro _ h4 ⟨o,rfl,H4⟩;refine qW (qQf omQ H4 omQ hj.2.2.1.its) ?_;rintro _ h5 ⟨rfl,H5⟩;refine qY ⟨rfl,AttC.I (q:=q) ?_⟩;have H6:=JobC.PI (p:=p) e H5.drop;rw[← hx]at H6;exact H6.sub (.cons e_1 (.cons .here (.cons .here (.cons .here (.cons .here .refl)))))
end
end
end Go.Proofs.YtnalffoigcmnnaaGreatDoor
namespace Go.Proofs.YtnalffoigcmnnaaGreatDoor
open Go Go.Ae
set_option maxRecDepth 100000
variable {g h:AH} {L R:List SP}
structure KSet (s:yv):Prop where
  words:32≤s.words∧s.words≤80
  stripes:1≤s.stripes∧s.stripes≤16
  wide:1≤s.wide∧s.wide≤4
  threads:s.threads=0
  start:0≤s.start∧s.start<1000
  spins:0≤s.spins∧s.spins≤4
  writes:4≤s.writes∧s.writes≤40
  fuel:20≤s.fuel∧s.fuel≤120
theorem KSet.held {s:yv} (K:KSet s):jf s={ s with threads:=1 }:=by obtain⟨a,b,c,d,e,f,g,i⟩:=K;obtain⟨w,st,wi,t,sta,sp,wr,fu⟩:=s;dsimp only at*;unfold jf;dsimp only;subst d;rw[QJ (n:=w) omQ,QJ (n:=st) omQ,QJ (n:=wi) omQ,QJ (n:=sp) omQ,QJ (n:=wr) omQ,QJ (n:=fu) omQ,show min sta 4611686018427387903=sta by omega,show kb 0 1 4=1 by decide]
theorem qz2 {n:Nat} (hn:2≤n) {w st wi sp wr fu t:Int} (ht:0≤t∧t<18446744073709551616) (H:HS g h R) :
  t_w n 5 [.agg [.int .i64 w,.int .i64 st,.int .i64 wi,.int .i64 sp,.int .i64 wr,.int .i64 fu,.int .u64 t]] h λr h'=>∃s,r=.agg (vZ s)∧KSet s∧HS g h' R:=by
 refine t_e1 (S:=S5) rfl omQ λk hk=>?_;unfold S5;try simp only[iZ]
 refine qM H rfl λb0 h1 H1=>?_;refine qM H1 rfl λb1 h2 H2=>?_;have e1:=wc (x:=sp) (lo:=((0:Nat):Int)) (hi:=((4:Nat):Int)) omQ;have e2:=wc (x:=wr) (lo:=((4:Nat):Int)) (hi:=((40:Nat):Int)) omQ;have e3:=wc (x:=fu) (lo:=((20:Nat):Int)) (hi:=((120:Nat):Int)) omQ;have e4:=wc (x:=w) (lo:=((32:Nat):Int)) (hi:=((80:Nat):Int)) omQ;have e5:=wc (x:=st) (lo:=((1:Nat):Int)) (hi:=((16:Nat):Int)) omQ;have e6:=wc (x:=wi) (lo:=((1:Nat):Int)) (hi:=((4:Nat):Int)) omQ;refine qV ?_
 try dsimp only
 refine qQ (qG H2 (b:=b0) e_1 rfl ?_);refine qW (xQ omQ omQ omQ omQ) ?_;rintro _ _ ⟨rfl,rfl⟩;refine qQ (qG H2 (b:=b0) e_1 rfl ?_);refine qW (xQ omQ omQ omQ omQ) ?_;rintro _ _ ⟨rfl,rfl⟩;refine qQ (qG H2 (b:=b0) e_1 rfl ?_);refine qW (xQ omQ omQ omQ omQ) ?_;rintro _ _ ⟨rfl,rfl⟩;generalize jI sp ((0:Nat):Int) ((4:Nat):Int)=sp' at*;generalize jI wr ((4:Nat):Int) ((40:Nat):Int)=wr' at*;generalize jI fu ((20:Nat):Int) ((120:Nat):Int)=fu' at*;refine qI (l:=[.int .i64 0,.int .i64 0,.int .i64 0,.int .i64 0,.int .u64 0,.int .i64 sp',.int .i64 wr',.int .i64 fu']) rfl ?_;refine qM H2 rfl λb2 h3 H3=>?_;refine qc H3 (b:=b2) .here rfl (by show 0+8≤8;omega) rfl λh4 H4=>?_
 have H4:HS g h4 (qk b2 [.int .i64 0,.int .i64 0,.int .i64 0,.int .i64 0,.int .u64 0,.int .i64 sp',.int .i64 wr',.int .i64 fu']::qk b1 [.int .i64 0,.int .i64 0,.int .i64 0,.int .i64 0,.int .u64 0,.int .i64 0,.int .i64 0,.int .i64 0]::
  qk b0 [.int .i64 w,.int .i64 st,.int .i64 wi,.int .i64 sp,.int .i64 wr,.int .i64 fu,.int .u64 t]::R):=H4
 refine qp H2 e_1 rfl H2 e_1 rfl (HS.lt H2 e_1) ?_;refine qp H2 e_1 rfl H2 e_1 rfl (HS.lt H2 e_1) ?_;refine qp H2 e_1 rfl H2 e_1 rfl (HS.lt H2 e_1) ?_;refine qV ?_
 try dsimp only
 refine qQ (qG H4 (b:=b0) e_2 rfl ?_);refine qW (xQ omQ omQ omQ omQ) ?_;rintro _ _ ⟨rfl,rfl⟩;refine qQ (qG H4 (b:=b0) e_2 rfl ?_);refine qW (xQ omQ omQ omQ omQ) ?_;rintro _ _ ⟨rfl,rfl⟩;refine qQ (qG H4 (b:=b0) e_2 rfl ?_);refine qW (xQ omQ omQ omQ omQ) ?_;rintro _ _ ⟨rfl,rfl⟩;refine qQ (qG H4 (b:=b0) e_2 rfl ?_);refine kM od ?_;generalize jI w ((32:Nat):Int) ((80:Nat):Int)=w' at*;generalize jI st ((1:Nat):Int) ((16:Nat):Int)=st' at*;generalize jI wi ((1:Nat):Int) ((4:Nat):Int)=wi' at*;have ht2:0≤t.tmod ((1000:Nat):Int)∧t.tmod ((1000:Nat):Int)<1000:=by rw[Int.tmod_eq_emod_of_nonneg ht.1];omega
 generalize t.tmod ((1000:Nat):Int)=t' at*;refine qI (l:=[.int .i64 w',.int .i64 st',.int .i64 wi',.int .i64 0,.int .u64 t']) rfl ?_;refine qQ (qc H4 (b:=b2) .here rfl (by show 0+5≤8;omega) rfl λh5 H5=>?_)
 have H5:HS g h5 (qk b2 (vZ ⟨w',st',wi',0,t',sp',wr',fu'⟩)::qk b1 [.int .i64 0,.int .i64 0,.int .i64 0,.int .i64 0,.int .u64 0,.int .i64 0,.int .i64 0,.int .i64 0]::
  qk b0 [.int .i64 w,.int .i64 st,.int .i64 wi,.int .i64 sp,.int .i64 wr,.int .i64 fu,.int .u64 t]::R):=H5
 refine qp H4 e_2 rfl H4 e_2 rfl (HS.lt H4 e_2) ?_;refine qp H4 e_2 rfl H4 e_2 rfl (HS.lt H4 e_2) ?_;refine qp H4 e_2 rfl H4 e_2 rfl (HS.lt H4 e_2) ?_;refine qp H4 e_2 rfl H4 e_2 rfl (HS.lt H4 e_2) ?_;refine qp H4 e_2 rfl H4 e_2 rfl (HS.lt H4 e_2) ?_;refine qp H4 e_2 rfl H4 e_2 rfl (HS.lt H4 e_2) ?_;refine qE H5 (b:=b2) (off:=0) .here rfl omQ (l:=vZ ⟨w',st',wi',0,t',sp',wr',fu'⟩) rfl ?_;refine qc H5 (b:=b1) e_1 rfl (by show 0+8≤8;omega) rfl λh6 H6=>?_;refine qE H6 (b:=b1) (off:=0) .here rfl omQ (l:=vZ ⟨w',st',wi',0,t',sp',wr',fu'⟩) rfl ?_;exact qY ⟨_,rfl,⟨by omega,by omega,by omega,rfl,ht2,by omega,by omega,by omega⟩,H6.drop.drop.drop⟩
end Go.Proofs.YtnalffoigcmnnaaGreatDoor
namespace Go.Proofs.YtnalffoigcmnnaaGreatDoor
open Go Go.Ae
set_option maxRecDepth 100000
theorem qzH {h:AH} {d:Nat} {v:AV} (H:WT Tryz.prog h (d+3) 23 [v]):∃ks:List qS,Sl (λb=>b<h.nx) h 5 ks.length v (ks.flatMap q8)∧∀x∈ks,0≤x.2.2.2.2∧x.2.2.2.2<18446744073709551616:=by
 obtain⟨q,xs,S,_,H2⟩:=Ox (sz:=5) Tryz.underlying23 (by kernel_rfl) omQ H
 obtain⟨ks,g1,g3,rfl⟩:=Nl (α:=qS) (Pr:=λx=>0≤x.2.2.2.2∧x.2.2.2.2<18446744073709551616) q8 S.len (λi hi=>by
  have:=H2 i hi;generalize(xs.drop (i*5)).take 5=row at this;unfold WT at this;simp only[Tryz.underlying95]at this;obtain⟨g1,g2⟩:=this;rw[show Tryz.prog.cellsOf 95=5 by kernel_rfl]at g1
  match row,g1 with
  |[x,y,z,u,t],_=>
   have f1:=g2 _ (iK ..);have f2:=g2 _ (iX _ (iK ..));have f3:=g2 _ (iX _ (iX _ (iK ..)));have f4:=g2 _ (iX _ (iX _ (iX _ (iK ..))));have f5:=g2 _ (iX _ (iX _ (iX _ (iX _ (iK ..)))));rw[show Tryz.prog.cellsOf 3=1 by kernel_rfl]at f1 f2 f3 f4;rw[show Tryz.prog.cellsOf 24=1 by kernel_rfl]at f5;unfold WT at f1 f2 f3 f4 f5;simp only[Tryz.underlying3,List.drop_zero,List.take_succ_cons,List.take_zero,List.drop_succ_cons]at f1 f2 f3 f4;simp only[Tryz.underlying24,List.drop_succ_cons,List.drop_zero,List.take_succ_cons,List.take_zero]at f5;obtain⟨a,ha,_⟩:=f1;obtain⟨b,hb,_⟩:=f2;obtain⟨c,hc,_⟩:=f3;obtain⟨d,hd,_⟩:=f4;obtain⟨e,he,c5⟩:=f5;cases ha;cases hb;cases hc;cases hd;cases he
   exact⟨(a,b,c,d,e),⟨c5.1,Int.lt_of_le_of_lt c5.2 od⟩,rfl⟩)
 exact⟨ks,g1▸S,g3⟩
end Go.Proofs.YtnalffoigcmnnaaGreatDoor
namespace Go.Proofs.YtnalffoigcmnnaaGreatDoor
open Go Go.Ae
set_option maxRecDepth 100000
def x7 (n:Nat):Nat:=max 32 (min n 256)
def vu (zs:List Int):List Int:=(List.range (x7 zs.length)).map λi=>if i=0 then 0 else zs[i]?.getD 0
def Q8 (l:List Int) (c:Int×Int):List Int:=if 1≤c.1∧c.1<l.length then l.set c.1.toNat c.2 else l
def YS (zs:List Int) (cs:List (Int×Int)):List Int:=cs.foldl Q8 (vu zs)
theorem qWn (l:List Int) (c:Int×Int):(Q8 l c).length=l.length:=by unfold Q8;split<;>simp
theorem Vw (cs:List (Int×Int)):∀l:List Int,(cs.foldl Q8 l).length=l.length:=by
 induction cs with
 |nil=>intro l;rfl
 |cons c cs ih=>intro l;rw[List.foldl_cons,ih,qWn]
theorem US (zs:List Int):(vu zs).length=x7 zs.length:=by simp[vu]
theorem Yj (n:Nat):32≤x7 n∧x7 n≤256:=by unfold x7;omega
theorem qqt (zs:List Int):gp (List.replicate (x7 zs.length) (AV.int .u64 0)) 1 (((zs.map (AV.int .u64)).drop (min 1 zs.length)).take (min (zs.length-min 1 zs.length) (x7 zs.length-1)*1))=(vu zs).map (AV.int .u64):=by
 have hb:=Yj zs.length;have hl:(((zs.map (AV.int .u64)).drop (min 1 zs.length)).take (min (zs.length-min 1 zs.length) (x7 zs.length-1)*1)).length=min (zs.length-min 1 zs.length) (x7 zs.length-1):=by simp
 apply List.ext_getElem?;intro i;rw[Ml (by rw[hl,List.length_replicate];omega),hl];by_cases hi:i<x7 zs.length
 ·have hr:((vu zs).map (AV.int .u64))[i]? =some (AV.int .u64 (if i=0 then 0 else zs[i]?.getD 0)):=by
   simp[vu,List.getElem?_range hi]
  rw[hr]
  split
  ·rename_i h1;rw[iQ omQ,List.getElem?_take_of_lt omQ,List.getElem?_drop,show min 1 zs.length+(i-1)=i by omega,List.getElem?_map,iW omQ];rfl
  ·rename_i h1;rw[List.getElem?_replicate,iJ hi]
   congr 2
   by_cases h0:i=0
   ·rw[iJ h0]
   ·rw[iQ h0,List.getElem?_eq_none omQ];rfl
 ·rw[iQ omQ,List.getElem?_eq_none (by simp;omega),List.getElem?_eq_none (by simp[vu];omega)]
theorem ZD {D1 D2:Nat→Prop} {n p q:Nat} (hn:1≤n) {a0 a1:AV} {zs:List Int} {cs:List (Int×Int)} {h:AH} (S0:Sl D1 h 1 p a0 (zs.map (.int .u64))) 
  (hcut:∀(h':AH) (K:AV→Go.Ae.R) (Q:AV→AH→Prop),Old h.nx h h'→(∀v',Sl (λ_=>True) h' 1 (p-min 1 p) v' ((zs.map (AV.int .u64)).drop (min 1 p*1))→wp (K v') Q)→wp (zd h' 24 1 a0 (some (.int .i64 ((min 1 p:Nat):Int))) none K) Q)
  (S1:Sl D2 h 2 q a1 (cs.flatMap jU)) (hp:p<1000000000) (hq:q<1000000000) :
  t_w n 52 [a0,a1] h λv h'=>∃b e,v=.slice b 0 (x7 p) (x7 p) false∧h.nx≤b∧Row h' b ((YS zs cs).map (.int .u64)) e false∧Old h.nx h h':=by
 have hzl:zs.length=p:=by simpa using S0.len
 have hcl:cs.length=q:=by have:=S1.len;rw[wo (sz:=2) jU (λ_=>rfl)]at this;omega
 have hN:=Yj p;refine t_e2 (S:=S52) rfl omQ λk hk=>?_;unfold S52;try simp only[iZ]
 refine zD S0 (jm (zK ?_));rw[show max ((32:Nat):Int) (min (p:Int) ((256:Nat):Int))=((x7 p:Nat):Int) by unfold x7;omega];refine GP (Nat.le_refl _) omQ λb h4 hb A F4=>?_;rw[YE]at A;refine MD (hi:=x7 p) (lo:=1) rfl (xk omQ) ?_;rw[show Nat.beq (x7 p) 1=false from zp omQ,cond_false];have S0':=S0.fr F4 (λ_ _ hf=>hf);have S1':=S1.fr F4 (λ_ _ hf=>hf);refine zD S0' (jm ?_);rw[show min ((1:Nat):Int) (p:Int)=((min 1 p:Nat):Int) by omega];refine hcut _ _ _ ((Old.refl h.nx h).step F4 (λ_ hf=>hf.elim)) λv8 S8=>?_;refine qqR S8 A (by simp;omega) omQ ?_ λh10 A10 F10 hx10=>?_
 ·unfold ql;rw[List.all_eq_true];intro v hv;have:=List.mem_of_mem_take hv;have:=List.mem_of_mem_drop this;obtain⟨z,_,rfl⟩:=List.mem_map.1 this;rfl
 have e10:=qqt zs;rw[hzl]at e10;rw[show((0:Nat)+1*1)=1 from rfl,Nat.mul_one]at A10;rw[Nat.mul_one]at e10;obtain⟨e,A10⟩:∃e,Row h10 b ((vu zs).map (.int .u64)) e false:=⟨_,by rw[← e10];simpa using A10⟩;have O10:Old h.nx h h10:=((Old.refl h.nx h).step F4 (λ_ hf=>hf.elim)).step F10 (by rintro x rfl;exact hb);have O4:Old h.nx h h4:=(Old.refl h.nx h).step F4 (λ_ hf=>hf.elim);refine zD (S1.old O10) ?_;refine jP (λm s g=>∃i:Nat,s=(.int .i64 (i:Int),.int .i64 (q:Int),a1,.slice b 0 (x7 p) (x7 p) false,())∧i≤q∧m=q-i∧Row g b (((cs.take i).foldl Q8 (vu zs)).map (.int .u64)) e false∧Old h.nx h g) ?_ (m:=q)
  (by show q<1000000000;omega) ⟨0,rfl,by omega,by omega,A10,O10⟩
 rintro m ih s g hih ⟨i,rfl,h1,rfl,A,O⟩;dsimp only;have S1g:=S1.old O;refine jt (λhlt=>qX ?_) λhge=>qJ (qx (qY ?_))
 ·have hi:i<q:=by omega
  refine qV (zf (l:=jU cs[i]) S1g hi omQ ?_ ?_)
  ·rw[gk (sz:=2) jU (λ_=>rfl),List.drop_eq_getElem_cons omQ,List.flatMap_cons];rfl
  refine qWH rfl λb2 h25 hb2 A2 F2=>?_;refine YH A2 rfl (by show 0+2≤2;omega) rfl λh26 A3 F3 hx3=>?_;obtain⟨e3,A3⟩:∃e3,Row h26 b2 [.int .i64 cs[i].1,.int .u64 cs[i].2] e3 false:=⟨_,A3⟩;have O26:Old h.nx h h26:=(O.step F2 (λ_ hf=>hf.elim)).step F3 (by rintro x rfl;exact Nat.le_trans O.nx hb2);have hbg:=A.lt;have A26:=(A.fr F2 (λhf=>hf)).fr F3 (λhf:b=b2=>by omega);have hlen:((cs.take i).foldl Q8 (vu zs)).length=x7 p:=by rw[Vw,US,hzl]
  have next:∀g',Row g' b ((Q8 ((cs.take i).foldl Q8 (vu zs)) cs[i]).map (.int .u64)) e false→Old h.nx h g'→wp (ih (.int .i64 ((i:Int)+((1:Nat):Int)),.int .i64 (q:Int),a1,.slice b 0 (x7 p) (x7 p) false,()) g' []) λv h'=>∃b e,v=.slice b 0 (x7 p) (x7 p) false∧h.nx≤b∧Row h' b ((YS zs cs).map (.int .u64)) e false∧Old h.nx h h':=λg' A' O'=>hih (q-(i+1)) _ _ omQ ⟨i+1,rfl,by omega,rfl,by rw[List.take_succ_eq_append_getElem omQ,List.foldl_append];exact A',O'⟩
  refine Vl A3 rfl (xT (λhc1=>?_) λhc1=>?_)
  ·repeat (first |with_reducible refine qX ?_ |with_reducible refine qJ ?_ |(with_reducible refine qR ?_;try dsimp only) |(with_reducible refine qf ?_;try dsimp only) |(with_reducible refine qT ?_;try dsimp only) |(with_reducible refine qa ?_;try dsimp only) |(with_reducible refine jc ?_;try dsimp only) |with_reducible refine qC ?_ |with_reducible refine qF ?_ |(with_reducible refine qV ?_;try dsimp only) |with_reducible refine qx ?_ |with_reducible refine qu ?_ |with_reducible refine jQ ?_ |with_reducible refine qU omQ ?_ |with_reducible refine jM omQ ?_ |with_reducible refine xJ omQ ?_ |with_reducible refine xS omQ ?_ |with_reducible refine jm ?_ |with_reducible refine zK ?_)
   refine Vl A3 rfl (qz3 (jt (λhc2=>?_) λhc2=>?_))
   ·repeat (first |with_reducible refine qX ?_ |with_reducible refine qJ ?_ |(with_reducible refine qR ?_;try dsimp only) |(with_reducible refine qf ?_;try dsimp only) |(with_reducible refine qT ?_;try dsimp only) |(with_reducible refine qa ?_;try dsimp only) |(with_reducible refine jc ?_;try dsimp only) |with_reducible refine qC ?_ |with_reducible refine qF ?_ |(with_reducible refine qV ?_;try dsimp only) |with_reducible refine qx ?_ |with_reducible refine qu ?_ |with_reducible refine jQ ?_ |with_reducible refine qU omQ ?_ |with_reducible refine jM omQ ?_ |with_reducible refine xJ omQ ?_ |with_reducible refine xS omQ ?_ |with_reducible refine jm ?_ |with_reducible refine zK ?_)
    refine Vl A3 rfl (Vl A3 rfl ?_);obtain⟨j,hj⟩:∃j:Nat,cs[i].1=(j:Int):=⟨cs[i].1.toNat,by omega⟩;rw[hj];refine qqL A26 rfl rfl omQ (by simp[hlen];omega) λh39 A39 F39 hx39=>?_
    repeat (first |with_reducible refine qX ?_ |with_reducible refine qJ ?_ |(with_reducible refine qR ?_;try dsimp only) |(with_reducible refine qf ?_;try dsimp only) |(with_reducible refine qT ?_;try dsimp only) |(with_reducible refine qa ?_;try dsimp only) |(with_reducible refine jc ?_;try dsimp only) |with_reducible refine qC ?_ |with_reducible refine qF ?_ |(with_reducible refine qV ?_;try dsimp only) |with_reducible refine qx ?_ |with_reducible refine qu ?_ |with_reducible refine jQ ?_ |with_reducible refine qU omQ ?_ |with_reducible refine jM omQ ?_ |with_reducible refine xJ omQ ?_ |with_reducible refine xS omQ ?_ |with_reducible refine jm ?_ |with_reducible refine zK ?_)
    refine next h39 ?_ (O26.step F39 (by rintro x rfl;exact hb));rw[show Q8 ((cs.take i).foldl Q8 (vu zs)) cs[i]=((cs.take i).foldl Q8 (vu zs)).set j cs[i].2 from(iJ (by rw[hlen];omega)).trans (by rw[show cs[i].1.toNat=j by omega]),List.map_set];simpa using A39
   ·repeat (first |with_reducible refine qX ?_ |with_reducible refine qJ ?_ |(with_reducible refine qR ?_;try dsimp only) |(with_reducible refine qf ?_;try dsimp only) |(with_reducible refine qT ?_;try dsimp only) |(with_reducible refine qa ?_;try dsimp only) |(with_reducible refine jc ?_;try dsimp only) |with_reducible refine qC ?_ |with_reducible refine qF ?_ |(with_reducible refine qV ?_;try dsimp only) |with_reducible refine qx ?_ |with_reducible refine qu ?_ |with_reducible refine jQ ?_ |with_reducible refine qU omQ ?_ |with_reducible refine jM omQ ?_ |with_reducible refine xJ omQ ?_ |with_reducible refine xS omQ ?_ |with_reducible refine jm ?_ |with_reducible refine zK ?_)
    refine next h26 ?_ O26;rw[show Q8 ((cs.take i).foldl Q8 (vu zs)) cs[i]=(cs.take i).foldl Q8 (vu zs)from iQ (by rw[hlen];omega)];exact A26
  ·repeat (first |with_reducible refine qX ?_ |with_reducible refine qJ ?_ |(with_reducible refine qR ?_;try dsimp only) |(with_reducible refine qf ?_;try dsimp only) |(with_reducible refine qT ?_;try dsimp only) |(with_reducible refine qa ?_;try dsimp only) |(with_reducible refine jc ?_;try dsimp only) |with_reducible refine qC ?_ |with_reducible refine qF ?_ |(with_reducible refine qV ?_;try dsimp only) |with_reducible refine qx ?_ |with_reducible refine qu ?_ |with_reducible refine jQ ?_ |with_reducible refine qU omQ ?_ |with_reducible refine jM omQ ?_ |with_reducible refine xJ omQ ?_ |with_reducible refine xS omQ ?_ |with_reducible refine jm ?_ |with_reducible refine zK ?_)
   refine next h26 ?_ O26;rw[show Q8 ((cs.take i).foldl Q8 (vu zs)) cs[i]=(cs.take i).foldl Q8 (vu zs)from iQ (by rw[hlen];omega)];exact A26
 ·refine⟨b,e,rfl,hb,?_,O⟩;rw[List.take_of_length_le omQ]at A;exact A
theorem qJO (zs:List Int) (cs:List Cl):YS zs cs=xu zs cs:=by
 have e1:∀n:Nat,szZ (n:Int)=x7 n:=by intro n;unfold szZ x7;omega
 have e2:vu zs=N2 zs:=by unfold vu N2;rw[e1];rfl
 unfold YS xu;rw[e2];rfl
abbrev qVR (g:AH) (R:List SP) (a0:AV) (zs:List Int):Prop:=∀(h':AH) (K:AV→Go.Ae.R) (Q:AV→AH→Prop),HS g h' R→(∀v',Sl (λ_=>True) h' 1 (zs.length-min 1 zs.length) v' ((zs.map (AV.int .u64)).drop (min 1 zs.length*1))→wp (K v') Q)→
 wp (zd h' 24 1 a0 (some (.int .i64 ((min 1 zs.length:Nat):Int))) none K) Q
theorem qqP {g:AH} {R R2:List SP} {a0:AV} {zs:List Int} (s:Sel R (qD 24 1 zs.length a0 (zs.map (.int .u64))) R2) (h0:0<zs.length):qVR g R a0 zs :=
 λ_ _ _ H w=>qK8 (H.sel s) omQ omQ h0 λv' S'=>w v' S'
theorem YW {g:AH} {R:List SP} {P:SP} {a0:AV} {zs:List Int} (c:qVR g R a0 zs):qVR g (P::R) a0 zs:=λh' K Q H w=>c h' K Q H.drop w
theorem NE {g h:AH} {R:List SP} {n:Nat} (hn:1≤n) {zs:List Int} {cs:List Cl} {a0 c:AV} (H:HS g h R) (S:Rd g R 1 zs.length a0 (zs.map (.int .u64))) (hcut:qVR g R a0 zs) (S1:Rd g R 2 cs.length c (cs.flatMap jU)) (hz:zs.length<100000) (hc:cs.length<100000) :
  t_w n 52 [a0,c] h λr h'=>∃e,HS g h' (qD e 1 (xu zs cs).length r ((xu zs cs).map (.int .u64))::R):=by
 obtain⟨v,h',er,b,e,rfl,hb,A,O⟩:=ZD hn (S.sl H) (λh' K Q O w=>hcut h' K Q (H.keep O) w) (S1.sl H) omQ omQ;have hl:(YS zs cs).length=x7 zs.length:=by unfold YS;rw[Vw,US]
 refine⟨_,h',er,e,?_⟩;rw[← qJO];refine H.add (D':=λa=>a=b) O ⟨by simp,.inr ⟨b,x7 zs.length,false,_,by rw[hl],λa=>Iff.rfl,A,by simp,by rw[List.take_of_length_le osQ],?_⟩⟩ ?_
 ·rw[iQ osQ];exact⟨by simp[hl],by omega⟩
 ·rintro a rfl;exact⟨hb,A.lt⟩
end Go.Proofs.YtnalffoigcmnnaaGreatDoor
namespace Go.Proofs.YtnalffoigcmnnaaGreatDoor
open Go Go.Ae arenaPlays
set_option maxRecDepth 100000
variable {g h:AH} {L R:List SP}
def Shp (v:AV):Prop:=v=.nils∨∃b o n cp x,v=.slice b o n cp x
theorem shp {e:TypeId} {sz n:Nat} {v:AV} {xs:List AV} (H:HS g h L) (s:Sel L (qD e sz n v xs) R):Shp v:=by
 obtain⟨D,h1,⟨rfl,rfl,_⟩ |⟨b,cp,o,ys,rfl,_⟩⟩:=H.p s
 ·exact .inl rfl
 ·exact .inr ⟨_,_,_,_,_,rfl⟩
end Go.Proofs.YtnalffoigcmnnaaGreatDoor
namespace Go.Proofs.YtnalffoigcmnnaaGreatDoor
open Go Go.Ae
set_option maxRecDepth 100000
variable {g h:AH} {L R:List SP}
abbrev xi (l:List qS) (n:Nat) (zs:List Int) (m:Int):RM:=jZ l (qA l) n J7 (zt zs m)
def zg (r:RM):List Cl:=if r.kind=2 then jV r.v.lv else[]
def vX (r:RM):List Int:=if r.kind=2 then vz r.v.lv else[]
def KA (r:RM):List UInt8:=if r.kind=2 then Nv r.s.out else[]
def Mv (r:RM) (cv fv wv:AV):List AV:=[.int .i64 r.kind,.int .i64 r.err,.str (KA r),cv,fv,wv]
theorem qxD {er k:Int} {tx:List UInt8} {cv fv wv:AV} (h1:Shp cv) (h2:Shp fv) (h3:Shp wv):ql [.int .i64 k,.int .i64 er,.str tx,cv,fv,wv]=true:=by
 rcases h1 with rfl |⟨b,o,n,cp,x,rfl⟩<;>rcases h2 with rfl |⟨b,o,n,cp,x,rfl⟩<;>rcases h3 with rfl |⟨b,o,n,cp,x,rfl⟩<;>rfl
theorem Mj {v:AV} (h:Shp v):One v:=by
 rcases h with rfl |⟨b,o,n,cp,x,rfl⟩<;>exact⟨rfl,rfl⟩
theorem qWo {n:Nat} (hn:18≤n) {l:List qS} {pv wv:AV} {zs:List Int} {fuel m:Int} (H:HS g h R) (S:Rd g R 5 l.length pv (l.flatMap q8)) (Sw:Rd g R 1 zs.length wv (zs.map (.int .u64))) (hcut:qVR g R wv zs) (hz:OkN zs) (hzl:zs.length<100000) (hc:(yQ l).2=0) (Q:Quiet l) :
  t_w n 13 [wv,.agg [pv],.int .i64 fuel,.int .i64 m] h λr h'=>∃cv fv av e1 e2 e3,r=.agg (Mv (xi l (jd fuel) zs m) cv fv av)∧
   HS g h' (qD e1 2 (zg (xi l (jd fuel) zs m)).length cv ((zg (xi l (jd fuel) zs m)).flatMap jU)::qD e2 1 (vX (xi l (jd fuel) zs m)).length fv ((vX (xi l (jd fuel) zs m)).map (.int .i64))::
    qD e3 1 (xu zs (zg (xi l (jd fuel) zs m))).length av ((xu zs (zg (xi l (jd fuel) zs m))).map (.int .u64))::R):=by
 refine t_e4 (S:=S13) rfl omQ λk hk=>?_;unfold S13;try simp only[iZ]
 have F:=QF hc;have hle:=F.le;refine qM H (yG (wE (S.sl H))) λb0 h1 H1=>?_;refine qM H1 rfl λb1 h2 H2=>?_;refine qW (qJd (zs:=zs) omQ H2 Sw.more.more) ?_;rintro _ h3 ⟨v,rfl,H3⟩;refine qE H3 (b:=b0) (off:=0) e_2 rfl omQ (l:=[pv]) rfl ?_;refine qW (qJH omQ H3 S.more.more.more omQ) ?_;rintro _ h4 ⟨x,rfl,H4⟩;have hm:YT l=qA l:=by unfold YT;rw[iJ hc]
 rw[hm,hc]at H4;have hfz:jd fuel≤400:=by unfold jd;omega
 have G0:=Gr (l:=l) (m:=m) hz;have f0:=Ji zs m;refine qW (qQ5 (V:=zt zs m) omQ F Q G0 omQ omQ H4) ?_;rintro _ h5 ⟨rfl,nx,H5⟩;obtain⟨RB,rfr,_,_,rk⟩:=Y2 F Q (jd fuel) G0 omQ;unfold xi;generalize jZ l (qA l) (jd fuel) J7 (zt zs m)=RM at*;refine qW (qQN omQ H5) ?_;rintro _ h5 ⟨rfl,rfl⟩;refine qI (l:=[.int .i64 RM.kind,.int .i64 RM.err,.str [],.nils,.nils,.nils]) rfl ?_;refine qM H5 rfl λb2 h6 H6=>?_;refine qc H6 (b:=b2) .here rfl (by show 0+6≤6;omega) rfl λh7 H7=>?_;have H7:HS g h7 (qk b2 [.int .i64 RM.kind,.int .i64 RM.err,.str [],.nils,.nils,.nils]::IntC x v l 0 (qA l) RM.s RM.err (if RM.kind=1 then 0 else RM.kind) (RM.left:Int) nx::ViewC v RM.v::qk b1 [.int .i64 ((0:Nat):Int),.int .i64 ((0:Nat):Int),.str [],.nils,.nils,.nils]::qk b0 [pv]::R):=H7;clear H1 H2 H3 H4 H5 H6
 refine jT [] (λs h'=>s=(.ptr b2 0,.ptr b1 0,wv,())∧∃cv fv e1 e2,HS g h' (qk b2 [.int .i64 RM.kind,.int .i64 RM.err,.str (KA RM),cv,fv,.nils]::qD e1 2 (zg RM).length cv ((zg RM).flatMap jU)::qD e2 1 (vX RM).length fv ((vX RM).map (.int .i64))::
   qk b1 [.int .i64 ((0:Nat):Int),.int .i64 ((0:Nat):Int),.str [],.nils,.nils,.nils]::R)) ?_ ?_
 rotate_left
 ·rintro s h8 ⟨rfl,cv,fv,e1,e2,H8⟩;dsimp only;have hcs:(zg RM).length<100000:=by
   unfold zg
   split
   ·have h1:=Xh RM.v.lv [];have h2:=RB.good.ok.lvs.held;have h3:=RB.good.ok.lvs.le;simp at h1;unfold jV;omega
   ·simp
  have w1:=shp H8 e_1;have w2:=shp H8 e_2;refine qQ (qG ‹_› .here rfl ?_);refine qW (NE (zs:=zs) (cs:=zg RM) omQ H8 (Sw.more.more.more.more) (YW (YW (YW (YW hcut)))) (H8.rd e_1) hzl hcs) ?_;rintro av h9 ⟨e3,H9⟩;have w3:=shp H9 .here;refine qQ (qH H9 (b:=b2) e_1 (Mj w3) (by show 5<6;omega) λh10 H10=>?_)
  have H10:HS g h10 (qk b2 (Mv RM cv fv av)::qD e3 1 (xu zs (zg RM)).length av ((xu zs (zg RM)).map (.int .u64))::qD e1 2 (zg RM).length cv ((zg RM).flatMap jU)::qD e2 1 (vX RM).length fv ((vX RM).map (.int .i64))::
   qk b1 [.int .i64 ((0:Nat):Int),.int .i64 ((0:Nat):Int),.str [],.nils,.nils,.nils]::R):=H10
  refine qE H10 (b:=b2) (off:=0) .here rfl omQ (l:=Mv RM cv fv av) rfl ?_;refine qc H10 (b:=b1) e_4 rfl (by show 0+6≤6;omega) (qxD w1 w2 w3) λh11 H11=>?_;have H11:HS g h11 (qk b1 (Mv RM cv fv av)::qk b2 (Mv RM cv fv av)::qD e3 1 (xu zs (zg RM)).length av ((xu zs (zg RM)).map (.int .u64))::qD e1 2 (zg RM).length cv ((zg RM).flatMap jU)::qD e2 1 (vX RM).length fv ((vX RM).map (.int .i64))::R):=H11;refine qx (qE H11 (b:=b1) (off:=0) .here rfl omQ (l:=Mv RM cv fv av) rfl ?_);exact qY ⟨cv,fv,av,e1,e2,e3,rfl,H11.sub (.cons e_3 (.cons e_3 (.cons e_2 (.drop (.drop .refl)))))⟩
 intro j hj;refine qQ (qG ‹_› .here rfl ?_);by_cases k2:RM.kind=2
 ·refine qz k2 ?_;refine qX (qW (U9 omQ (H7.sel (P:=IntC x v l 0 (qA l) RM.s RM.err (if RM.kind=1 then 0 else RM.kind) (RM.left:Int) nx) e_1) RB.gb.out) ?_);rintro _ h8 ⟨p,rfl,H8⟩;refine qW (qQf omQ H8 (by have:=RB.gb.out;omega) RB.gb.its) ?_;rintro _ h9 ⟨rfl,H9⟩;refine qW (Yp omQ (H9.sel (P:=ViewC v RM.v) e_3) RB.good.ok) λcv h10 H10=>?_;refine qW (Uh omQ (H10.sel (P:=ViewC v RM.v) e_1) RB.good.ok) λfv h11 H11=>?_;clear H8 H9 H10;have w1:=shp H11 .here;have w2:=shp H11 e_2;refine qQ (qH H11 (b:=b2) e_5 (x:=.str (Nv RM.s.out)) ⟨rfl,rfl⟩ (by show 2<6;omega) λh12 H12=>?_);refine qQ (qH H12 (b:=b2) .here (Mj w2) (by show 3<6;omega) λh13 H13=>?_);refine qQ (qH H13 (b:=b2) .here (Mj w1) (by show 4<6;omega) λh14 H14=>?_)
  skip
  have t1:KA RM=Nv RM.s.out:=iJ k2;have t2:zg RM=jV RM.v.lv:=iJ k2;have t3:vX RM=vz RM.v.lv:=iJ k2;refine hj _ _ ⟨rfl,cv,fv,66,3,?_⟩;rw[t1,t2,t3];have H15:HS g h14 (qk b2 [.int .i64 RM.kind,.int .i64 RM.err,.str (Nv RM.s.out),cv,fv,.nils]::_):=H14;exact H15.sub (.cons .here (.cons e_2 (.cons .here (.cons e_3 (.drop (.drop (.drop (.drop .refl))))))))
 ·refine qZ k2 ?_;refine qJ ?_;have t1:KA RM=[]:=iQ k2;have t2:zg RM=[]:=iQ k2;have t3:vX RM=[]:=iQ k2;refine hj _ _ ⟨rfl,.nils,.nils,66,3,?_⟩;rw[t1,t2,t3];have H8:=(H7.nils (e:=3) (sz:=1)).nils (e:=66) (sz:=2);exact H8.sub (.cons e_2 (.cons .here (.cons .here (.drop (.drop (.cons .here (.drop .refl)))))))
end Go.Proofs.YtnalffoigcmnnaaGreatDoor
namespace Go.Proofs.YtnalffoigcmnnaaGreatDoor
open Go Go.Ae
def Jg (k:Nat) (x:qS):qS:=if x.1=12∨x.1=13 then(x.1,x.2.1,x.2.2.1,x.2.2.2.1+k,x.2.2.2.2)else x
theorem ke {k:Nat} {x:qS}:(Jg k x).1=x.1:=by unfold Jg;split<;>rfl
theorem qjf (x:qS):Jg 0 x=x:=by unfold Jg;split<;>simp
structure Emb (l L:List qS) (k:Nat) (st0:List Int):Prop where
  le:k+l.length≤L.length
  ins:∀i:Nat,i<l.length→qL L ((k+i:Nat):Int)=Jg k (qL l i)
  st:qg L k=st0
theorem Zx {st0 s:List Int} {k i:Nat} {op:Int} (h:0<jO op→s≠[]):qt (st0++s.map (· +(k:Int))) ((k+i:Nat):Int) op=st0++(qt s i op).map (· +(k:Int)):=by
 have hd:0<jO op→(st0++s.map (· +(k:Int))).dropLast=st0++s.dropLast.map (· +(k:Int)):=by intro h0;rw[List.dropLast_append_of_ne_nil (by simpa using h h0),List.map_dropLast]
 have e:[((k+i:Nat):Int)]=[(i:Int)].map (· +(k:Int)):=by simp;omega
 unfold qt;by_cases c1:zR op=true∨op=18
 ·rw[iJ c1,iJ c1];by_cases c2:0<jO op
  ·rw[iJ c2,iJ c2,hd c2,List.map_append,e,List.append_assoc]
  ·rw[iQ c2,iQ c2,List.map_append,e,List.append_assoc]
 ·rw[iQ c1,iQ c1];by_cases c2:0<jO op
  ·rw[iJ c2,iJ c2,hd c2]
  ·rw[iQ c2,iQ c2]
section
variable {l L:List qS} {k:Nat} {st0:List Int}
theorem Emb.stack (E:Emb l L k st0) (hw:∀j,j<l.length→zk l (qg l j) (qL l j)=0):∀i,i≤l.length→qg L (k+i)=st0++(qg l i).map (· +(k:Int)):=by
 intro i
 induction i with
 |zero=>intro _;rw[Nat.add_zero,E.st];simp[qg]
 |succ i ih=>intro hi;rw[← Nat.add_assoc,jJ,ih omQ,E.ins i omQ,ke,Zx λh=>(zl (hw i omQ)).2.1 (.inl h),jJ]
theorem ZZ {s:List Int} (h:s≠[]):qm (st0++s.map (· +(k:Int)))=qm s+k:=by unfold qm;rw[List.getLast?_append,List.getLast?_map,List.getLast?_eq_some_getLast h];rfl
theorem qVU (F:Fit l) {p e:Nat} (hp:p<l.length) (ho:(qL l p).1=14∨(qL l p).1=17∨(qL l p).1=18) (he:e<l.length) (h1:0<jO (qL l e).1) (h2:qm (qg l e)=p):qB (qA l) (p:Int)=e:=by
 obtain⟨e0,_,_,_,_,_,hu⟩:=Ge F hp ho;obtain⟨e1,g1,g2,g3,g4,g5⟩:=vH F hp ho;have hin:qm (qg l (p+1))=p:=by rw[jJ];unfold qt;rw[iJ (by unfold zR;simp;omega)];unfold qm;rw[List.getLast?_concat];rfl
 have a:=hu e he h1 h2;have b:=hu e1 g3 (by rw[g4];omega) (by rw[g5,hin]);rw[g1,a,b]
theorem qqu (F:Fit l) {u e:Nat} (hu:u<l.length) (ho:(qL l u).1=16) (he:e<l.length) (h1:0<jO (qL l e).1) (h2:qm (qg l e)=qm (qg l u)):qB (qA l) (u:Int)=e:=by obtain⟨e1,g1,g2,g3,g4,g5⟩:=w5 F hu ho;obtain⟨q,q1,q2,_,q3⟩:=yP g5;have hq:=(xf (F.ok u hu)).2.2.1 ho;rw[Kz g5 q1]at hq;obtain⟨e0,_,_,_,_,_,hU⟩:=Ge F (p:=q) omQ (.inl hq);have a:=hU e he h1 (h2.trans q1);have b:=hU e1 g2 (by rw[g3];decide) (by rw[g4,q1]);rw[g1,a,b]
theorem Emb.mt (E:Emb l L k st0) (F:Fit l) (FL:Fit L) {i:Nat} (hi:i<l.length) (ho:(qL l i).1=14∨(qL l i).1=17∨(qL l i).1=18∨(qL l i).1=16):qB (qA L) ((k+i:Nat):Int)=qB (qA l) (i:Int)+k:=by
 have hle:=E.le;by_cases h:(qL l i).1=16
 ·obtain⟨e1,g1,g2,g3,g4,g5⟩:=w5 F hi h;rw[g1,qqu FL (u:=k+i) (e:=k+e1) omQ (by rw[E.ins i hi,ke];exact h) omQ (by rw[E.ins e1 g2,ke,g3];decide) (by rw[E.stack F.ok _ omQ,E.stack F.ok _ omQ,g4])];omega
 ·obtain⟨e1,g1,g2,g3,g4,g5⟩:=vH F hi omQ;have hin:qm (qg l (i+1))=i:=by
   rw[jJ];unfold qt;rw[iJ (by unfold zR;simp;omega)];unfold qm;rw[List.getLast?_concat];rfl
  have hne:qg l e1≠[]:=by intro h0;rw[← g5,h0,XP]at hin;omega
  rw[g1,qVU FL (p:=k+i) (e:=k+e1) omQ (by rw[E.ins i hi,ke];omega) omQ (by rw[E.ins e1 g3,ke,g4];omega) (by rw[E.stack F.ok _ omQ,ZZ hne,g5,hin];omega)];omega
end
def Xc (k:Nat) (p:PtM):PtM:={ p with pc:=p.pc+k }
structure Sim (k:Nat) (o0:List PtM) (s S:IM):Prop where
  regs:S.regs=s.regs
  out:S.out=s.out
  pc:S.pc=s.pc+k
  opn:S.opn=s.opn.map (Xc k)++o0
structure SimS (k:Nat) (o0:List PtM) (d D:SM):Prop where
  e:D.e=d.e
  blk:D.blk=d.blk
  v:D.v=d.v
  nx:D.nx=d.nx+k
  regs:D.s.regs=d.s.regs
  out:D.s.out=d.s.out
  opn:D.s.opn=d.s.opn.map (Xc k)++o0
section
variable {l L:List qS} {k:Nat} {st0:List Int} {o0:List PtM} {s S:IM} {V:VM}
theorem qJa {x:qS} (h:Sim k o0 s S):(jB S V x).1=(jB s V x).1∧(jB S V x).2.2=(jB s V x).2.2∧(jB S V x).2.1.regs=(jB s V x).2.1.regs∧(jB S V x).2.1.out=(jB s V x).2.1.out∧(jB S V x).2.1.opn=(jB s V x).2.1.opn.map (Xc k)++o0:=by
 unfold jB setR;rw[h.regs];by_cases c1:x.1=8
 ·rw[iJ c1,iJ c1]
  split
  ·split
   ·exact⟨rfl,rfl,rfl,h.out,h.opn⟩
   ·exact⟨rfl,rfl,h.regs,h.out,h.opn⟩
  ·exact⟨rfl,rfl,h.regs,h.out,h.opn⟩
 rw[iQ c1,iQ c1];by_cases c2:x.1=9
 ·rw[iJ c2,iJ c2]
  split
  ·exact⟨rfl,rfl,h.regs,h.out,h.opn⟩
  ·exact⟨rfl,rfl,h.regs,h.out,h.opn⟩
 rw[iQ c2,iQ c2];by_cases c3:x.1=10
 ·rw[iJ c3,iJ c3]
  split
  ·exact⟨rfl,rfl,h.regs,h.out,h.opn⟩
  ·split
   ·exact⟨rfl,rfl,rfl,h.out,h.opn⟩
   ·exact⟨rfl,rfl,h.regs,h.out,h.opn⟩
 rw[iQ c3,iQ c3]
 split
 ·exact⟨rfl,rfl,h.regs,h.out,h.opn⟩
 ·exact⟨rfl,rfl,h.regs,h.out,h.opn⟩
theorem qJi {op:Int} (h:Sim k o0 s S):SimS k o0 (j4 op s.pc (s.pc+1) s V) (j4 op S.pc (S.pc+1) S V):=by
 unfold j4;have hp:=h.pc
 split
 ·refine⟨rfl,rfl,rfl,by show S.pc+1=s.pc+1+k;omega,h.regs,h.out,?_⟩;show _::S.opn=_::(s.opn.map (Xc k))++o0;rw[h.opn,List.cons_append];unfold Xc;rw[h.regs,h.out,hp]
 ·exact⟨rfl,rfl,rfl,by show S.pc+1=s.pc+1+k;omega,h.regs,h.out,h.opn⟩
theorem qxc {mt MT:List Int} {x:qS} (h:Sim k o0 s S) (hx:1≤x.1∧x.1≤22) (h20:x.1≠20) (hm:x.1=16∨x.1=18→qB MT S.pc=qB mt s.pc+k) (ho:x.1=15∨x.1=16∨x.1=18∨x.1=19→s.opn≠[]) :
  SimS k o0 (doM mt s V x) (doM MT S V (Jg k x)):=by
 have hp:=h.pc;have hr:=h.regs;have hnx:S.pc+1=s.pc+1+k:=by omega
 by_cases cj:x.1=12∨x.1=13
 ·have ex:Jg k x=(x.1,x.2.1,x.2.2.1,x.2.2.2.1+k,x.2.2.2.2):=iJ cj;rw[ex];unfold doM;rcases cj with cj |cj
  ·simp only[cj];exact⟨rfl,rfl,rfl,rfl,h.regs,h.out,h.opn⟩
  ·simp only[cj];refine⟨rfl,rfl,rfl,?_,h.regs,h.out,h.opn⟩;show(if qB S.regs x.2.1=0 then x.2.2.2.1+(k:Int)else S.pc+1)=(if qB s.regs x.2.1=0 then x.2.2.2.1 else s.pc+1)+k;rw[hr]
   split
   ·rfl
   ·exact hnx
 have ex:Jg k x=x:=iQ cj;rw[ex];unfold doM;by_cases c1:x.1=1
 ·rw[iJ c1,iJ c1];unfold setR;rw[hr];exact⟨rfl,rfl,rfl,hnx,rfl,h.out,h.opn⟩
 rw[iQ c1,iQ c1];by_cases c2:x.1=2
 ·rw[iJ c2,iJ c2];unfold setR;rw[hr];exact⟨rfl,rfl,rfl,hnx,rfl,h.out,h.opn⟩
 rw[iQ c2,iQ c2];by_cases c3:x.1=3
 ·rw[iJ c3,iJ c3];unfold setR;rw[hr];exact⟨rfl,rfl,rfl,hnx,rfl,h.out,h.opn⟩
 rw[iQ c3,iQ c3];by_cases c4:x.1=4
 ·rw[iJ c4,iJ c4];unfold setR;rw[hr];exact⟨rfl,rfl,rfl,hnx,rfl,h.out,h.opn⟩
 rw[iQ c4,iQ c4];by_cases c5:x.1=5
 ·rw[iJ c5,iJ c5];unfold setR;rw[hr];exact⟨rfl,rfl,rfl,hnx,rfl,h.out,h.opn⟩
 rw[iQ c5,iQ c5];by_cases c6:x.1=6
 ·rw[iJ c6,iJ c6];unfold setR;rw[hr];exact⟨rfl,rfl,rfl,hnx,rfl,h.out,h.opn⟩
 rw[iQ c6,iQ c6];by_cases c7:x.1=7
 ·rw[iJ c7,iJ c7];unfold setR;rw[hr];exact⟨rfl,rfl,rfl,hnx,rfl,h.out,h.opn⟩
 rw[iQ c7,iQ c7];rw[iQ (λh=>cj (.inl h)),iQ (λh=>cj (.inl h)),iQ (λh=>cj (.inr h)),iQ (λh=>cj (.inr h))];by_cases c21:x.1=21
 ·rw[iJ c21,iJ c21,h.out,hr]
  split
  ·exact⟨rfl,rfl,rfl,hnx,h.regs,h.out,h.opn⟩
  ·exact⟨rfl,rfl,rfl,hnx,rfl,rfl,h.opn⟩
 rw[iQ c21,iQ c21];by_cases c22:x.1=22
 ·rw[iJ c22,iJ c22];exact⟨rfl,rfl,rfl,hnx,h.regs,h.out,h.opn⟩
 rw[iQ c22,iQ c22];by_cases c8:x.1=8∨x.1=9∨x.1=10∨x.1=11
 ·rw[iJ c8,iJ c8];obtain⟨a,b,c,d,e⟩:=qJa (V:=V) (x:=x) h;exact⟨a,rfl,b,hnx,c,d,e⟩
 rw[iQ c8,iQ c8];unfold gV;by_cases t1:x.1=14∨x.1=17
 ·rw[iJ t1,iJ t1];exact qJi h
 rw[iQ t1,iQ t1];have tl:x.1=15∨x.1=16∨x.1=18∨x.1=19→S.opn.tail=s.opn.tail.map (Xc k)++o0:=by
  intro hh;have:=ho hh;rw[h.opn];cases hs:s.opn with
  |nil=>exact absurd hs this
  |cons p o=>rfl
 by_cases t2:x.1=15∨x.1=19
 ·rw[iJ t2,iJ t2];exact⟨rfl,rfl,rfl,hnx,h.regs,h.out,tl omQ⟩
 rw[iQ t2,iQ t2];by_cases t3:x.1=18
 ·rw[iJ t3,iJ t3];have:=hm (.inr t3);exact⟨rfl,rfl,rfl,by show qB MT S.pc+1=qB mt s.pc+1+k;omega,h.regs,h.out,tl omQ⟩
 rw[iQ t3,iQ t3];by_cases t4:x.1=16
 ·rw[iJ t4,iJ t4];have:=hm (.inl t4);have hh:Kk S.opn=Xc k (Kk s.opn):=by
   have:=ho (.inr (.inl t4));rw[h.opn];cases hs:s.opn with
   |nil=>exact absurd hs this
   |cons p o=>rfl
  refine⟨rfl,rfl,rfl,by show qB MT S.pc+1=qB mt s.pc+1+k;omega,?_,?_,tl omQ⟩
  ·show(Kk S.opn).regs=(Kk s.opn).regs;rw[hh];rfl
  ·show S.out.take (Kk S.opn).told=s.out.take (Kk s.opn).told;rw[hh,h.out];rfl
 omega
end
end Go.Proofs.YtnalffoigcmnnaaGreatDoor
namespace Go.Proofs.YtnalffoigcmnnaaGreatDoor
open Go Go.Ae
theorem do_nx {l:List qS} (F:Fit l) {s:IM} {V:VM} {i:Nat} (hi:s.pc=i) (hlt:i<l.length) (h20:(qL l i).1≠20) (h23:(qL l i).1≠23):∃j:Nat,(doM (qA l) s V (qL l i)).nx=j∧j≤l.length:=by
 have hm:=qQt (xf (F.ok i hlt)).1 h23;have hj:=F.jump i hlt;have h1:∃j:Nat,s.pc+1=j∧j≤l.length:=⟨i+1,by omega,by omega⟩;have hmt:(qL l i).1=16∨(qL l i).1=18→∃j:Nat,qB (qA l) s.pc+1=j∧j≤l.length:=by
  intro h;rw[hi];rcases h with h |h
  ·obtain⟨e,e1,e2,_⟩:=w5 F hlt h;exact⟨e+1,by omega,by omega⟩
  ·obtain⟨e,e1,_,e2,_⟩:=vH F hlt (.inr (.inr h));exact⟨e+1,by omega,by omega⟩
 have hc:(qL l i).1=12∨(qL l i).1=13→∃j:Nat,(qL l i).2.2.2.1=j∧j≤l.length:=by
  intro h;refine⟨(qL l i).2.2.2.1.toNat,by omega,?_⟩;by_cases hc:(l.length:Int)<(qL l i).2.2.2.1
  ·exact absurd ⟨h,.inl hc⟩ hj
  ·omega
 generalize qL l i=x at*;unfold doM;by_cases c1:x.1=1
 ·rw[iJ c1];exact h1
 rw[iQ c1];by_cases c2:x.1=2
 ·rw[iJ c2];exact h1
 rw[iQ c2];by_cases c3:x.1=3
 ·rw[iJ c3];exact h1
 rw[iQ c3];by_cases c4:x.1=4
 ·rw[iJ c4];exact h1
 rw[iQ c4];by_cases c5:x.1=5
 ·rw[iJ c5];exact h1
 rw[iQ c5];by_cases c6:x.1=6
 ·rw[iJ c6];exact h1
 rw[iQ c6];by_cases c7:x.1=7
 ·rw[iJ c7];exact h1
 rw[iQ c7];by_cases c12:x.1=12
 ·rw[iJ c12];exact hc (.inl c12)
 rw[iQ c12];by_cases c13:x.1=13
 ·rw[iJ c13];show∃j:Nat,(if qB s.regs x.2.1=0 then x.2.2.2.1 else s.pc+1)=j∧j≤l.length
  split
  ·exact hc (.inr c13)
  ·exact h1
 rw[iQ c13];by_cases c21:x.1=21
 ·rw[iJ c21];split<;>exact h1
 rw[iQ c21];by_cases c22:x.1=22
 ·rw[iJ c22];exact h1
 rw[iQ c22];by_cases c8:x.1=8∨x.1=9∨x.1=10∨x.1=11
 ·rw[iJ c8];exact h1
 rw[iQ c8];unfold gV;by_cases t1:x.1=14∨x.1=17
 ·rw[iJ t1];unfold j4;split<;>exact h1
 rw[iQ t1];by_cases t2:x.1=15∨x.1=19
 ·rw[iJ t2];exact h1
 rw[iQ t2];by_cases t3:x.1=18
 ·rw[iJ t3];exact hmt (.inr t3)
 rw[iQ t3];by_cases t4:x.1=16
 ·rw[iJ t4];exact hmt (.inl t4)
 clear h1 hmt hc;omega
section
variable {l L:List qS} {k:Nat} {st0:List Int} {o0:List PtM}
theorem qqp (E:Emb l L k st0) (F:Fit l) {s S:IM} {V:VM} (h:Sim k o0 s S) (G:GI L S V) {i:Nat} (hi:s.pc=i) (hil:i≤l.length) (h0:o0.length=st0.length):s.opn.length=(qg l i).length:=by have e:=congrArg List.length G.stk;rw[h.pc,hi,show((i:Int)+(k:Int)).toNat=k+i by omega,E.stack F.ok i hil,h.opn]at e;simp at e;omega
theorem qW3 (E:Emb l L k st0) (F:Fit l) (FL:Fit L) (QL:Quiet L) (Cl:Calm l) (h0:o0.length=st0.length) {s S:IM} {V:VM} (h:Sim k o0 s S) (G:GI L S V) {i:Nat} (hi:s.pc=i) (hlt:i<l.length) :
  SimS k o0 (doM (qA l) s V (qL l i)) (doM (qA L) S V (qL L ((k+i:Nat):Int)))∧(doM (qA l) s V (qL l i)).blk=false∧∃j:Nat,(doM (qA l) s V (qL l i)).nx=j∧j≤l.length:=by
 have hle:=E.le;have hq:(qL l i).1≠23:=by
  have:=(QL.at (i:=k+i) omQ).1
  rwa [E.ins i hlt,ke]at this
 have h20:(qL l i).1≠20:=by rw[xx hlt];exact Cl _ (List.getElem_mem hlt)
 have hw:=F.ok i hlt;have hb:=qQt (xf hw).1 hq;have hlen:=qqp E F h G hi omQ h0;have hso:S.pc=((k+i:Nat):Int):=by have:=h.pc;omega
 rw[E.ins i hlt];refine⟨qxc h omQ h20 (λho=>?_) (λho hn=>?_),M4 omQ h20 hq,do_nx F hi hlt h20 hq⟩
 ·rw[hso,hi,E.mt F FL hlt omQ]
 ·rw[hn]at hlen
  have:qg l i≠[]:=(zl hw).2.1 (by
   rcases ho with ho |ho |ho |ho
   ·exact .inl (by rw[ho];decide)
   ·exact .inr ho
   ·exact .inl (by rw[ho];decide)
   ·exact .inl (by rw[ho];decide))
  exact this (iA hlen.symm)
theorem qjl (E:Emb l L k st0) (F:Fit l) (FL:Fit L) (QL:Quiet L) (Cl:Calm l) (h0:o0.length=st0.length):∀(n:Nat) {s S:IM} {V:VM},Sim k o0 s S→GI L S V→(∃i:Nat,s.pc=i∧i≤l.length)→frS V.lv+n<9000→
  ((jZ l (qA l) n s V).kind=2→∃S',jZ L (qA L) n S V=jZ L (qA L) (jZ l (qA l) n s V).left S' (jZ l (qA l) n s V).v∧Sim k o0 (jZ l (qA l) n s V).s S'∧GI L S' (jZ l (qA l) n s V).v∧
   frS (jZ l (qA l) n s V).v.lv+(jZ l (qA l) n s V).left<9000∧(jZ l (qA l) n s V).s.pc=l.length∧(jZ l (qA l) n s V).left≤n)∧
  ((jZ l (qA l) n s V).kind≠2→(jZ L (qA L) n S V).kind=(jZ l (qA l) n s V).kind∧(jZ L (qA L) n S V).err=(jZ l (qA l) n s V).err):=by
 have hle:=E.le;intro n
 induction n with
 |zero=>
  rintro s S V h G ⟨i,hi,hil⟩ hf;have hp:=h.pc;rw[gJ];by_cases c:s.pc=l.length
  ·rw[iJ c];exact⟨λ_=>⟨S,rfl,h,G,hf,c,Nat.le_refl _⟩,λhk=>absurd rfl hk⟩
  ·rw[iQ c,gJ,iQ omQ];exact⟨λhk=>(by cases hk),λ_=>⟨rfl,rfl⟩⟩
 |succ n ih=>
  rintro s S V h G ⟨i,hi,hil⟩ hf;have hp:=h.pc;rw[vt];by_cases c:s.pc=l.length
  ·rw[iJ c];exact⟨λ_=>⟨S,rfl,h,G,hf,c,Nat.le_refl _⟩,λhk=>absurd rfl hk⟩
  ·have hlt:i<l.length:=by omega
   have hSp:S.pc=((k+i:Nat):Int):=by omega
   obtain⟨D,hb,j,hj,hjl⟩:=qW3 E F FL QL Cl h0 h G hi hlt;have St:=QE FL G hSp omQ omQ (QL.at (i:=k+i) omQ).2 (QL.at (i:=k+i) omQ).1;have e1:=vt (l:=L) (mt:=qA L) (n:=n) (s:=S) (V:=V);rw[iQ (show¬S.pc=L.length by omega),hSp]at e1;rw[iQ c,e1,hi];clear e1;generalize doM (qA l) s V (qL l i)=d at*;generalize doM (qA L) S V (qL L ((k+i:Nat):Int))=D' at*;have hB:D'.blk=false:=D.blk.trans hb;by_cases c0:d.e=0
   ·rw[iJ c0,iQ (by rw[hb];simp),iJ (D.e.trans c0),iQ (by rw[hB];simp)];have hfr:=St.fr;have G2:=St.next (D.e.trans c0) hB;have S2:Sim k o0 { d.s with pc:=d.nx } { D'.s with pc:=D'.nx }:=⟨D.regs,D.out,D.nx,D.opn⟩;rw[D.v]at hfr G2 ⊢;obtain⟨a,b⟩:=ih S2 G2 ⟨j,hj,hjl⟩ omQ;refine⟨λhk=>?_,b⟩;obtain⟨S',x1,x2,x3,x4,x5,x6⟩:=a hk;exact⟨S',x1,x2,x3,x4,x5,by omega⟩
   ·have c0':¬D'.e=0:=by rw[D.e];exact c0
    rw[iQ c0,iQ c0'];by_cases c11:d.e=11
    ·rw[iJ c11,iJ (D.e.trans c11)];exact⟨λhk=>(by cases hk),λ_=>⟨rfl,rfl⟩⟩
    ·have c11':¬D'.e=11:=by rw[D.e];exact c11
     rw[iQ c11,iQ c11'];exact⟨λhk=>(by cases hk),λ_=>⟨rfl,D.e⟩⟩
end
end Go.Proofs.YtnalffoigcmnnaaGreatDoor
namespace Go.Proofs.YtnalffoigcmnnaaGreatDoor
open Go Go.Ae
set_option maxRecDepth 100000
variable {g h:AH} {L R:List SP}
end Go.Proofs.YtnalffoigcmnnaaGreatDoor
namespace Go.Proofs.YtnalffoigcmnnaaGreatDoor
open Go Go.Ae
theorem Bld.weak {l:List qS} {st:List Int} (B:Bld true l st):Bld false l st :=
 ⟨λx hx=>⟨(B.ok x hx).may,(B.ok x hx).no,(B.ok x hx).n,λh=>(by cases h)⟩,B.wr,B.top,λj hj ho=>(by
  obtain⟨c,c1,c2,c3,_⟩:=B.jp j hj ho
  exact⟨c,c1,c2,c3,λh=>by cases h⟩),B.five⟩
theorem qY3 (p t:List qS):Emb p (p++t) 0 []:=⟨by simp,λi hi=>by rw[qjf,Nat.zero_add,JN hi],rfl⟩
section
variable {p:List qS} {op:Int}
theorem qGA (B:Bld true p []) (h:op=20∨op=22):Bld false (p++[one op]) [] :=
 B.weak.flat ⟨by rcases h with rfl |rfl<;>decide,by rcases h with rfl |rfl<;>decide,by rcases h with rfl |rfl<;>decide,λh=>(by cases h)⟩ (by rcases h with rfl |rfl<;>(unfold Flat;decide)) (by rcases h with rfl |rfl<;>decide)
theorem Yf {calm:Bool} {l:List qS} (B:Bld calm l []):Quiet l:=λx hx=>⟨(B.ok x hx).no,(B.ok x hx).n⟩
theorem qYA {l:List qS} (B:Bld true l []):Calm l:=λx hx=>((B.ok x hx).cal rfl).1
theorem fails (B:Bld true p []) (h0:0<p.length) (h39:p.length≤39) (h:op=20∨op=22) {zs:List Int} (hz:OkN zs) :
  (xi (p++[one op]) 400 zs 96).kind≠2∧
  ((xi p 400 zs 96).kind≠2→(xi p 400 zs 96).kind=4∧(xi (p++[one op]) 400 zs 96).kind=4∧(xi (p++[one op]) 400 zs 96).err=(xi p 400 zs 96).err)∧
  ((xi p 400 zs 96).kind=2→op=20∧(xi (p++[one op]) 400 zs 96).kind=3∧(xi (p++[one op]) 400 zs 96).err=0∨op=22∧(xi (p++[one op]) 400 zs 96).kind=4∧(xi (p++[one op]) 400 zs 96).err=13∨
   (xi (p++[one op]) 400 zs 96).kind=4∧(xi (p++[one op]) 400 zs 96).err=6):=by
 have BL:=qGA B h;have F:Fit p:=QF (by rw[B.fit h0 omQ]);have FL:Fit (p++[one op]):=QF (by rw[BL.fit osQ (by simp;omega)]);have Q:=Yf B;have QL:=Yf BL;have C:=qYA B;have G:=Gr (l:=p) (m:=96) hz;have GL:=Gr (l:=p++[one op]) (m:=96) hz;have f0:=Ji zs 96;have n3:=qGb F Q C 400 G omQ;have n1:=qZI F Q (n:=400) (zs:=zs) (m:=96) G rfl rfl omQ;have rk:=(Y2 F Q 400 G omQ).2.2.2.2;obtain⟨a,b⟩:=qjl (qY3 p [one op]) F FL QL C (o0:=[]) rfl 400 (s:=J7) (S:=J7) (V:=zt zs 96) ⟨rfl,rfl,rfl,rfl⟩ GL ⟨0,rfl,Nat.zero_le _⟩ omQ;unfold xi;generalize jZ p (qA p) 400 J7 (zt zs 96)=A at*;by_cases k2:A.kind=2
 ·obtain⟨S',x1,x2,x3,x4,x5,x6⟩:=a k2;have hp:S'.pc=((p.length:Nat):Int):=by have:=x2.pc;omega
  have hne:¬S'.pc=(p++[one op]).length:=by rw[hp];simp;omega
  have hins:qL (p++[one op]) S'.pc=one op:=by have e:=Qk (l:=p) (t:=[one op]) (k:=0) (x:=one op) rfl;rw[hp];exact e
  have ho:S'.opn=[]:=by have e:=x3.stk;rw[hp,Int.toNat_natCast,gD _ (Nat.le_refl _),F.nil]at e;simpa using e
  have key:op=20∧(jZ (p++[one op]) (qA (p++[one op])) A.left S' A.v).kind=3∧(jZ (p++[one op]) (qA (p++[one op])) A.left S' A.v).err=0∨op=22∧(jZ (p++[one op]) (qA (p++[one op])) A.left S' A.v).kind=4∧(jZ (p++[one op]) (qA (p++[one op])) A.left S' A.v).err=13∨
    (jZ (p++[one op]) (qA (p++[one op])) A.left S' A.v).kind=4∧(jZ (p++[one op]) (qA (p++[one op])) A.left S' A.v).err=6:=by
   cases A.left with
   |zero=>rw[gJ,iQ hne];exact .inr (.inr ⟨rfl,rfl⟩)
   |succ m=>
    rw[vt,iQ hne,hins];rcases h with rfl |rfl
    ·have e:doM (qA (p++[one 20])) S' A.v (one 20)=⟨0,S'.pc,true,{ S' with opn:=[] },A.v⟩:=by
      show yx _ S'.opn S' A.v=_;rw[ho];rfl
     rw[e];exact .inl ⟨rfl,rfl,rfl⟩
    ·exact .inr (.inl ⟨rfl,rfl,rfl⟩)
  rw[x1];exact⟨by omega,λh=>absurd k2 h,λ_=>key⟩
 ·obtain⟨y1,y2⟩:=b k2;have k4:A.kind=4:=by omega
  exact⟨by rw[y1];exact k2,λ_=>⟨k4,by rw[y1];exact k4,y2⟩,λh=>absurd h k2⟩
end
end Go.Proofs.YtnalffoigcmnnaaGreatDoor
namespace Go.Proofs.YtnalffoigcmnnaaGreatDoor.attemptAlone
open Go Go.Ae
set_option maxRecDepth 100000
variable {g h:AH} {L R:List SP}
theorem qxh {m:Nat} {x y:jG} {M N:js} (s:Stp m x M y N):zM x→Qc x→OX M→zM y∧Qc y∧OX N:=by
 induction s with
 |nil=>exact λa b c=>⟨a,b,c⟩
 |cons hn _ ih=>intro O W Q;have r:=qQF Q (UN O W hn);exact ih (VW O r.1) (U1 O W r.1) r.2
theorem qW0 {n a p:Nat} {S:yv} {x y:jG} {M N:js} {m:Nat} (hn:28≤n) (st:Stp m x M y N) (hm:m<4000) (he:z8 y=none) (O:zM x) (W:Qc x) (Q:OX M) (hc:0≤M.cnt∧M.cnt<1000000) (H:HS g h (AttC a x::MemC p S M::R)) :
  t_w n 12 [.ptr a 0,.ptr p 0] h λr h'=>r=.bool true∧HS g h' (AttC a y::MemC p S N::R):=by
 refine t_e2 (S:=S12) rfl omQ λk hk=>?_;unfold S12;try simp only[iZ]
 refine jP (λc s h'=>∃(i:Nat) (x':jG) (M':js),s=(.int .i64 (i:Int),.ptr p 0,.ptr a 0,())∧i≤m∧c=m-i∧Stp (m-i) x' M' y N∧zM x'∧Qc x'∧OX M'∧0≤M'.cnt∧M'.cnt≤M.cnt+i∧HS g h' (AttC a x'::MemC p S M'::R))
  ?_ (m:=m) (by show _<1000000000;omega) ⟨0,x,M,rfl,Nat.zero_le _,rfl,st,O,W,Q,hc.1,by omega,H⟩
 clear H O W Q st;rintro c ih s h1 hih ⟨i,x',M',rfl,hi,rfl,st,O,W,Q,c0,c1,H⟩;dsimp only;refine zq omQ (qX ?_);refine qW (qKI omQ O H) ?_;rintro _ h2 ⟨rfl,H2⟩;refine qw rfl (qw rfl ?_);refine qM H2 rfl λb h3 H3=>?_;refine qc H3 (b:=b) .here rfl (by show 0+10≤10;omega) rfl λh4 H4=>?_;generalize hk:m-i=k at*;cases st with
 |nil=>rw[he]at H4 ⊢;refine jQ (qX (qx (qY ⟨rfl,H4.drop⟩)))
 |cons hnx r=>rename_i k o;rw[hnx]at H4 ⊢;have rr:=qQF Q (UN O W hnx);have hcn:=UM (M:=M') (o:=o);refine qu (qJ ?_);refine qE H4 (b:=b) (off:=0) .here rfl omQ (l:=ym o) rfl ?_;refine qW (qVh (o:=o) omQ ⟨c0,by omega⟩ (H4.sel (P:=MemC p S M') e_2)) ?_;rintro _ h5 ⟨rfl,H5⟩;refine qW (qWs (an:=(xW M' o).1) omQ O rr.1 (H5.sel (P:=AttC a x') e_2)) ?_;intro _ h6 H6;refine qU omQ ?_;exact hih k _ _ omQ ⟨i+1,_,_,rfl,by omega,by omega,by rw[show m-(i+1)=k by omega];exact r,VW O rr.1,U1 O W rr.1,rr.2,by omega,by omega,H6.sub (.cons .here (.cons .here (.drop .refl)))⟩
theorem raw_r {S:yv} {M:js} {k:Int} (O:we S) (Q:qJ6 S M k):OX M:=by have:=O.start;refine⟨Q.wd,by rw[Q.n];exact⟨by omega,by omega⟩,λz hz=>?_⟩;rw[Q.s]at hz;have:=List.eq_of_mem_replicate hz;subst this;exact⟨Int.le_refl _,by decide⟩
theorem law {k:Nat} (hk:40≤k) {a0 a2 a3:AV} {ks:List qS} {w st wi sp wr fu t:Int} {rs bs:List Int} (S0:Sl (λb=>b<h.nx) h 5 ks.length a0 (ks.flatMap q8)) (hN:∀x∈ks,0≤x.2.2.2.2∧x.2.2.2.2<18446744073709551616)
  (ht:0≤t∧t<18446744073709551616) (S1:Sl (λb=>b<h.nx) h 1 rs.length a2 (rs.map (.int .u64))) (hr:∀z∈rs,0≤z∧z<18446744073709551616)
  (S2:Sl (λb=>b<h.nx) h 1 bs.length a3 (bs.map (.int .u8))) (hb:∀z∈bs,0≤z∧z≤255) :
  wp ((tD4 S3) (gU 4 (callT tab qj k)) [a0,.agg [.int .i64 w,.int .i64 st,.int .i64 wi,.int .i64 sp,.int .i64 wr,.int .i64 fu,.int .u64 t],a2,a3] h) λv _=>v=.bool true:=by
 show wp (S3 (gU _ (callT tab qj _)) _ _ _ _ _).1 _;unfold S3
 try simp only[ iZ]
 refine qM (HS.nil h) rfl λb0 h1 H1=>?_;refine qxR (qu (qJ ?_));refine qE H1 (b:=b0) (off:=0) .here rfl omQ (l:=[.int .i64 w,.int .i64 st,.int .i64 wi,.int .i64 sp,.int .i64 wr,.int .i64 fu,.int .u64 t]) rfl ?_;refine zG od (qz2 omQ ht H1) ?_;rintro _ h2 ⟨s,rfl,K,H2⟩;refine qM H2 rfl λb1 h3 H3=>?_;refine qc H3 (b:=b1) .here rfl (by show 0+8≤8;omega) rfl λh4 H4=>?_;have H4:HS h h4 (qk b1 (vZ s)::[]):=H4.sub (.cons .here (.drop .refl));clear H1 H2 H3;refine qQ (qE H4 (b:=b1) (off:=0) .here rfl omQ (l:=kS s) rfl ?_);refine zG od (qja omQ K.start.1 H4) ?_;rintro _ h5 ⟨p,rfl,H5⟩;have O:=Xd K.start.1;have hSe:=K.held;have hST:(jf s).threads=1:=by rw[hSe]
 have hSw:(jf s).words=s.words:=by rw[hSe]
 have hSt:(jf s).start=s.start:=by rw[hSe]
 have hSwr:(jf s).writes=s.writes:=by rw[hSe]
 have hSf:(jf s).fuel=s.fuel:=by rw[hSe]
 generalize hSS:jf s=S at*;clear hSe;refine Gp (qJ ?_);refine qQ (qQ (qG H5 (b:=b1) e_1 rfl ?_));refine zG od (Z3 omQ H5 (Rd.arg S1) hr (Rd.arg S2) hb) ?_;rintro wv h6 ⟨zs,hz,_,hz1,hz2,hsh,hro,H6⟩;refine jP (λc q h'=>∃(i:Nat) (M:js),q=(.int .i64 ((i+1:Nat):Int),wv,.ptr p 0,.ptr b1 0,a0,())∧i+1≤zs.length∧c=zs.length-(i+1)∧qJ6 S M i∧HS h h' (MemC p S M::qk b1 (vZ s)::qD 24 1 zs.length wv (zs.map (.int .u64))::[]))
  ?_ (m:=zs.length-1) (by show _<1000000000;omega) ⟨0,Vp S,rfl,by omega,rfl,qjB O,H6.sub (.cons e_1 (.cons e_1 (.cons .here .refl)))⟩
 clear H4 H5 H6;rintro c ih q h7 hih ⟨i,M,rfl,hi,rfl,Q,H⟩;dsimp only;refine qs H e_2 ?_;by_cases hlt:i+1<zs.length
 ·refine zq omQ (qX ?_);refine jA (H.sl e_2) (x:=.int .u64 zs[i+1]) (by rw[List.getElem?_map,iW hlt];rfl) ?_;refine qI (l:=ym (op0 2 ((i+1:Nat):Int) zs[i+1])) rfl ?_;have hcn:=Q.cnt;refine zG od (qVh (o:=op0 2 ((i+1:Nat):Int) zs[i+1]) omQ ⟨hcn.1,by omega⟩ H) ?_;rintro _ h8 ⟨rfl,H8⟩;refine qU omQ ?_;refine hih (zs.length-(i+1+1)) _ _ omQ ⟨i+1,_,rfl,by omega,rfl,?_,H8⟩;have:=qJ2 Q (at_:=((i+1:Nat):Int)) omQ (hz _ (List.getElem_mem hlt));rw[Int.natCast_add];exact this
 clear hih;refine jo omQ (qJ ?_);have hMl:M.w.length≤256∧32≤M.w.length:=by have:=Q.w;have:=O.words;omega
 refine zG od (Up omQ omQ H) ?_;intro mv h8 H8;refine zG od (qVI (calm:=false) (most:=((40:Nat):Int)) omQ hN omQ H8 (Rd.arg S0)) ?_;rintro _ h9 ⟨pv,l,rfl,B,hl0,hl40,H9⟩;have hc:(yQ l).2=0:=by rw[B.fit hl0 omQ]
 have hQ:=Yf B;refine qM H9 rfl λb2 h10 H10=>?_;have op1:=H10.one (e:=74) (sz:=5) (n:=l.length) e_1;refine qc H10 (b:=b2) .here rfl osQ (by show ql [pv]=true;simp[ql,op1.2]) λh11 H11=>?_;have H11:HS h h11 (qk b2 [pv]::yD pv l::qD 24 1 M.w.length mv (M.w.map (.int .u64))::MemC p S M::qk b1 (vZ s)::qD 24 1 zs.length wv (zs.map (.int .u64))::[]):=H11;clear H H8 H9 H10;refine qE H11 (b:=b1) (off:=0) e_4 rfl omQ (l:=vZ s) rfl ?_;refine qE H11 (b:=b2) (off:=0) .here rfl omQ (l:=[pv]) rfl ?_;refine zG od (qYl (me:=0) (l:=l) (s:=s) omQ K.start.1 hc (H11.rd (e:=74) (sz:=5) (n:=l.length) e_1) H11) ?_;rintro _ h12 ⟨a,rfl,H12⟩;refine Gp (qV ?_)
 try dsimp only
 refine qa ?_;have C:=qKm (me:=0) O Q (by have:=K.start;omega) ⟨Int.le_refl _,by omega⟩;have hj0:JobOk True (Xg S.words S.writes) (.prog ⟨l,J7,0,0,jd S.fuel⟩):=by
  have G:=Ya S.words S.writes;have hf:jd S.fuel≤400:=by unfold jd;omega
  exact⟨QF hc,hQ,(QD (l:=l) rfl G).gb,λ_=>⟨QD rfl G,rfl,rfl,by show(0:Nat)+jd S.fuel<9000;omega⟩,hf⟩
 have hjW:JobOk True (zt M.w S.writes) (.prog ⟨l,J7,0,0,jd S.fuel⟩):=by
  have G:=Qt (m:=S.writes) Q.wd;have hf:jd S.fuel≤400:=by unfold jd;omega
  exact⟨QF hc,hQ,(QD (l:=l) rfl G).gb,λ_=>⟨QD rfl G,rfl,rfl,by show frS (zt M.w S.writes).lv+jd S.fuel<9000;rw[Ji];omega⟩,hf⟩
 obtain⟨m,y,N,hm,st,E,hcN⟩:=qZ3 O C (by rw[Q.n];have:=K.start;omega) hj0 hjW;have eA:Jp 0 s l=GF 0 S (.prog ⟨l,J7,0,0,jd S.fuel⟩):=by unfold Jp;rw[hSS]
 have OA:zM (Jp 0 s l):=Z1 K.start.1 hc hQ;have WA:Qc (Jp 0 s l):=qkm;have hMR:=raw_r O Q;rw[← eA]at st;have he:z8 y=none:=by unfold z8;rw[iQ (by rw[E.st];decide),iQ (by rw[E.st];decide),iQ (by rw[E.st];decide),iQ (by rw[E.st];decide),iJ E.st]
 obtain⟨Oy,Wy,_⟩:=qxh st OA WA hMR;have hcn:=Q.cnt;refine zG od (qW0 omQ st omQ he OA WA hMR ⟨hcn.1,by omega⟩ (H12.sub (.cons .here (.cons e_3 .refl)))) ?_;rintro _ h13 ⟨rfl,H13⟩;refine qu (qF (qJ ?_));refine qE H13 (b:=b2) (off:=0) e_2 rfl omQ (l:=[pv]) rfl ?_;refine qQ (qG H13 (b:=b1) e_5 rfl ?_);refine qQ (qG H13 (b:=b1) e_5 rfl ?_);refine zG od (qWo (l:=l) (zs:=M.w) (fuel:=s.fuel) (m:=s.writes) omQ H13 (H13.rd (e:=74) (sz:=5) (n:=l.length) e_3) (H13.rd e_4) (qqP e_4 omQ) Q.wd omQ hc hQ) ?_;rintro _ h14 ⟨cv,fv,av,e1,e2,e3,rfl,H14⟩;have hRV:jz (.prog ⟨l,J7,0,0,jd S.fuel⟩) (zt M.w S.writes)=(((xi l (jd s.fuel) M.w s.writes).kind,(xi l (jd s.fuel) M.w s.writes).err),.prog ⟨l,(xi l (jd s.fuel) M.w s.writes).s,if(xi l (jd s.fuel) M.w s.writes).kind=1 then 0 else(xi l (jd s.fuel) M.w s.writes).kind,(xi l (jd s.fuel) M.w s.writes).err,(xi l (jd s.fuel) M.w s.writes).left⟩,(xi l (jd s.fuel) M.w s.writes).v):=by rw[hSf,hSwr];rfl
 rw[hRV]at E;have herr:(xi l (jd s.fuel) M.w s.writes).kind≠4→(xi l (jd s.fuel) M.w s.writes).err=0:=qWi _
 have hins:InV (xi l (jd s.fuel) M.w s.writes).v:=InV.run _ (λx hx c hc=>by
  rcases List.mem_cons.1 hx with rfl |hx
  ·cases hc
  ·cases hx)
 have hvsz:(xi l (jd s.fuel) M.w s.writes).v.sz=szZ M.w.length:=(Y2 (QF hc) hQ (jd s.fuel) (Gr (l:=l) (zs:=M.w) (m:=s.writes) Q.wd) (by rw[Ji];unfold jd;omega)).1.sz
 change HS h h14 (qD e1 2 (zg (xi l (jd s.fuel) M.w s.writes)).length cv ((zg (xi l (jd s.fuel) M.w s.writes)).flatMap jU)::qD e2 1 (vX (xi l (jd s.fuel) M.w s.writes)).length fv ((vX (xi l (jd s.fuel) M.w s.writes)).map (.int .i64))::
  qD e3 1 (xu M.w (zg (xi l (jd s.fuel) M.w s.writes))).length av ((xu M.w (zg (xi l (jd s.fuel) M.w s.writes))).map (.int .u64))::_)at H14
 change wp (y8 h14 _ _ λv57 h58=>jj h58 v57 (.agg (Mv (xi l (jd s.fuel) M.w s.writes) cv fv av)) 6 _) _;clear hRV;generalize xi l (jd s.fuel) M.w s.writes=V at*;have hE:YR y=V.kind:=by unfold YR;rw[iQ (λh=>h E.st)];exact E.fin
 have Eerr:y.err=if V.kind=4 then V.err else 0:=E.err
 have Ew:N.w=if V.kind=2 then ka M.w (jV V.v.lv)else M.w:=E.w
 have Elv:y.v.lv=V.v.lv:=E.lv;have hErr:ME y=V.err:=by
  unfold ME;rw[iQ (λh=>h E.st),Eerr];by_cases h4:V.kind=4
  ·rw[iJ h4]
  ·rw[iQ h4,herr h4]
 have hWr:zm y=false:=by unfold zm;rw[iV (λh=>h E.st)];rfl
 have hCm:zo y=decide (V.kind=2):=by unfold zo;rw[hE,hWr,Bool.or_false]
 have hC:Q3 y=zg V:=by
  unfold Q3 zg;rw[hCm,E.lv];by_cases k2:V.kind=2
  ·rw[iG k2,iJ rfl,iJ k2]
  ·rw[iV k2,iQ od,iQ k2]
 have hF:JX y=vX V:=by
  unfold JX vX;rw[hCm,E.lv,E.job];by_cases k2:V.kind=2
  ·rw[iG k2,iJ rfl,iJ k2]
  ·rw[iV k2,iQ od,iQ k2]
 have hS:Xt y=KA V:=by
  unfold Xt KA;rw[hCm,E.job];by_cases k2:V.kind=2
  ·rw[iG k2,iJ rfl,iJ k2]
  ·rw[iV k2,iQ od,iQ k2]
 have hcin:∀c∈jV V.v.lv,1≤c.1∧c.1<M.w.length:=λc hc=>by
  obtain⟨x,hx,h1⟩:=XE hc;have:=hins x hx c h1;rw[hvsz]at this;unfold szZ at this;omega
 have hNw:N.w=xu M.w (zg V):=by
  rw[Ew];unfold zg;by_cases k2:V.kind=2
  ·rw[iJ k2,iJ k2,KK Q.w0 hMl.2 hMl.1 hcin]
  ·rw[iQ k2,iQ k2,KK Q.w0 hMl.2 hMl.1 (λc h=>by cases h)];rfl
 have hNn:N.n=s.start+(if zg V≠[]then 1 else 0):=by
  have:=E.n;rw[this,Q.n,hSt];unfold zg;by_cases k2:V.kind=2
  ·rw[iJ k2];by_cases c0:jV V.v.lv=[]
   ·rw[iQ (λh=>h.2 c0),iQ (λh=>h c0)]
   ·rw[iJ ⟨k2,c0⟩,iJ c0]
  ·rw[iQ k2,iQ (λh=>k2 h.1),iQ (λh=>h rfl)]
 have hNs:N.s=[0]:=by rw[E.s,Q.s,hST];rfl
 have w1:=shp H14 .here;have w2:=shp H14 e_1;have w3:=shp H14 e_2;refine qM H14 rfl λb3 h15 H15=>?_;refine qc H15 (b:=b3) .here rfl (by show 0+6≤6;omega) (qxD w1 w2 w3) λh16 H16=>?_;have H16:HS h h16 (MemC p S N::AttC a y::qk b3 (Mv V cv fv av)::qD e1 2 (zg V).length cv ((zg V).flatMap jU)::qD e2 1 (vX V).length fv ((vX V).map (.int .i64))::qD e3 1 (xu M.w (zg V)).length av ((xu M.w (zg V)).map (.int .u64))::qk b1 (vZ s)::[]) :=
  H16.sub (.cons e_5 (.cons e_4 (.cons .here (.cons .here (.cons .here (.cons .here (.drop (.drop (.drop (.cons .here (.drop .refl)))))))))))
 clear H11 H12 H13 H14 H15;have hNl:N.l.length≤16:=by have:=E.calm.l;have:=O.stripes;omega
 refine zG od (qXe omQ omQ H16) ?_;intro lv h17 H17;refine jP (λc q h'=>∃i:Nat,q=(.int .i64 (i:Int),lv,.ptr b3 0,.ptr a 0,.ptr p 0,.ptr b1 0,())∧i≤N.l.length∧c=N.l.length-i∧h'=h17) ?_ (m:=N.l.length) (by show _<1000000000;omega) ⟨0,rfl,Nat.zero_le _,rfl,rfl⟩;rintro c ih q _ hih ⟨i,rfl,hi,rfl,rfl⟩;dsimp only;refine qs H17 .here ?_;by_cases hlt:i<N.l.length
 ·refine zq omQ (qX ?_);obtain⟨v,ev,_,_⟩:=E.calm.lk i hlt;refine vj (H17.sl .here) omQ hlt (x:=.bool false) ?_ ?_
  ·have e:=Ku hlt;rw[ev]at e;have:=congrArg (·[1]?) e;simp only[List.getElem?_take_of_lt (show 1<3 by omega),List.getElem?_drop]at this;exact this
  refine qJ (qU omQ ?_);exact hih (N.l.length-(i+1)) _ _ omQ ⟨i+1,rfl,by omega,rfl,rfl⟩
 clear hih;refine jo omQ (qJ ?_);refine zG od (qZ8 omQ (by rw[hNs];decide) (H17.sel (P:=MemC p S N) e_1)) ?_;intro ev h18 H18;rw[hNs]at H18
 have H18:HS h h18 (AttC a y::MemC p S N::qk b3 (Mv V cv fv av)::qD e1 2 (zg V).length cv ((zg V).flatMap jU)::qD e2 1 (vX V).length fv ((vX V).map (.int .i64))::qD e3 1 (xu M.w (zg V)).length av ((xu M.w (zg V)).map (.int .u64))::
   qD 24 1 1 ev [.int .u64 0]::qk b1 (vZ s)::[]):=H18.sub (.cons e_3 (.cons e_1 (.cons e_2 (.cons e_2 (.cons e_2 (.cons e_2 (.cons .here (.drop .refl))))))))
 refine qQ (jN (qG H18 (b:=b1) e_7 rfl ?_));refine jT [] (λs' h'=>s'=(.int .u64 N.n,ev,.ptr b3 0,.ptr a 0,.ptr p 0,())∧h'=h18) (λj hj=>?_) ?_
 ·refine qQ (qG H18 (b:=b3) e_2 (x:=cv) rfl ?_);refine qs H18 e_3 ?_;by_cases c0:zg V=[]
  ·refine xc (by rw[c0];decide) (qJ ?_);refine hj _ _ ⟨?_,rfl⟩;rw[hNn,iQ (λh=>h c0),Int.add_zero]
  ·have hp:0<(zg V).length:=List.length_pos_iff.2 c0;refine xn omQ (qX ?_);have:=K.start;refine xJ omQ ?_;refine hj _ _ ⟨?_,rfl⟩;rw[hNn,iJ c0];rfl
 rintro _ _ ⟨rfl,rfl⟩;dsimp only;have hstamp:y.stamp=N.n:=E.stamp;clear hj0 hjW hm st hcN;refine qV ?_
 try dsimp only
 refine qs H18 e_6 ?_;refine qz rfl (qR ?_);refine jA (i:=0) (H18.sl e_6) (x:=.int .u64 0) rfl ?_;refine qz rfl (qC (qR ?_));obtain⟨q,Hq⟩:=AttC.E H18;refine zG od (qQe omQ Hq .here) ?_;rintro _ _ ⟨rfl,rfl⟩;refine qQ (qG H18 (b:=b3) e_2 (x:=.int .i64 V.kind) rfl ?_);refine qz hE (qC (qR ?_));refine zG od (qzd omQ Hq .here) ?_;rintro _ _ ⟨rfl,rfl⟩;refine qQ (qG H18 (b:=b3) e_2 (x:=.int .i64 V.err) rfl ?_);refine qz hErr (qC (qR ?_));refine zG od (qZN omQ Oy H18) ?_;rintro _ h19 ⟨rfl,H19⟩;refine qQ (qG H19 (b:=b3) e_2 (x:=.str (KA V)) rfl ?_);rw[hS];refine qYh (qC (qR ?_));refine zG od (qJ8 omQ Oy H19) ?_;intro cv2 h20 H20;rw[hC]at H20;refine qQ (qG H20 (b:=b3) e_3 (x:=cv) rfl ?_);have hcl:(zg V).length<1000:=by
  have h1:=Xl Oy.good.ok;rw[Elv]at h1;unfold zg
  split
  ·omega
  ·simp
 refine zG od (qKP omQ (H20.sl .here) (H20.sl (v:=cv) (xs:=(zg V).flatMap jU) e_4) omQ) ?_;rintro _ _ ⟨rfl,rfl⟩;rw[iG rfl];refine qC (qR ?_);refine zG od (qXd omQ Oy H20.drop) ?_;rintro fv2 h21 ⟨e4,H21⟩;rw[hF]at H21;refine qQ (qG H21 (b:=b3) e_3 (x:=fv) rfl ?_);have hfl:(vX V).length<100000:=by
  have h1:=Oy.fr;rw[Elv]at h1;have h2:=qXO V.v.lv;unfold vX
  split
  ·omega
  ·simp
 refine zG od (qWp omQ (H21.sl .here) (H21.sl (v:=fv) (xs:=(vX V).map (.int .i64)) e_5) omQ) ?_;rintro _ _ ⟨rfl,rfl⟩;rw[iG rfl];refine qC (qR ?_);have hNl2:N.w.length≤256:=by have:=E.calm.w;have:=O.words;omega
 refine zG od (Up omQ omQ (H21.sel (P:=MemC p S N) e_2)) ?_;intro nv h22 H22;refine qQ (qG H22 (b:=b3) e_4 (x:=av) rfl ?_);refine zG od (qVf omQ (H22.sl .here) (H22.sl (v:=av) (xs:=(xu M.w (zg V)).map (.int .u64)) e_7) omQ) ?_;rintro _ _ ⟨rfl,rfl⟩;rw[iG hNw];refine qC (qR ?_);obtain⟨q2,Hq2⟩:=AttC.E (H22.sel (P:=AttC a y) e_3);refine zG od (qZo omQ Hq2 .here) ?_;rintro _ _ ⟨rfl,rfl⟩;refine qz hstamp (qC (qR ?_));refine zG od (qqh omQ (H22.sel (P:=MemC p S N) e_1)) ?_;rintro _ _ ⟨rfl,rfl⟩;refine qz rfl (qC ?_);refine qp H21 e_3 rfl H22 e_4 rfl (HS.lt H18 e_2) ?_;refine qp H20 e_3 rfl H21 e_3 rfl (HS.lt H18 e_2) ?_;refine qp H19 e_2 rfl H20 e_3 rfl (HS.lt H18 e_2) ?_;refine qp H18 e_2 rfl H19 e_2 rfl (HS.lt H18 e_2) ?_;refine qp H18 e_2 rfl H18 e_2 rfl (HS.lt H18 e_2) ?_;refine qp H18 e_2 rfl H18 e_2 rfl (HS.lt H18 e_2) ?_;exact qx (qY rfl)
theorem told {h:AH} {l:List AV} (H:WTs Tryz.prog h 8 Tryz.f3.params.toList l):wp ((tD4 S3) (gU 4 (callT tab qj 60)) l h) λv _=>v=.bool true:=by
 have e:Tryz.f3.params.toList=[23,26,27,28]:=by kernel_rfl
 rw[e]at H;obtain⟨a0,a1,a2,a3,rfl,H0,H1,H2,H3⟩:=WTs4 H;simp only[WTV,Tryz.underlying3,Tryz.underlying4,Tryz.underlying5,Tryz.underlying23,Tryz.underlying24,Tryz.underlying26,Tryz.underlying27,Tryz.underlying28,Tryz.underlying95]at H0 H1 H2 H3;obtain⟨ks,S0,hN⟩:=qzH H0;obtain⟨rs,S1,b1⟩:=qQ9 Tryz.underlying27 Tryz.underlying24 (by kernel_rfl) H2;obtain⟨bs,S2,b2⟩:=qQ9 Tryz.underlying28 Tryz.underlying5 (by kernel_rfl) H3;obtain⟨xs,rfl,H1⟩:=H1;unfold WT at H1;simp only[Tryz.underlying26]at H1;obtain⟨g1,g2⟩:=H1;rw[show Tryz.prog.cellsOf 26=7 by kernel_rfl]at g1
 match xs,g1 with
 |[x0,x1,x2,x3,x4,x5,x6],_=>have f0:=g2 _ (iK ..);have f1:=g2 _ (iX _ (iK ..));have f2:=g2 _ (iX _ (iX _ (iK ..)));have f3:=g2 _ (iX _ (iX _ (iX _ (iK ..))));have f4:=g2 _ (iX _ (iX _ (iX _ (iX _ (iK ..)))));have f5:=g2 _ (iX _ (iX _ (iX _ (iX _ (iX _ (iK ..))))));have f6:=g2 _ (iX _ (iX _ (iX _ (iX _ (iX _ (iX _ (iK ..)))))));rw[show Tryz.prog.cellsOf 3=1 by kernel_rfl]at f0 f1 f2 f3 f4 f5;rw[show Tryz.prog.cellsOf 24=1 by kernel_rfl]at f6;simp only[List.drop_succ_cons,List.drop_zero,List.take_succ_cons,List.take_zero]at f0 f1 f2 f3 f4 f5 f6;unfold WT at f0 f1 f2 f3 f4 f5 f6;simp only[Tryz.underlying3]at f0 f1 f2 f3 f4 f5;simp only[Tryz.underlying24]at f6;obtain⟨y0,e0,_⟩:=f0;obtain⟨y1,e1,_⟩:=f1;obtain⟨y2,e2,_⟩:=f2;obtain⟨y3,e3,_⟩:=f3;obtain⟨y4,e4,_⟩:=f4;obtain⟨y5,e5,_⟩:=f5;obtain⟨y6,e6,e6'⟩:=f6;cases e0;cases e1;cases e2;cases e3;cases e4;cases e5;cases e6;exact law omQ S0 hN ⟨e6'.1,Int.lt_of_le_of_lt e6'.2 od⟩ S1 (λz hz=>⟨(b1 z hz).1,Int.lt_of_le_of_lt (b1 z hz).2 od⟩) S2 b2
end Go.Proofs.YtnalffoigcmnnaaGreatDoor.attemptAlone
