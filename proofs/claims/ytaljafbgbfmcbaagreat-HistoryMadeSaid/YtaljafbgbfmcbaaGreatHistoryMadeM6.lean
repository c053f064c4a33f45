/- Lemmas for 'quietus/quietuslaw29.HistoryMade', walks of its functions among them. No condition. -/
import Derived.Test.YtaljafbgbfmcbaaGreatHistoryMadeM5
import Derived.Test.YtaljafbgbfmcbaaGreatHistoryMadeM2
import Derived.Test.YtaljafbgbfmcbaaGreatHistoryMadeM3
namespace Go.Proofs.YtaljafbgbfmcbaaGreat
open Go Go.Ae
set_option maxRecDepth 100000
section
variable {g h:AH} {L R R':List SP}
def A8 (f e b:Int):Prop:=(f=5∧e=0)∨(f=4∧b= -1)
def YF (c:jX):Prop:=(c.p.fin=0∧(c.state=7→A8 c.bn c.fC c.oT))∨(c.p.fin=2∧c.p.err=0∧c.state=6)∨A8 c.p.fin c.p.err c.p.bH
section
variable {c:jX}
theorem qGM (hp:c.p.fin=0) (h:A8 c.bn c.fC c.oT):YF (xK c):=by
 unfold xK
 split
 ·exact .inr (.inr h)
 ·exact .inl ⟨hp,λ_=>h⟩
theorem R5 {f e y:Int} (hp:c.p.fin=0) (h:A8 f e y):YF (zH c f e y):=qGM (c:={ c with bn:=f,fC:=e,oT:=y,at_:=0,state:=7 }) hp h
theorem qvS {l:dz} (hp:c.p.fin=0) (h7:c.state≠7):YF (xq c l):=by
 have hf:(jQ c.p l).2.fin=0:=K6.1.trans hp;unfold xq
 split
 ·exact .inl ⟨hf,λh=>absurd h h7⟩
 ·exact R5 (c:={ c with p:=(jQ c.p l).2 }) hf (.inl ⟨rfl,rfl⟩)
theorem qvd (hp:c.p.fin=0) (h6:c.state=6):YF (zo c):=by
 unfold zo
 split
 ·exact .inr (.inl ⟨rfl,rfl,h6⟩)
 ·exact .inl ⟨hp,λh=>by omega⟩
theorem qWB (hp:c.p.fin=0) (h7:c.state≠7):YF (zV c):=by
 unfold zV
 split
 ·exact qvd hp rfl
 ·exact .inl ⟨hp,λh=>absurd h h7⟩
theorem qQ0 (hp:c.p.fin=0):YF (zf c):=qWB hp (by simp)
theorem qvL (hp:c.p.fin=0):YF (zk c):=.inl ⟨hp,λh=>by
 grind[zk]⟩
theorem qXL:∀(n:Nat) {c:jX},c.p.fin=0→c.state≠7→YF (zv c n):=by
 intro n
 induction n with
 |zero=>intro c hp _;exact qQ0 hp
 |succ n ih=>
  intro c hp h7;unfold zv
  split
  ·split
   ·exact .inl ⟨hp,λh=>absurd h h7⟩
   ·split
    ·exact R5 hp (.inl ⟨rfl,rfl⟩)
    grind
  grind[qQ0]
theorem qjB {a:cB} (E:YF c) (h0:0≤c.state∧c.state≤7) (ha:a.err=0):YF (jV c a):=by
 by_cases hp:c.p.fin=0
 rotate_left
 ·simp_all[jJ,iG,jV]
 have h7:c.state=7→A8 c.bn c.fC c.oT:=by
  rcases E with E |E |E
  all_goals grind[A8]
 rw[zX hp ha]
 repeat' split
 ·unfold yf
  repeat' split
  ·exact qvS hp omQ
  ·exact .inl ⟨hp,λh=>absurd h (by simp)⟩
  ·grind[qvL]
  ·exact .inl ⟨hp,λh=>absurd h (by simp)⟩
 ·unfold yC
  repeat' split
  ·exact R5 hp (.inr ⟨rfl,rfl⟩)
  ·exact .inl ⟨hp,λh=>absurd h (by simp)⟩
  ·exact .inl ⟨hp,λh=>absurd h (by simp)⟩
  ·grind[qQ0]
  ·exact qXL _ hp (by simp)
 ·unfold xe
  repeat' split
  ·exact qvS hp omQ
  ·exact R5 hp (.inl ⟨rfl,rfl⟩)
  ·exact qXL _ hp (by simp)
 ·grind[qWB]
 ·grind[qvd]
 ·exact qGM hp (h7 omQ)
theorem jJN {me sp st:Int} {r:List z6} {cs:List Cl} {a b:Int}:YF (Xz me sp st r cs a b):=qvL rfl
end
def mW (S:SP) (sz n:Nat) (v:AV) (xs:List AV):Prop:=∀(D:Nat→Prop) (h:AH),S.p D h→Sl (λ_=>True) h sz n v xs
theorem mW.rd {S:SP} {sz n:Nat} {v:AV} {xs:List AV} (r:mW S sz n v xs) (s:bB R S R'):Rd g R sz n v xs:=λh H=>by
 obtain⟨D,p⟩:=H.p s;exact r D h p
def bJ (b:Nat) (r:List z6):SP:=.ex λlv=>.all [qv b [.int .i64 16,lv],qC 124 2 r.length lv (r.flatMap vW)]
structure Nq where
  sw:Bool
  bv:AV
  xv:AV
  fv:AV
  ev:AV
  cv:AV
  vb:Nat
  rb:Nat
  kv:Int
  nd:Int
  ph:Int
  en:Int
  ee:Int
  eb:Int
  ou:Int
  er:Int
  bH:Int
  sp:Int
def xV (x:q9) (q:Nq):List AV:=[.int .i64 x.me,.int .i64 q.sp,.int .i64 q.en,.int .i64 q.ee,.int .i64 q.eb,.int .i64 x.set.words,.int .i64 x.set.ae,.int .i64 x.set.wide,.int .i64 x.set.ad,.int .u64 x.set.start,.int .i64 x.set.spins,.int .i64 x.set.writes,.int .i64 x.set.fuel,
 .bool q.sw,q.bv,.int .i64 q.kv,.ptr q.vb 0,q.xv,.ptr q.rb 0,.int .i64 q.ph,q.fv,q.ev,q.cv,.int .u64 x.aI,.int .u64 x.aa,.bool x.begun,.bool x.aL,.int .i64 q.nd,.int .i64 q.ou,.int .i64 q.er,.int .i64 q.bH]
def uu (st:Int):Int:=if st≤4 then st else st-1
structure ge (x:q9) (q:Nq):Prop where
  en:q.en=jf x∧q.ee=vU x∧q.eb=kL x
  ph:q.ph=uu x.state
  nd:3≤x.state→x.state≤4→q.nd=x.v.aB
  ou:x.state=7→q.ou=x.fin∧q.er=x.err∧q.bH=x.bH
  fa:x.state=3→x.f.at_=x.v.aB∧x.f.p.fin=0
  ef:x.state=4∨x.state=5→x.e.p.fin=0∧(x.e.aU=false→x.e.at_=0)
  cf:x.state=6→∀c,x.c=some c→c.p.fin=0
  fin:7≤x.state→x.fin=2∨x.fin=3∨x.fin=4∨x.fin=5
  bl:x.state≤5→(x.aL=true↔x.state=5)
  be:x.state=2→x.aI=x.aa
  bg:x.state≤1→x.begun=false
def bc (S:SP) (vb:Nat) (j:Xn) (xv bv:AV) (sw:Bool) (kv:Int):SP:=match j with
 | .prog p=>.ex λz:Nat×AV×Int=>.all [.fk (xv=.ptr z.1 0∧sw=false∧mW S 5 p.l.length z.2.1 (p.l.flatMap ju)∧(p.fin=0→z.2.2=0∨z.2.2=1)∧JO p.s),aG z.1 vb z.2.1 (qT p.l) p.s z.2.2 p.err p.left]
 | .ay bs k=>.all [.fk (sw=true∧kv=(k:Int)),qC 3 1 bs.length bv (bs.map (.int .i64))]
def aV (st:Int) (f:QE) (e:wc) (c:Option jX) (fv ev cv:AV):SP:=match c with
 |some c=>.ex λb:Nat=>.all [.fk (cv=.ptr b 0∧YF c),bT b c]
 |none=>
  if st=3 then .ex λb:Nat=>.all [.fk (cv=.aW∧fv=.ptr b 0),bP b f]
  else if st=4∨st=5 then .ex λb:Nat=>.all [.fk (cv=.aW∧ev=.ptr b 0),cm b e]
  else .fk (cv=.aW)
abbrev gK (S:SP) (a:Nat) (x:q9) (q:Nq) (R:List SP):List SP:=qv a (xV x q)::bc S q.vb x.aD q.xv q.bv q.sw q.kv::aR q.vb x.v::bJ q.rb x.r::aV x.state x.f x.e x.c q.fv q.ev q.cv::R
def aS (S:SP) (a:Nat) (x:q9):SP:=.ex λq:Nq=>.all (.fk (ge x q)::gK S a x q [])
section
variable {n a b:Nat} {x:q9} {q:Nq} {S:SP} {r:List z6}
theorem aS.E (H:HS g h (aS S a x::R)):∃q,ge x q∧HS g h (gK S a x q R):=by obtain⟨q,H⟩:=H.iq;obtain⟨r,H⟩:=H.cE.dT;exact⟨q,r,H⟩
theorem aS.I (r:ge x q) (H:HS g h (gK S a x q R)):HS g h (aS S a x::R):=HS.iO q (HS.allI (A:=.fk (ge x q)::gK S a x q []) (HS.dU r H))
theorem bJ.E (H:HS g h (bJ b r::R)):∃lv,HS g h (qv b [.int .i64 16,lv]::qC 124 2 r.length lv (r.flatMap vW)::R):=by obtain⟨lv,H⟩:=H.iq;exact⟨lv,H.cE⟩
theorem bJ.I {lv:AV} (H:HS g h (qv b [.int .i64 16,lv]::qC 124 2 r.length lv (r.flatMap vW)::R)):HS g h (bJ b r::R):=HS.iO lv H.allI
section
variable {vb k:Nat} {p:I4} {xv bv:AV} {sw:Bool} {kv:Int} {bs:List Int}
theorem bc.P (H:HS g h (bc S vb (.prog p) xv bv sw kv::R)):∃y sv kd,(xv=.ptr y 0∧sw=false∧mW S 5 p.l.length sv (p.l.flatMap ju)∧(p.fin=0→kd=0∨kd=1)∧JO p.s)∧HS g h (aG y vb sv (qT p.l) p.s kd p.err p.left::R):=by obtain⟨z,H⟩:=(show HS g h (.ex (λz:Nat×AV×Int=>SP.all [.fk (xv=.ptr z.1 0∧sw=false∧mW S 5 p.l.length z.2.1 (p.l.flatMap ju)∧(p.fin=0→z.2.2=0∨z.2.2=1)∧JO p.s),aG z.1 vb z.2.1 (qT p.l) p.s z.2.2 p.err p.left])::R)from H).iq;exact⟨z.1,z.2.1,z.2.2,H.cE.dT⟩
theorem bc.PI {y:Nat} {sv:AV} {kd:Int} (e:xv=.ptr y 0∧sw=false∧mW S 5 p.l.length sv (p.l.flatMap ju)∧(p.fin=0→kd=0∨kd=1)∧JO p.s) (H:HS g h (aG y vb sv (qT p.l) p.s kd p.err p.left::R)):HS g h (bc S vb (.prog p) xv bv sw kv::R) :=
 show HS g h (.ex (λz:Nat×AV×Int=>SP.all [.fk (xv=.ptr z.1 0∧sw=false∧mW S 5 p.l.length z.2.1 (p.l.flatMap ju)∧(p.fin=0→z.2.2=0∨z.2.2=1)∧JO p.s),aG z.1 vb z.2.1 (qT p.l) p.s z.2.2 p.err p.left])::R)from
  HS.iO (y,sv,kd) (HS.allI (A:=[_,_]) (HS.dU e H))
theorem bc.W (H:HS g h (bc S vb (.ay bs k) xv bv sw kv::R)):(sw=true∧kv=(k:Int))∧HS g h (qC 3 1 bs.length bv (bs.map (.int .i64))::R) :=
 ((show HS g h (SP.all [.fk (sw=true∧kv=(k:Int)),qC 3 1 bs.length bv (bs.map (.int .i64))]::R)from H).cE).dT
theorem bc.SI (e:sw=true∧kv=(k:Int)) (H:HS g h (qC 3 1 bs.length bv (bs.map (.int .i64))::R)):HS g h (bc S vb (.ay bs k) xv bv sw kv::R) :=
 show HS g h (SP.all [.fk (sw=true∧kv=(k:Int)),qC 3 1 bs.length bv (bs.map (.int .i64))]::R)from HS.allI (A:=[_,_]) (HS.dU e H)
end
section
variable {st:Int} {f:QE} {e:wc} {c:Option jX} {fv ev cv:AV}
theorem aV.A9 (bK:st=3) (hc:c=none) (q:cv=.aW∧fv=.ptr b 0) (H:HS g h (bP b f::R)):HS g h (aV st f e c fv ev cv::R):=by subst bK;subst hc;show HS g h (.ex (λb':Nat=>SP.all [.fk (cv=.aW∧fv=.ptr b' 0),bP b' f])::R);exact HS.iO b (HS.allI (A:=[_,_]) (HS.dU q H))
theorem aV.LN (bK:st=3) (hc:c=none) (H:HS g h (aV st f e c fv ev cv::R)):∃b,(cv=.aW∧fv=.ptr b 0)∧HS g h (bP b f::R):=by subst bK;subst hc;obtain⟨b,H⟩:=(show HS g h (.ex (λb':Nat=>SP.all [.fk (cv=.aW∧fv=.ptr b' 0),bP b' f])::R)from H).iq;exact⟨b,H.cE.dT⟩
theorem aV.Ba (bK:st=4∨st=5) (hc:c=none) (q:cv=.aW∧ev=.ptr b 0) (H:HS g h (cm b e::R)):HS g h (aV st f e c fv ev cv::R):=by subst hc;unfold aV;dsimp only;rw[iQ omQ,iJ bK];exact HS.iO b (HS.allI (A:=[_,_]) (HS.dU q H))
theorem aV.LO (bK:st=4∨st=5) (hc:c=none) (H:HS g h (aV st f e c fv ev cv::R)):∃b,(cv=.aW∧ev=.ptr b 0)∧HS g h (cm b e::R):=by subst hc;unfold aV at H;dsimp only at H;rw[iQ omQ,iJ bK]at H;obtain⟨b,H⟩:=H.iq;exact⟨b,H.cE.dT⟩
theorem aV.uv (bK:st≠3∧st≠4∧st≠5) (hc:c=none) (q:cv=.aW) (H:HS g h R):HS g h (aV st f e c fv ev cv::R):=by simp_all[aV,omQ,HS.dU]
theorem aV.LQ (hc:c=none) (H:HS g h (aV st f e c fv ev cv::R)):cv=.aW∧HS g h R:=by
 subst hc;unfold aV at H;dsimp only at H
 split at H
 ·obtain⟨b,H⟩:=H.iq;have H:=H.cE;exact⟨H.dT.1.1,H.drop.drop⟩
 ·split at H
  ·obtain⟨b,H⟩:=H.iq;have H:=H.cE;exact⟨H.dT.1.1,H.drop.drop⟩
  ·exact H.dT
theorem aV.uw {d:jX} (hc:c=some d) (q:cv=.ptr b 0∧YF d) (H:HS g h (bT b d::R)):HS g h (aV st f e c fv ev cv::R):=by subst hc;show HS g h (.ex (λb':Nat=>SP.all [.fk (cv=.ptr b' 0∧YF d),bT b' d])::R);exact HS.iO b (HS.allI (A:=[_,_]) (HS.dU q H))
theorem aV.Bb {d:jX} (hc:c=some d) (H:HS g h (aV st f e c fv ev cv::R)):∃b,(cv=.ptr b 0∧YF d)∧HS g h (bT b d::R):=by subst hc;obtain⟨b,H⟩:=(show HS g h (.ex (λb':Nat=>SP.all [.fk (cv=.ptr b' 0∧YF d),bT b' d])::R)from H).iq;exact⟨b,H.cE.dT⟩
theorem aV.out {st':Int} (h':st'=7∨st'=8) (H:HS g h (aV st f e c fv ev cv::R)):HS g h (aV st' f e c fv ev cv::R):=by
 cases c with
 |none=>obtain⟨q,H⟩:=aV.LQ rfl H;exact aV.uv omQ rfl q H
 |some d=>trivial
end
theorem gB {f e y:Int} (hn:1≤n) (H:HS g h (qv a (xV x q)::R)):ba n 62 [.ptr a 0,.int .i64 f,.int .i64 e,.int .i64 y] h λ_ h'=>HS g h' (qv a (xV x { q with ph:=6,ou:=f,er:=e,bH:=y })::R):=by
 refine tH (S:=S62) rfl omQ λk hk=>?_;unfold S62;try simp only[iZ]
 refine qX (qQ (qx H (b:=a) .here ⟨rfl,rfl⟩ (by simp[xV]) λh1 H1=>?_));refine qX (qQ (qx H1 (b:=a) .here ⟨rfl,rfl⟩ (by simp[xV]) λh2 H2=>?_));refine qX (qQ (qx H2 (b:=a) .here ⟨rfl,rfl⟩ (by simp[xV]) λh3 H3=>?_));exact qX (qQ (qx H3 (b:=a) .here ⟨rfl,rfl⟩ (by simp[xV]) λh4 H4=>qq H4))
theorem OS {p:Int} (hn:4≤n) (hp:p<4611686018427387904) (hq:q.nd=p) (H:HS g h (qv a (xV x q)::R)):ba n 77 [.ptr a 0] h λ_ h'=>
  ∃b,HS g h' (bP b (Xi x p).f::qv a (xV x { q with ph:=3,fv:=.ptr b 0 })::R):=by
 refine bw (S:=S77) rfl omQ λk hk=>?_;unfold S77;try simp only[iZ]
 refine qX (qQ (qI (qo H (b:=a) .here rfl omQ (l:=yB x.set) rfl ?_)));refine qh H rfl λc h1 H1=>?_;refine zq H1 (b:=c) .here rfl (by simp) rfl λh2 H2=>?_;have H2:HS g h2 (qv c (yB x.set)::qv a (xV x q)::R):=H2;refine qX (qQ (qx H2 (b:=a) e_1 ⟨rfl,rfl⟩ (by simp[xV]) λh3 H3=>?_));have H3:HS g h3 (qv a (xV x { q with ph:=3 })::qv c (yB x.set)::R):=H3;clear H H1 H2;refine qG ?_
 try dsimp only
 refine qX (qQ (qI (qZ H3 (b:=a) .here rfl ?_)));refine qX (qQ (qZ H3 (b:=a) .here (x:=.int .i64 p) (by rw[← hq];rfl) ?_));refine qX (qQ (qZ H3 (b:=a) .here (x:=.int .i64 p) (by rw[← hq];rfl) ?_));refine qQ (qZ H3 (b:=c) e_1 rfl ?_);refine qQ (qZ H3 (b:=c) e_1 rfl ?_);refine qY (qgL omQ hp) ?_;rintro _ _ ⟨rfl,rfl⟩;refine qX (qQ (qI (qZ H3 (b:=a) .here rfl ?_)));refine qX (qQ (qZ H3 (b:=a) .here rfl ?_));refine qY (qKi omQ H3) ?_;rintro _ h4 ⟨b,rfl,H4⟩;refine qX (qQ ?_);refine qx H4 (b:=a) e_1 (x:=.ptr b 0) ⟨rfl,rfl⟩ (by simp[xV]) λh5 H5=>?_;refine jU H3 .here rfl H3 .here rfl (HS.lt H3 .here) ?_;refine jU H3 .here rfl H3 .here rfl (HS.lt H3 .here) ?_;refine jU H3 .here (x:=.int .i64 p) (by rw[← hq];rfl) H3 .here (by rw[← hq];rfl) (HS.lt H3 .here) ?_;refine jU H3 .here rfl H3 .here rfl (HS.lt H3 .here) ?_;exact qq ⟨b,H5.sub (.cons e_1 (.cons .here (.drop .refl)))⟩
theorem M8 (hn:4≤n) (hr:x.r.length≤16) (H:HS g h (qv a (xV x q)::bJ q.rb x.r::R)):ba n 78 [.ptr a 0] h λ_ h'=>
  ∃b,HS g h' (cm b (BZ x.me x.set.spins x.r)::qv a (xV x { q with ph:=4,ev:=.ptr b 0 })::bJ q.rb x.r::R):=by
 refine bw (S:=S78) rfl omQ λk hk=>?_;unfold S78;try simp only[iZ]
 refine qX (qQ (qI (qZ H (b:=a) .here rfl ?_)));refine qX (qQ (qI (qZ H (b:=a) .here rfl ?_)));refine qX (qQ (qZ H (b:=a) .here rfl ?_));obtain⟨lv,H1⟩:=bJ.E (H.aJ e_1);refine qX (qQ (qZ H1 (b:=q.rb) .here rfl ?_));refine qY (qVm (me:=x.me) (spins:=x.set.spins) (r:=x.r) omQ omQ H1 e_1) ?_;rintro _ h2 ⟨b,rfl,H2⟩;refine qX (qQ (qx H2 (b:=a) e_3 ⟨rfl,rfl⟩ (by simp[xV]) λh3 H3=>?_));refine qX (qQ (qx H3 (b:=a) .here (x:=.ptr b 0) ⟨rfl,rfl⟩ (by simp[xV]) λh4 H4=>qq ⟨b,?_⟩));exact(bJ.I (lv:=lv) (H4.sub (.cons e_2 (.cons e_2 (.cons .here (.cons .here .refl)))))).sub (.cons e_2 (.cons e_1 (.cons .here .refl)))
theorem qVs {S:SP} (hn:6≤n) (hr:x.r.length≤16) (hg:zj x.v) (hf:bE x.v.lv<9000) (hc:x.c=none) (iL:q.cv=.aW) (dZ:q.en=0∧q.ee=0∧q.eb= -1)
  (H:HS g h (qv a (xV x q)::bc S q.vb x.aD q.xv q.bv q.sw q.kv::aR q.vb x.v::bJ q.rb x.r::R)):ba n 79 [.ptr a 0] h λ_ h'=>
  HS g h' (aS S a (if jP x.v.lv=[]then z4 x 2 0 (-1)else{ x with state:=6,c:=some (Xz x.me x.set.spins x.aa x.r (jP x.v.lv) x.set.ae x.set.wide) })::R):=by
 refine bw (S:=S79) rfl omQ λk hk=>?_;unfold S79;try simp only[iZ]
 have EB:=Ke hg.ok;refine qX (qQ (qZ H (b:=a) .here rfl ?_));obtain⟨kv,lq,H1⟩:=aR.E (H.aJ e_2);refine qX (qQ (qZ H1 (b:=q.vb) .here rfl ?_));refine qY (KJ omQ (H1.aJ (P:=cF lq x.v.most x.v.lv) e_2) hg.ok.lR omQ) ?_;rintro _ h2 ⟨cv,fv,rfl,H2⟩;have H2:=(aR.I (o:=q.vb) (M:=x.v) (kv:=kv) (q:=lq) (H2.sub (.cons e_3 (.cons e_3 (.cons e_2 (.cons .here (.cons e_1 (.cons .here .refl)))))))).sub (L':=aR q.vb x.v::qC 63 2 (jP x.v.lv).length cv ((jP x.v.lv).flatMap jH)::qv a (xV x q)::bc S q.vb x.aD q.xv q.bv q.sw q.kv::bJ q.rb x.r::R) (.cons .here (.cons .here (.cons .here (.drop .refl))));clear H H1;refine MQ rfl ?_;refine qr H2 (n:=(jP x.v.lv).length) (v:=cv) e_1 ?_;by_cases c5:jP x.v.lv=[]
 ·rw[iJ c5];refine qk (by grind) (qK ?_);refine qY (gB omQ (H2.aJ e_2)) λ_ h3 H3=>qq ?_;refine aS.I (q:={ q with ph:=6,ou:=2,er:=0,bH:=-1 }) ⟨dZ,rfl,λ_ h=>absurd h (by nofun),λ_=>⟨rfl,rfl,rfl⟩,λh=>(by cases h),λh=>(by rcases h with h |h<;>cases h),λh=>(by cases h),λ_=>.inl rfl,λh=>absurd h (by nofun),λh=>(by cases h),λh=>absurd h (by nofun)⟩ ?_;have H4:=aV.uv (st:=7) (f:=x.f) (e:=x.e) (c:=x.c) (fv:=q.fv) (ev:=q.ev) (cv:=q.cv) od hc iL H3;exact H4.sub (.cons e_1 (.cons e_3 (.cons e_1 (.cons e_2 (.cons .here (.drop .refl))))))
 rw[iQ c5];have pz:0<(jP x.v.lv).length:=List.length_pos_iff.2 c5;refine qW omQ (qJ ?_);refine qX (qQ (qI (qo H2 (b:=a) e_2 rfl omQ (l:=yB x.set) rfl ?_)));refine qh H2 rfl λc h3 H3=>?_;refine zq H3 (b:=c) .here rfl (by simp) rfl λh4 H4=>?_;have H4:HS g h4 (qv c (yB x.set)::aR q.vb x.v::qC 63 2 (jP x.v.lv).length cv ((jP x.v.lv).flatMap jH)::qv a (xV x q)::bc S q.vb x.aD q.xv q.bv q.sw q.kv::bJ q.rb x.r::R):=H4;clear H2 H3;refine qX (qQ (qI (qZ H4 (b:=a) e_3 rfl ?_)));refine qX (qQ (qI (qZ H4 (b:=a) e_3 rfl ?_)));refine qX (qQ (qZ H4 (b:=a) e_3 rfl ?_));refine qX (qQ (qZ H4 (b:=a) e_3 rfl ?_));obtain⟨lv,H5⟩:=bJ.E (H4.aJ (P:=bJ q.rb x.r) e_5);refine qX (qQ (qZ H5 (b:=q.rb) .here rfl ?_));refine qQ (qZ H5 (b:=c) e_2 rfl ?_);refine qQ (qZ H5 (b:=c) e_2 rfl ?_);refine qY (qkf (me:=x.me) (sp:=x.set.spins) (st:=x.aa) (a:=x.set.ae) (w:=x.set.wide) (r:=x.r) (cs:=jP x.v.lv) omQ omQ pz omQ (λc h=>by grind) H5 (H5.rd e_1) (H5.rd e_4) ?_) ?_
 ·obtain⟨d,hd⟩:=List.exists_mem_of_length_pos pz;exact List.length_pos_of_mem ((Jr (n:=x.set.ae) (w:=x.set.wide) λc h=>by grind).2 (List.mem_map.2 ⟨d,hd,rfl⟩))
 rintro _ h6 ⟨b,rfl,H6⟩;refine qX (qQ (qx H6 (b:=a) e_6 ⟨rfl,rfl⟩ (by simp[xV]) λh7 H7=>?_));refine qX (qQ (qx H7 (b:=a) .here (x:=.ptr b 0) ⟨rfl,rfl⟩ (by simp[xV]) λh8 H8=>qq ?_));refine aS.I (q:={ q with ph:=5,cv:=.ptr b 0 }) ⟨dZ,rfl,λ_ h=>absurd h (by simp),λh=>(by grind),λh=>(by grind),λh=>(by grind),λ_ d hd=>(by cases hd;rfl),λh=>absurd h (by simp),λh=>absurd h (by simp),λh=>(by grind),λh=>absurd h (by simp)⟩ ?_;have H9:=aV.uw (st:=6) (f:=x.f) (e:=x.e) (fv:=q.fv) (ev:=q.ev) (c:=some (Xz x.me x.set.spins x.aa x.r (jP x.v.lv) x.set.ae x.set.wide)) rfl ⟨rfl,jJN⟩ (H8.aJ e_1);have dC:=bJ.I (lv:=lv) (H9.sub (.cons e_2 (.cons e_2 (.cons .here (.cons .here .refl)))));exact dC.sub (.cons e_2 (.cons e_5 (.cons e_3 (.cons .here (.cons .here (.drop (.drop .refl)))))))
end
end
section
variable {g h:AH} {L R R':List SP}
section
variable {n a b:Nat} {x:q9} {q:Nq} {S:SP} {r:List z6}
theorem OH (hn:2≤n) (H:HS g h R):ba n 74 [.int .i64 ((16:Nat):Int)] h λv h'=>∃b,v=.ptr b 0∧HS g h' (bJ b []::R):=by
 refine bw (S:=S74) rfl omQ λk hk=>?_;unfold S74;try simp only[iZ]
 refine qY (vm omQ omQ) ?_;rintro _ _ ⟨rfl,rfl⟩;refine qA (l:=[.int .i64 16,.aj]) rfl ?_;refine qh H rfl λb h1 H1=>qq ⟨b,rfl,bJ.I (lv:=.aj) ?_⟩;exact(H1.aj (e:=124) (sz:=2)).sub (.cons e_1 (.cons .here .refl))
theorem qwc {x:z6} (hn:1≤n) (hr:r.length≤16) (H:HS g h (bJ b r::R)) :
  ba n 81 [.ptr b 0,.agg (vW x)] h λv h'=>v=.int .i64 (gE r x).1∧HS g h' (bJ b (gE r x).2::R):=by
 refine cu (S:=S81) rfl omQ λk hk=>?_;unfold S81;try simp only[iZ]
 generalize hA:gE r x=A;obtain⟨lv,H0⟩:=bJ.E H;refine qh H0 rfl λb0 h1 H1=>?_;have H1:HS g h1 (qv b0 (vW x)::qv b [.int .i64 16,lv]::qC 124 2 r.length lv (r.flatMap vW)::R):=H1;clear H H0;unfold gE at hA;refine qQ (qZ H1 (b:=b0) .here (x:=.int .i64 x.1) rfl ?_);by_cases c1:x.1<0
 ·rw[iJ (.inl c1)]at hA;subst hA;refine jO c1 (qG ?_)
  try dsimp only
  refine ql (qF (qG ?_))
  try dsimp only
  exact ql (qF (qK (qq ⟨rfl,bJ.I H1.drop⟩)))
 refine jM c1 (qG ?_)
 try dsimp only
 refine qP (qQ (qZ H1 (b:=b0) .here (x:=.int .i64 x.1) rfl ?_));by_cases c2:16≤x.1
 ·rw[iJ (.inr (.inl c2))]at hA;subst hA;refine zK c2 (qy (qG ?_))
  try dsimp only
  exact ql (qF (qK (qq ⟨rfl,bJ.I H1.drop⟩)))
 refine jt c2 (qy (qG ?_))
 try dsimp only
 refine qP (qQ (qZ H1 (b:=b0) .here (x:=.int .u64 x.2) rfl ?_));by_cases c3:4611686018427387904≤x.2
 ·rw[iJ (.inr (.inr c3))]at hA;subst hA;exact zK c3 (qy (qK (qq ⟨rfl,bJ.I H1.drop⟩)))
 refine jt c3 (qy (qJ ?_));rw[iQ omQ]at hA;refine jB (λm s h'=>∃i:Nat,s=(.int .i64 (i:Int),.ptr b0 0,.ptr b 0,())∧i≤r.length∧m=r.length-i∧(∀z∈r.take i,z.1≠x.1)∧h'=h1)
  ?_ (m:=r.length) (by grind) ⟨0,rfl,by omega,by rfl,by simp,rfl⟩
 rintro m ih s h2 bj ⟨i,rfl,hi,rfl,hb,rfl⟩;dsimp only;refine qX (qQ (qZ H1 (b:=b) e_1 (x:=lv) rfl ?_));refine qr H1 (n:=r.length) (v:=lv) e_2 ?_;by_cases ap:i<r.length
 ·refine jO omQ (qK ?_);have hg:r[i]? =some (zW r i):=by unfold zW;grind
  have hf:=JQ ap;refine qX (qQ (qZ H1 (b:=b) e_1 (x:=lv) rfl ?_));refine jn (H1.sl (v:=lv) (xs:=r.flatMap vW) e_2) omQ ap hf.1 ?_;refine qQ (qZ H1 (b:=b0) .here (x:=.int .i64 x.1) rfl ?_);by_cases hy:(zW r i).1=x.1
  ·rw[qyt hb hg hy]at hA;dsimp only at hA;refine qk hy (qG ?_)
   try dsimp only
   refine qf (qX (qQ (qZ H1 (b:=b) e_1 (x:=lv) rfl ?_)));refine jn (H1.sl (v:=lv) (xs:=r.flatMap vW) e_2) omQ ap hf.2 ?_;refine qQ (qZ H1 (b:=b0) .here (x:=.int .u64 x.2) rfl ?_);by_cases hv:(zW r i).2=x.2
   ·rw[iQ (λh=>h hv)]at hA;subst hA;exact qk hv (qF (qK (qj (qq ⟨rfl,bJ.I H1.drop⟩))))
   ·rw[iJ hv]at hA;subst hA;refine qW hv (qF (qJ ?_));refine qX (qQ (qZ H1 (b:=b) e_1 (x:=lv) rfl ?_));refine jn (H1.sl (v:=lv) (xs:=r.flatMap vW) e_2) omQ ap hf.1 ?_;refine qQ (qZ H1 (b:=b0) .here (x:=.int .i64 x.1) rfl ?_);exact qk hy (qK (qj (qq ⟨rfl,bJ.I H1.drop⟩)))
  ·refine qW hy (qG ?_)
   try dsimp only
   refine qe (qy (qJ ?_));refine qX (qQ (qZ H1 (b:=b) e_1 (x:=lv) rfl ?_));refine jn (H1.sl (v:=lv) (xs:=r.flatMap vW) e_2) omQ ap hf.1 ?_;refine qQ (qZ H1 (b:=b0) .here (x:=.int .i64 x.1) rfl ?_);refine qW hy (qJ ?_);refine qE omQ ?_;refine bj (r.length-(i+1)) _ _ omQ ⟨i+1,rfl,by omega,rfl,λz hz=>?_,rfl⟩;grind[List.take_add_one,Option.toList_some,List.mem_singleton]
 ·obtain rfl:i=r.length:=by omega
  have hnf:(r.find? λy=>decide (y.1=x.1))=none:=List.find?_eq_none.2 λz hz=>by
   grind
  rw[hnf]at hA;dsimp only at hA;refine jM omQ (qJ ?_);refine qX (qQ (qZ H1 (b:=b) e_1 (x:=lv) rfl ?_));refine qr H1 (n:=r.length) (v:=lv) e_2 ?_;refine qX (qQ (qZ H1 (b:=b) e_1 (x:=.int .i64 16) rfl ?_));by_cases c4:r.length=16
  ·rw[iJ c4]at hA;subst hA;exact zK omQ (qK (qj (qq ⟨rfl,bJ.I H1.drop⟩)))
  ·rw[iQ c4]at hA;subst hA;refine jt omQ (qJ ?_);refine qX (qQ (qZ H1 (b:=b) e_1 (x:=lv) rfl ?_));refine qo H1 (b:=b0) (off:=0) .here rfl omQ (l:=vW x) rfl ?_;refine jY (n:=1) (l:=vW x) (sz:=2) H1 rfl rfl rfl rfl λv2 h5 H5=>?_;refine zA (H5.aJ (P:=qC 124 2 r.length lv (r.flatMap vW)) e_3) (H5.sl .here) omQ omQ rfl λv3 h6 H6=>?_;have o6:=H6.one .here;refine qX (qQ (qx H6 (b:=b) e_3 o6 aM λh7 H7=>qj (qq ⟨rfl,bJ.I (lv:=v3) ?_⟩)));rw[List.length_append,List.flatMap_append];exact H7.sub (.cons .here (.cons .here (.drop (.drop .refl))))
theorem qZ9 {x:wc} {a:cB} (hn:2≤n) (hf:x.p.fin=0) (ha:a.err=0) (h0:x.aU=false→x.at_=0) (O:Ns x) (H:HS g h (cm b x::R)):ba n 58 [.ptr b 0,.agg (zY a)] h λ_ h'=>HS g h' (cm b (zS x a)::R):=by
 refine cu (S:=S58) rfl omQ λk hk=>?_;unfold S58;try simp only[iZ]
 obtain⟨sp,at_,sv,Q,q,H0⟩:=cm.E H;have q0:=q hf;obtain⟨p1,p2,p3⟩:=Q hf;subst p1;have hlen:=O.len;have fh:=O.lo;have dY:=O.mH hf;refine qh H0 rfl λb0 h1 H1=>?_;have H1:HS g h1 (qv b0 (zY a)::qv b (gL x x.p.spins at_ sv)::qC 124 2 x.seen.length sv (x.seen.flatMap vW)::R):=H1;clear H H0;refine qX (qQ (qI (qZ H1 (b:=b) e_1 (x:=.int .i64 x.p.fin) rfl ?_)));refine jR hf (qG ?_)
 try dsimp only
 refine qP (qX (qQ ?_));refine qo H1 (b:=b0) (off:=0) .here rfl omQ (l:=zY a) rfl ?_;refine qY (GZ (p:=x.p) (sp:=x.p.spins) (ys:=(gL x x.p.spins at_ sv).drop 5) (a:=a) omQ hf Q (H1.aJ (P:=qv b (gL x x.p.spins at_ sv)) e_1)) ?_;have e0:jJ x.p a=(false,x.p):=by
  simp_all[jJ,iV]
 rw[e0];rintro _ h2 ⟨fL,rfl,Q',H2⟩;obtain⟨q1,_,_⟩:=Q' hf;have q1:fL=x.p.spins:=q1;subst q1;have H2:HS g h2 (qv b (gL x x.p.spins at_ sv)::qv b0 (zY a)::qC 124 2 x.seen.length sv (x.seen.flatMap vW)::R):=H2;clear H1;refine qy (qJ ?_);generalize hF:zS x a=F;unfold zS at hF;rw[e0,iQ (λh=>by grind)]at hF;refine jc [] (λz h'=>z=(.ptr b 0,())∧∃(y:wc) (at_:Int),Qg y=F∧y.p=x.p∧y.seen=x.seen∧y.aU=true∧y.at_=at_+1∧ -1≤at_∧at_<1000∧HS g h' (qv b (gL y x.p.spins at_ sv)::qv b0 (zY a)::qC 124 2 x.seen.length sv (x.seen.flatMap vW)::R)) (λj hj=>?_) ?_
 rotate_left
 ·rintro _ h3 ⟨rfl,y,Bc,e1,e2,e3,e4,e5,a0,a1,H3⟩;dsimp only;refine qX (qQ (qZ H3 (b:=b) .here (x:=.int .i64 Bc) rfl ?_));refine qE omQ ?_;refine qX (qQ (qx H3 (b:=b) .here ⟨rfl,rfl⟩ (by simp[gL,zJ]) λh4 H4=>?_));have H4:HS g h4 (qv b (gL y x.p.spins (Bc+1) sv)::qv b0 (zY a)::qC 124 2 x.seen.length sv (x.seen.flatMap vW)::R):=H4;refine qX (qQ (qZ H4 (b:=b) .here (x:=.int .i64 (Bc+1)) rfl ?_));refine qX (qQ (qZ H4 (b:=b) .here (x:=sv) rfl ?_));refine qr H4 (n:=x.seen.length) (v:=sv) e_2 ?_;unfold Qg at e1;have hc:(y.at_=(y.seen.length:Int))↔(Bc+1=(x.seen.length:Int)):=by grind
  by_cases c:Bc+1=(x.seen.length:Int)
  ·rw[iJ (hc.2 c)]at e1;refine qk c (qK ?_);refine qX (qQ (qI (qx H4 (b:=b) .here (x:=.int .i64 2) ⟨rfl,rfl⟩ (by simp[gL,zJ]) λh5 H5=>qj (qq ?_))));rw[← e1];refine cm.I (sp:=x.p.spins) (at_:=Bc+1) (sv:=sv) (λh=>(by cases h)) (λh=>(by cases h)) ?_;rw[show gL { y with p:=jI y.p 2 0 (-1) } x.p.spins (Bc+1) sv=(gL y x.p.spins (Bc+1) sv).set 2 (.int .i64 2) by grind[gL,zJ,jI]];rw[show({ y with p:=jI y.p 2 0 (-1) }:wc).seen=x.seen from e3];exact H5.sub (.cons .here (.drop .refl))
  ·rw[iQ (λh=>c (hc.1 h))]at e1;refine qW c (qJ (qj (qq ?_)));rw[← e1];refine cm.I (sp:=x.p.spins) (at_:=Bc+1) (sv:=sv) (by grind) (λ_=>by simp_all[Jj]) ?_;rw[e3];exact H4.sub (.cons .here (.drop .refl))
 refine qX (qQ (qZ H2 (b:=b) .here (x:=.int .i64 at_) rfl ?_));cases hl:x.aU with
 |false=>
  have e:at_= -1:=by grind[Jj]
  rw[iJ hl]at hF;refine jO omQ (qK ?_);refine qQ (qZ H2 (b:=b0) e_1 (x:=.int .u64 a.word) rfl ?_);refine qX (qQ (qx H2 (b:=b) .here ⟨rfl,rfl⟩ (by simp[gL,zJ]) λh3 H3=>hj _ _ ⟨rfl,_,at_,hF,rfl,rfl,rfl,?_,by omega,by omega,H3⟩));grind
 |true=>
  have e:at_=x.at_:=by grind[Jj]
  have ap:=dY hl;rw[iQ (by grind)]at hF;refine jM omQ (qJ ?_);refine qQ (qI (qZ H2 (b:=b0) e_1 (x:=.bool a.lk.2.1) rfl ?_));cases hh:a.lk.2.1 with
  |true=>
   rw[iJ hh]at hF;refine qK (qX (qQ ?_));refine qQ (qo H2 (b:=b0) (off:=1) e_1 rfl omQ (l:=yb a.lk) rfl ?_);refine qY (Ui (l:=a.lk) (p:=x.p) (sp:=x.p.spins) (ys:=(gL x x.p.spins at_ sv).drop 5) omQ hf Q (O.p hf) H2) ?_;rintro _ h3 ⟨fL,rfl,Q3,H3⟩;refine qq ?_;by_cases hw:(jQ x.p a.lk).1=true
   ·rw[iJ hw]at Q3 H3 hF;rw[← hF];exact cm.I (x:={ x with p:=(jQ x.p a.lk).2 }) (at_:=at_) (sv:=sv) Q3 (λ_=>q0) (H3.sub (.cons .here (.drop .refl)))
   ·rw[iQ hw]at Q3 H3 hF;rw[← hF];exact cm.I (x:={ x with p:=jI (jQ x.p a.lk).2 5 0 a.lk.2.2 }) (at_:=at_) (sv:=sv) Q3 (λ_=>q0) (H3.sub (.cons .here (.drop .refl)))
  |false=>
   rw[iQ (by grind)]at hF;refine qJ ?_;obtain⟨k,hk⟩:∃k:Nat,x.at_=(k:Int):=⟨x.at_.toNat,by omega⟩;have fR:k<x.seen.length:=by omega
   refine qQ (qI (qZ H2 (b:=b0) e_1 (x:=.int .u64 a.lk.1) rfl ?_));refine qX (qQ (qZ H2 (b:=b) .here (x:=sv) rfl ?_));refine qX (qQ (qZ H2 (b:=b) .here (x:=.int .i64 (k:Int)) (by rw[← hk,← e];rfl) ?_));refine jn (H2.sl (v:=sv) (xs:=x.seen.flatMap vW) e_2) omQ fR (JQ fR).2 ?_;rw[hk]at hF;by_cases hv:a.lk.1=(zW x.seen (k:Int)).2
   ·rw[iQ (λh=>h hv)]at hF;refine jR hv (qJ ?_);refine hj _ _ ⟨rfl,{ x with at_:=(k:Int)+1 },at_,hF,rfl,rfl,hl,by grind,by omega,by omega,?_⟩;exact H2
   ·rw[iJ hv]at hF;refine jb hv (qK ?_);refine qX (qQ (qI (qx H2 (b:=b) .here (x:=.int .i64 5) ⟨rfl,rfl⟩ (by simp[gL,zJ]) λh5 H5=>qq ?_)));rw[← hF];refine cm.I (sp:=x.p.spins) (at_:=at_) (sv:=sv) (λh=>(by cases h)) (λh=>(by cases h)) ?_;rw[show gL { x with p:=jI x.p 5 0 (-1),at_:=(k:Int) } x.p.spins at_ sv=(gL x x.p.spins at_ sv).set 2 (.int .i64 5) by grind[gL,zJ,jI]];exact H5.sub (.cons .here (.drop .refl))
theorem ZX {s:je} (hn:2≤n) (H:HS g h R):ba n 32 [.agg (yB s)] h λv h'=>v=.agg (yB (jT s))∧HS g h' R:=by
 refine bw (S:=S32) rfl omQ λk hk=>?_;unfold S32;try simp only[iZ]
 refine qh H rfl λb0 h1 H1=>?_;refine qh H1 rfl λb1 h2 H2=>?_;clear H H1;have z:∀{x lo hi:Int} {f:Nat} {s:je} {h0:AH} {K:AH→Go.Ae.R} {Q:AV→AH→Prop},lo≤hi→f<5→(yB s)[f]? =some (.int .i64 x)→HS g h0 (qv b0 (yB s)::qv b1 (yB ⟨0,0,0,0,0,0,0,0⟩)::R)→
   (∀h',HS g h' (qv b0 ((yB s).set f (.int .i64 (max lo (min x hi))))::qv b1 (yB ⟨0,0,0,0,0,0,0,0⟩)::R)→wp (K h') Q)→
   wp (qH (.ptr b0 0) f λv=>jK h0 v λv=>xS (callT tab qL k) (.fn 17 [] []) [v,.int .i64 lo,.int .i64 hi] h0 λv h'=>qH (.ptr b0 0) f λw=>jw h' w v 1 K) Q:=λ{x lo hi f s h0 K Q} hl RI hx H w=>by
  refine qQ (qZ H (b:=b0) .here hx ?_);refine qY (vm omQ hl) ?_;rintro _ _ ⟨rfl,rfl⟩;exact qQ (qx H (b:=b0) .here ⟨rfl,rfl⟩ RI w)
 refine z (s:=s) od od rfl (H2.sub (.cons e_1 (.cons .here .refl))) λh3 H3=>?_;refine z (s:={ s with words:=gJ s.words 32 256 }) od od rfl H3 λh4 H4=>?_;refine z (s:={ s with words:=gJ s.words 32 256,ae:=gJ s.ae 1 16 }) od od rfl H4 λh5 H5=>?_;refine z (s:={ s with words:=gJ s.words 32 256,ae:=gJ s.ae 1 16,wide:=gJ s.wide 1 16 }) od od rfl H5 λh6 H6=>?_;clear H2 H3 H4 H5;refine jc [] (λz h'=>z=(.ptr b1 0,.ptr b0 0,())∧HS g h' (qv b0 (yB (jT s))::qv b1 (yB ⟨0,0,0,0,0,0,0,0⟩)::R)) (λj hj=>?_) ?_
 ·refine qQ (qZ H6 (b:=b0) .here (x:=.int .u64 s.start) rfl ?_);by_cases c:4611686018427387904≤s.start
  ·refine zK c (qK ?_);refine qQ (qx H6 (b:=b0) .here (x:=.int .u64 4611686018427387903) ⟨rfl,rfl⟩ (by simp) λh7 H7=>hj _ _ ⟨rfl,?_⟩);unfold yB jT;dsimp only;rw[show min s.start 4611686018427387903=4611686018427387903 by omega];exact H7
  ·refine jt c (qJ (hj _ _ ⟨rfl,?_⟩));unfold yB jT;dsimp only;rw[show min s.start 4611686018427387903=s.start by omega];exact H6
 rintro _ h7 ⟨rfl,H7⟩;dsimp only;refine qo H7 (b:=b0) (off:=0) .here rfl omQ (l:=yB (jT s)) rfl ?_;refine zq H7 (b:=b1) e_1 rfl (by simp) rfl λh8 H8=>qj ?_;exact qo H8 (b:=b1) (off:=0) .here rfl omQ (l:=yB (jT s)) rfl (qq ⟨rfl,H8.drop.drop⟩)
theorem Uk {s:je} (hn:3≤n) (H:HS g h R):ba n 18 [.agg (yO s)] h λv h'=>v=.agg (yO (jT s))∧HS g h' R:=by
 refine bw (S:=S18) rfl omQ λk hk=>?_;unfold S18;try simp only[iZ]
 refine qh H rfl λb0 h1 H1=>?_;refine qh H1 rfl λb1 h2 H2=>?_;have H2:HS g h2 (qv b1 (yO ⟨0,0,0,0,0,0,0,0⟩)::qv b0 (yO s)::R):=H2;clear H H1;refine qQ (qo H2 (b:=b0) (off:=0) e_1 rfl omQ (l:=yB s) rfl ?_);refine qY (ZX omQ H2) ?_;rintro _ h3 ⟨rfl,H3⟩;refine qQ (zq H3 (b:=b0) e_1 rfl (by simp) rfl λh4 H4=>?_);have H4:HS g h4 (qv b0 (yO { jT s with spins:=s.spins,writes:=s.writes,fuel:=s.fuel })::qv b1 (yO ⟨0,0,0,0,0,0,0,0⟩)::R):=H4;refine qQ (qZ H4 (b:=b0) .here (x:=.int .i64 s.spins) rfl ?_);refine qY (vm omQ omQ) ?_;rintro _ _ ⟨rfl,rfl⟩;refine qQ (qx H4 (b:=b0) .here ⟨rfl,rfl⟩ (by simp) λh5 H5=>?_);refine qQ (qZ H5 (b:=b0) .here (x:=.int .i64 s.writes) rfl ?_);refine qY (vm omQ omQ) ?_;rintro _ _ ⟨rfl,rfl⟩;refine qQ (qx H5 (b:=b0) .here ⟨rfl,rfl⟩ (by simp) λh6 H6=>?_);refine qQ (qZ H6 (b:=b0) .here (x:=.int .i64 s.fuel) rfl ?_);refine qY (vm omQ omQ) ?_;rintro _ _ ⟨rfl,rfl⟩;refine qQ (qx H6 (b:=b0) .here ⟨rfl,rfl⟩ (by simp) λh7 H7=>?_);have H7:HS g h7 (qv b0 (yO (jT s))::qv b1 (yO ⟨0,0,0,0,0,0,0,0⟩)::R):=H7;refine qo H7 (b:=b0) (off:=0) .here rfl omQ (l:=yO (jT s)) rfl ?_;refine zq H7 (b:=b1) e_1 rfl (by simp) rfl λh8 H8=>?_;exact qo H8 (b:=b1) (off:=0) .here rfl omQ (l:=yO (jT s)) rfl (qq ⟨rfl,H8.drop.drop⟩)
theorem jQ8 {me:Int} {s:je} {j:Xn} {sw:Bool} {bv xv:AV} {vb rb:Nat}:ge (KK me s j) ⟨sw,bv,xv,.aW,.aW,.aW,vb,rb,0,0,0,0,0,-1,0,0,0,0⟩ :=
 ⟨⟨rfl,rfl,rfl⟩,rfl,λh=>absurd h (by nofun),λh=>(by cases h),λh=>(by cases h),λh=>(by rcases h with h |h<;>cases h),λh=>(by cases h),λh=>absurd h (by nofun),λ_=>⟨λh=>(by cases h),λh=>(by cases h)⟩,λh=>(by rfl),λ_=>rfl⟩
theorem qwI {me:Int} {l:List qO} {sv:AV} {s:je} (hn:7≤n) (hc:(yn l).2=0) (hq:bO l) (r:mW S 5 l.length sv (l.flatMap ju)) (s':bB R S R') (H:HS g h R) :
  ba n 52 [.int .i64 me,.agg (yO s),.agg [sv]] h λv h'=>∃a,v=.ptr a 0∧HS g h' (aS S a (Jm me s l)::R):=by
 refine dV (S:=S52) rfl omQ λk hk=>?_;unfold S52;try simp only[iZ]
 have SR:Rd g R 5 l.length sv (l.flatMap ju):=r.rd s';refine qh H rfl λb0 h1 H1=>?_;refine qh H1 (MC (Zd (SR.sl H))) λb1 h2 H2=>?_;refine qo H2 (b:=b0) (off:=0) e_1 rfl omQ (l:=yO s) rfl ?_;refine qY (Uk omQ H2) ?_;rintro _ h3 ⟨rfl,H3⟩;refine qh H3 rfl λb2 h4 H4=>?_;refine zq H4 (b:=b2) .here rfl (by simp) rfl λh5 H5=>?_;have H5:HS g h5 (qv b2 (yO (jT s))::qv b1 [sv]::qv b0 (yO s)::R):=H5;clear H H1 H2 H3 H4;have eA:Jm me s l=KK me (jT s) (.prog ⟨l,KO,0,0,Xq (jT s).fuel⟩):=rfl;rw[eA];generalize jT s=T at*;refine qQ (qI (qZ H5 (b:=b2) .here rfl ?_));refine qQ (qZ H5 (b:=b2) .here rfl ?_);refine qY (qJR omQ H5) ?_;rintro _ h6 ⟨vb,rfl,H6⟩;refine qG ?_
 try dsimp only
 refine qA (l:=[.int .i64 me,.int .i64 0,.int .i64 0,.int .i64 0,.int .i64 (-1)]) rfl ?_;refine qo H6 (b:=b2) (off:=0) e_1 rfl omQ (l:=yO T) rfl ?_;refine qo H6 (b:=b1) (off:=0) e_2 rfl omQ (l:=[sv]) rfl ?_;refine qQ (qZ H6 (b:=b2) e_1 rfl ?_);refine qY (qvB (o:=vb) (fuel:=T.fuel) omQ (Z6 hc) hq H6 SR.more.more.more.more) ?_;rintro _ h7 ⟨y,rfl,H7⟩;refine qY (OH omQ H7) ?_;rintro _ h8 ⟨rb,rfl,H8⟩;refine qA (l:=xV (KK me T (.prog ⟨l,KO,0,0,Xq T.fuel⟩)) ⟨false,.aj,.ptr y 0,.aW,.aW,.aW,vb,rb,0,0,0,0,0,-1,0,0,0,0⟩) rfl ?_;refine qh H8 rfl λa h9 H9=>?_;refine JZ H7 (b:=b2) e_2 rfl H8 e_3 rfl rfl omQ (HS.lt H6 e_1) ?_;refine JZ H6 (b:=b2) e_1 rfl H7 e_2 rfl rfl omQ (HS.lt H6 e_1) ?_;refine qq ⟨a,rfl,aS.I (q:=⟨false,.aj,.ptr y 0,.aW,.aW,.aW,vb,rb,0,0,0,0,0,-1,0,0,0,0⟩) jQ8 ?_⟩;have dC:=bc.PI (S:=S) (p:=⟨l,KO,0,0,Xq T.fuel⟩) (xv:=.ptr y 0) (bv:=.aj) (sw:=false) (kv:=0) ⟨rfl,rfl,r,λ_=>.inl rfl,λx hx=>(by cases hx)⟩ (H9.aJ (P:=aG y vb sv (qT l) KO 0 0 (Xq T.fuel:Nat)) e_2);have eQ:=aV.uv (st:=0) (f:=EX 0 0 0 0 0) (e:=BZ 0 0 []) (c:=none) (fv:=.aW) (ev:=.aW) (cv:=.aW) od rfl rfl dC;exact eQ.sub (.cons e_2 (.cons e_1 (.cons e_2 (.cons e_1 (.cons .here (.drop (.drop (.drop .refl))))))))
theorem qYP {me:Int} {bs:List Int} {e:TypeId} {sv:AV} {s:je} {R2:List SP} (hn:5≤n) (hb:bs.length≤1000000) (H:HS g h R) (Sb:bB R (qC e 1 bs.length sv (bs.map (.int .i64))) R2) :
  ba n 53 [.int .i64 me,.agg (yO s),sv] h λv h'=>∃a,v=.ptr a 0∧HS g h' (aS S a (QG me s bs)::R):=by
 refine dV (S:=S53) rfl omQ λk hk=>?_;unfold S53;try simp only[iZ]
 refine qh H rfl λb0 h1 H1=>?_;refine qo H1 (b:=b0) (off:=0) .here rfl omQ (l:=yO s) rfl ?_;refine qY (Uk omQ H1) ?_;rintro _ h3 ⟨rfl,H3⟩;refine qh H3 rfl λb2 h4 H4=>?_;refine zq H4 (b:=b2) .here rfl (by simp) rfl λh5 H5=>?_;have H5:HS g h5 (qv b2 (yO (jT s))::qv b0 (yO s)::R):=H5;clear H H1 H3 H4;have eA:QG me s bs=KK me (jT s) (.ay bs 0):=rfl;rw[eA];generalize jT s=T at*;refine qG ?_
 try dsimp only
 refine qA (l:=[.int .i64 me,.int .i64 0,.int .i64 0,.int .i64 0,.int .i64 (-1)]) rfl ?_;refine qo H5 (b:=b2) (off:=0) .here rfl omQ (l:=yO T) rfl ?_;refine QZ H5 (H5.sl (.there (.there Sb))) omQ omQ (jQI (λ_=>rfl) _) λbv h6 H6=>?_;have o6:=H6.one .here;refine qQ (qI (qZ H6 (b:=b2) e_1 rfl ?_));refine qQ (qZ H6 (b:=b2) e_1 rfl ?_);refine qY (qJR omQ H6) ?_;rintro _ h7 ⟨vb,rfl,H7⟩;refine qY (OH omQ H7) ?_;rintro _ h8 ⟨rb,rfl,H8⟩;refine qA (l:=xV (KK me T (.ay bs 0)) ⟨true,bv,.aW,.aW,.aW,.aW,vb,rb,0,0,0,0,0,-1,0,0,0,0⟩) (by simp only[gn,o6.1];rfl) ?_;refine qh H8 (by simp only[xV,jW,List.all_cons,o6.2];rfl) λa h9 H9=>?_;refine jU H5 (b:=b2) .here rfl H6 e_1 rfl (HS.lt H5 .here) ?_;refine jU H5 (b:=b2) .here rfl H6 e_1 rfl (HS.lt H5 .here) ?_;refine JZ H7 (b:=b2) e_2 rfl H8 e_3 rfl rfl omQ (HS.lt H5 .here) ?_;refine JZ H6 (b:=b2) e_1 rfl H7 e_2 rfl rfl omQ (HS.lt H5 .here) ?_;refine JZ H5 (b:=b2) .here rfl H6 e_1 rfl rfl omQ (HS.lt H5 .here) ?_;refine qq ⟨a,rfl,aS.I (q:=⟨true,bv,.aW,.aW,.aW,.aW,vb,rb,0,0,0,0,0,-1,0,0,0,0⟩) jQ8 ?_⟩;have dC:=bc.SI (S:=S) (vb:=vb) (k:=0) (bs:=bs) (xv:=.aW) (bv:=bv) (sw:=true) (kv:=0) ⟨rfl,rfl⟩ (H9.aJ e_3);have eQ:=aV.uv (st:=0) (f:=EX 0 0 0 0 0) (e:=BZ 0 0 []) (c:=none) (fv:=.aW) (ev:=.aW) (cv:=.aW) od rfl rfl dC;exact eQ.sub (.cons e_2 (.cons e_1 (.cons e_2 (.cons e_1 (.cons .here (.drop (.drop .refl)))))))
end
end
section
variable {g h:AH} {L R R':List SP}
section
variable {x:q9}
def iE (x:q9):Prop:=∀c,x.c=some c→c.ag=false∧c.p.fin=0
theorem iE.no (h:x.c=none):iE x:=λc hc=>by grind
theorem iE.stamped (h:iE x):jZ x=x:=by
 have hw:qS x=false:=by
  unfold qS;cases hc:x.c with
  |none=>simp
  |some c=>obtain⟨h1,h2⟩:=h c hc;grind[xG]
 grind[jZ]
theorem iE.ends {k e:Int} (h:x.c=none):iE (xx x k e):=by
 unfold xx
 repeat' split
 ·exact iE.no h
 ·exact iE.no h
 ·exact iE.no h
 ·exact iE.no h
 ·exact λc hc=>by cases hc;trivial
theorem qJe:(zl x).2.c=x.c∧(zl x).2.aL=x.aL∧∀q,xV (zl x).2 q=xV x q:=by
 unfold zl;cases x.aD with
 |prog p=>exact⟨rfl,rfl,λ_=>rfl⟩
 |ay bs k=>exact⟨rfl,rfl,λ_=>rfl⟩
theorem iE.mq (h:x.c=none):iE (yX x):=iE.ends (qJe.1.trans h)
theorem iE.led (h:x.c=none):iE (wq x):=by
 unfold wq
 split
 ·exact iE.no h
 ·split
  ·exact iE.no h
  ·unfold jd
   split
   ·unfold zZ
    repeat' split
    ·exact iE.no h
    ·exact iE.mq h
    ·exact iE.no h
    ·exact iE.no h
   ·repeat' split
    ·exact iE.no h
    ·exact iE.no h
    all_goals grind[iE.no]
theorem qJs {f:QE} {a:cB} (hf:f.p.fin=0) (ha:a.err=0):(zC f a).at_=f.at_∧((zC f a).p.fin=0∨(zC f a).p.fin=2∨(zC f a).p.fin=5∨(zC f a).p.fin=6):=by
 unfold zC;rw[Qx hf ha,iQ (λh=>by grind)]
 repeat' split
 ·grind
 ·exact⟨rfl,.inr (.inl rfl)⟩
 ·unfold w9
  repeat' split
  ·exact⟨rfl,.inl (K6.1.trans hf)⟩
  ·exact⟨rfl,.inr (.inr (.inl rfl))⟩
  ·exact⟨rfl,.inr (.inr (.inr rfl))⟩
  grind
theorem qZi {e:wc} {a:cB} (hf:e.p.fin=0) (ha:a.err=0):(zS e a).aU=true∧((zS e a).p.fin=0∨(zS e a).p.fin=2∨(zS e a).p.fin=5):=by
 have on:∀{y:wc},y.aU=true→y.p.fin=0→(Qg y).aU=true∧((Qg y).p.fin=0∨(Qg y).p.fin=2∨(Qg y).p.fin=5):=λ{y} h1 h2=>by
  unfold Qg
  split
  ·exact⟨h1,.inr (.inl rfl)⟩
  grind
 unfold zS;rw[Qx hf ha,iQ (λh=>by grind)];cases hl:e.aU with
 |false=>grind
 |true=>
  rw[iQ (λh=>by grind)]
  repeat' split
  ·exact⟨rfl,.inl (K6.1.trans hf)⟩
  ·exact⟨rfl,.inr (.inr rfl)⟩
  ·exact⟨rfl,.inr (.inr rfl)⟩
  grind
end
theorem qg6 (r:List z6) (x:z6):(gE r x).1=0∨(gE r x).2=r:=by
 unfold gE
 grind
section
variable {n a b:Nat} {x:q9} {q:Nq} {S:SP}
theorem ge.gone {fin err bH:Int} (dZ:q.en=0∧q.ee=0∧q.eb= -1) (h0:fin=2∨fin=3∨fin=4∨fin=5):ge (z4 x fin err bH) { q with ph:=6,ou:=fin,er:=err,bH:=bH } :=
 ⟨dZ,rfl,λ_ h=>absurd h (by nofun),λ_=>⟨rfl,rfl,rfl⟩,λh=>(by cases h),λh=>(by rcases h with h |h<;>cases h),λh=>(by cases h),λ_=>h0,λh=>absurd h (by nofun),λh=>(by cases h),λh=>absurd h (by nofun)⟩
theorem ge.asks {p:Int} {fv:AV} (dZ:q.en=0∧q.ee=0∧q.eb= -1) (hnd:q.nd=x.v.aB) (hp:p=x.v.aB) (hb:x.aL=false):ge (Xi x p) { q with ph:=3,fv:=fv } :=
 ⟨dZ,rfl,λ_ _=>hnd,λh=>(by cases h),λ_=>⟨hp,rfl⟩,λh=>(by rcases h with h |h<;>cases h),λh=>(by cases h),λh=>absurd h (by nofun),λ_=>⟨λh=>(by rw[show(Xi x p).aL=x.aL from rfl,hb]at h;grind),λh=>(by cases h)⟩,λh=>(by cases h),λh=>absurd h (by nofun)⟩
theorem ge.later {st:Int} {ev:AV} (dZ:q.en=0∧q.ee=0∧q.eb= -1) (bK:st=4∨st=5) (hnd:st=4→q.nd=x.v.aB) (hb:x.aL=true↔st=5):ge (Qz x st) { q with ph:=4,ev:=ev }:=by
 refine⟨?_,?_,λ_ h=>hnd ?_,λh=>?_,λh=>?_,λ_=>⟨rfl,λ_=>rfl⟩,λh=>?_,λh=>?_,λ_=>hb,λh=>?_,λh=>?_⟩
 ·unfold jf vU kL;rw[iJ (by show st≠8;omega),iJ (by show st≠8;omega),iJ (by show st≠8;omega)];grind
 ·show(4:Int)=uu st;grind[uu]
 ·have:st≤4:=h;omega
 ·have:st=7:=h;omega
 ·have:st=3:=h;omega
 ·have:st=6:=h;omega
 ·have:7≤st:=h;omega
 ·have:st=2:=h;omega
 ·have:st≤1:=h;omega
theorem qJ9 (hn:14≤n) (B:JC x) (hj:bS True x.v x.aD) (hc:x.c=none) (iL:q.cv=.aW) (dZ:q.en=0∧q.ee=0∧q.eb= -1) (Bd:x.aL=false) (s:bB R S R')
  (H:HS g h (qv a (xV x q)::bc S q.vb x.aD q.xv q.bv q.sw q.kv::aR q.vb x.v::bJ q.rb x.r::R)) :
  ba n 55 [.ptr a 0] h λ_ h'=>HS g h' (aS S a (yX x)::R):=by
 refine bw (S:=S55) rfl omQ λk hk=>?_;unfold S55;try simp only[iZ]
 have D:=Uq B.aE B.fr hj;obtain⟨ec,eb,ex⟩:=qJe (x:=x);unfold yX;generalize hAA:xx (zl x).2 (zl x).1.1 (zl x).1.2=AA
 refine jc [] (λz h'=>∃er gv:Int,z=(.int .i64 er,.int .i64 (zl x).1.1,.ptr a 0,())∧((zl x).1.1=4→er=(zl x).1.2)∧
  HS g h' (qv a (xV x { q with kv:=gv })::bc S q.vb (zl x).2.aD q.xv q.bv q.sw gv::aR q.vb (zl x).2.v::bJ q.rb x.r::R)) (λj mR=>?_) ?_
 rotate_left
 ·rintro _ h1 ⟨er,gv,rfl,h4,H1⟩;clear H;dsimp only;rw[← hAA];clear hAA;rw[← ex]at H1;generalize(zl x).1.1=kd at*;generalize(zl x).1.2=er0 at*;generalize(zl x).2=y at*;obtain⟨e1,e2,e3,e4,e5⟩:=D.same;have r4:y.c=none:=by grind
  have dG:y.r.length≤16:=by rw[e3];exact B.r
  have hyb:y.aL=false:=by grind
  rw[← e3]at H1;generalize hA:xx y kd er0=A;refine jc [] (λ_ h'=>HS g h' (aS S a A::R)) (λj hj=>?_) λ_ h' H'=>qj (qq H');unfold xx at hA;have l8:=D.aE.ok.hi;by_cases c1:kd=1
  ·rw[iJ c1]at hA;subst hA;refine qk c1 (qK ?_);have hnd:=D.aB c1;have hk:=D.kept.1;refine qX (qQ (qZ H1 (b:=a) .here rfl ?_));obtain⟨kv,lq,H2⟩:=aR.E (H1.aJ e_2);refine qX (qQ (qZ H2 (b:=q.vb) .here rfl ?_));refine qX (qQ (qx H2 (b:=a) e_3 ⟨rfl,rfl⟩ (by simp[xV]) λh3 H3=>?_));have H3:HS g h3 (qv a (xV y { q with kv:=gv,nd:=y.v.aB })::_):=H3;refine qY (OS (x:=y) (q:={ q with kv:=gv,nd:=y.v.aB }) (p:=y.v.aB) omQ omQ rfl H3) ?_;rintro _ h4 ⟨b,H4⟩;refine hj _ _ (aS.I (q:={ q with kv:=gv,nd:=y.v.aB,ph:=3,fv:=.ptr b 0 }) (ge.asks (q:={ q with kv:=gv,nd:=y.v.aB }) dZ rfl rfl hyb) ?_);have H5:=aV.A9 (st:=3) (e:=y.e) (ev:=q.ev) rfl r4 ⟨iL,rfl⟩ H4;have H6:=aR.I (o:=q.vb) (M:=y.v) (kv:=kv) (q:=lq) (H5.sub (.cons e_2 (.cons e_2 (.cons e_2 (.cons .here (.cons .here .refl))))));exact H6.sub (.cons e_2 (.cons e_2 (.cons .here (.cons e_1 (.cons .here .refl)))))
  rw[iQ c1]at hA;refine qW c1 (qJ ?_);by_cases c3:kd=3
  ·rw[iJ c3]at hA;subst hA;refine qk c3 (qK ?_);refine qX (qQ (qx H1 (b:=a) .here ⟨rfl,rfl⟩ (by simp[xV]) λh2 H2=>?_));have H2:HS g h2 (qv a (xV { y with aL:=true } { q with kv:=gv })::bc S q.vb y.aD q.xv q.bv q.sw gv::aR q.vb y.v::bJ q.rb y.r::R):=H2;refine qY (M8 (x:={ y with aL:=true }) (q:={ q with kv:=gv }) omQ dG (H2.sub (.cons .here (.cons e_2 .refl)))) ?_;rintro _ h3 ⟨b,H3⟩;refine hj _ _ (aS.I (q:={ q with kv:=gv,ph:=4,ev:=.ptr b 0 }) (ge.later (x:={ y with aL:=true }) (q:={ q with kv:=gv }) (st:=5) dZ (.inr rfl) (λh=>(by grind)) ⟨λ_=>rfl,λ_=>rfl⟩) ?_);have H4:=aV.Ba (st:=5) (f:=y.f) (fv:=q.fv) (c:=y.c) (cv:=q.cv) (.inr rfl) r4 ⟨iL,rfl⟩ H3;exact H4.sub (.cons e_1 (.cons e_2 (.cons e_2 (.cons e_1 (.cons .here .refl)))))
  rw[iQ c3]at hA;refine qW c3 (qJ ?_);by_cases c4:kd=4
  ·rw[iJ c4]at hA;subst hA;refine qk c4 (qK ?_);rw[h4 c4]at*;refine qY (gB omQ H1) λ_ h2 H2=>?_;refine hj _ _ (aS.I (q:={ q with kv:=gv,ph:=6,ou:=4,er:=er0,bH:=-1 }) (ge.gone (q:={ q with kv:=gv }) dZ od) ?_);have H3:=aV.uv (st:=7) (f:=y.f) (e:=y.e) (c:=y.c) (fv:=q.fv) (ev:=q.ev) (cv:=q.cv) od r4 iL H2;exact H3.sub (.cons e_1 (.cons e_1 (.cons e_1 (.cons e_1 (.cons .here .refl)))))
  rw[iQ c4]at hA;refine qW c4 (qJ ?_);refine qY (qVs (x:=y) (q:={ q with kv:=gv }) (S:=S) omQ dG D.aE D.fr r4 iL dZ H1) λ_ h2 H2=>hj _ _ ?_;grind
 unfold zl at mR;cases hx:x.aD with
 |prog p=>
  rw[hx]at H hj mR;obtain⟨F,Q,gb,hr,hl⟩:=hj;obtain⟨G,f0,f1,f2⟩:=hr trivial;obtain⟨y,sv,kd,⟨e1,e2,e3,e4,e6⟩,H1⟩:=bc.P (H.aJ e_1);refine qX (qQ (qZ H (b:=a) .here (x:=.bool false) (by rw[← e2];rfl) ?_));refine qJ (qX (qQ (qZ H (b:=a) .here (x:=.ptr y 0) (by rw[← e1];rfl) ?_)));rw[f1]at H1;have H1:=H1.sub (L':=aG y q.vb sv (qT p.l) p.s kd 0 p.left::aR q.vb x.v::qv a (xV x q)::bJ q.rb x.r::R) (.cons .here (.cons e_1 (.cons .here .refl)));refine qY (jQl omQ F Q G f2 omQ ((e3.rd s).more.more) (e4 f0) H1) ?_;rintro _ h2 ⟨rfl,H2⟩;dsimp only at mR;have e7:=qyo (l:=p.l) (mt:=qT p.l) p.left (V:=x.v) e6;generalize zh p.l (qT p.l) p.left p.s x.v=RM at*;obtain⟨lv,ov,mv,qs,e5,H3⟩:=aG.E H2;refine qX (qQ (qZ H3 (b:=a) e_5 (x:=.ptr y 0) (by rw[← e1];rfl) ?_));refine qX (qQ (qZ H3 (b:=y) .here (x:=.int .i64 RM.err) rfl ?_));refine mR _ _ ⟨RM.err,q.kv,rfl,λ_=>rfl,?_⟩
  have H4:=bc.PI (S:=S) (p:=⟨p.l,RM.s,if RM.kind=1 then 0 else RM.kind,RM.err,RM.left⟩) (xv:=q.xv) (bv:=q.bv) (sw:=q.sw) (kv:=q.kv) ⟨e1,e2,e3,λh=>(by
   grind),e7⟩ H2
  exact H4.sub (.cons e_2 (.cons .here (.cons .here .refl)))
 |ay bs k=>
  rw[hx]at H hj mR;obtain⟨⟨e1,e2⟩,H1⟩:=bc.W (H.aJ e_1);refine qX (qQ (qZ H (b:=a) .here (x:=.bool true) (by rw[← e1];rfl) ?_));refine qK ?_;have fR:=hj.1;have hbl2:=hj.2;dsimp only at mR;generalize hG:xP x.v (bs.drop k) k=G at*
  refine jc [] (λz h'=>∃(er:Int) (i:Nat) (V:VM),z=(.int .i64 er,.int .i64 2,.ptr a 0,())∧((i,er),V)=G∧
    HS g h' (qv a (xV x { q with kv:=(i:Int) })::qC 3 1 bs.length q.bv (bs.map (.int .i64))::aR q.vb V::bJ q.rb x.r::R)) (λj2 oO=>?_) ?_
  rotate_left
  ·rintro _ h3 ⟨er,i,V,rfl,rfl,H3⟩;dsimp only at mR ⊢;have H4:=(bc.SI (S:=S) (vb:=q.vb) (k:=i) (xv:=q.xv) (kv:=(i:Int)) ⟨e1,rfl⟩ (H3.aJ e_1)).sub (L':=qv a (xV x { q with kv:=(i:Int) })::bc S q.vb (.ay bs i) q.xv q.bv q.sw i::aR q.vb V::bJ q.rb x.r::R) (.cons e_1 (.cons .here .refl));by_cases Be:er=11
   ·rw[iJ Be]at mR;refine qk Be (qK (mR _ _ ⟨er,i,rfl,λh=>(by grind),H4⟩))
   rw[iQ Be]at mR;refine qW Be (qJ ?_);by_cases c0:er=0
   ·rw[iJ c0]at mR;exact jR c0 (qJ (mR _ _ ⟨er,i,rfl,λh=>(by grind),H4⟩))
   ·rw[iQ c0]at mR;exact jb c0 (qK (mR _ _ ⟨er,i,rfl,λ_=>rfl,H4⟩))
  refine jB (λm s h'=>s=(.int .i64 0,.int .i64 2,.ptr a 0,())∧∃(i:Nat) (V:VM),i≤bs.length∧m=bs.length-i∧zj V∧xP V (bs.drop i) i=G∧
    HS g h' (qv a (xV x { q with kv:=(i:Int) })::qC 3 1 bs.length q.bv (bs.map (.int .i64))::aR q.vb V::bJ q.rb x.r::R))
   ?_ (m:=bs.length-k) (by grind) ⟨rfl,k,x.v,fR,rfl,B.aE,hG,by
    have:q={ q with kv:=(k:Int) }:=by rw[← e2]
    rw[← this]
    exact H1.sub (.cons e_1 (.cons .here .refl))⟩
  clear H H1 hG;rintro m ih s h1 bj ⟨rfl,i,V,hi,rfl,hV,hG,H⟩;dsimp only;refine qX (qQ (qZ H (b:=a) .here rfl ?_));refine qX (qQ (qZ H (b:=a) .here rfl ?_));refine qr H (n:=bs.length) (v:=q.bv) e_1 ?_;by_cases ap:i<bs.length
  ·refine jO (by grind) (qK ?_);refine qX (qQ (qZ H (b:=a) .here rfl ?_));refine qX (qQ (qZ H (b:=a) .here rfl ?_));refine qX (qQ (qZ H (b:=a) .here rfl ?_));refine zO (H.sl (v:=q.bv) (xs:=bs.map (.int .i64)) e_1) (x:=.int .i64 bs[i]) (by simp) ?_;refine qY (qj9 (b:=bs[i]) omQ (H.aJ (P:=aR q.vb V) e_2) hV.ok hV.wd) ?_;rintro _ h2 ⟨rfl,H2⟩;rw[List.drop_eq_getElem_cons ap]at hG;by_cases h0:(yM V bs[i]).1=0
   ·refine jR h0 (qJ ?_);refine qX (qQ (qZ H2 (b:=a) e_1 (x:=.int .i64 (i:Int)) rfl ?_));refine qE omQ ?_;refine qX (qQ ?_);refine qx H2 (b:=a) e_1 ⟨rfl,rfl⟩ (by simp[xV]) λh3 H3=>?_;refine bj (bs.length-(i+1)) _ _ omQ ⟨by rw[h0],i+1,(yM V bs[i]).2,by omega,rfl,hV.nf.1,?_,H3.sub (.cons .here (.cons e_1 (.cons .here .refl)))⟩;rw[show xP V (bs[i]::bs.drop (i+1)) i=xP (yM V bs[i]).2 (bs.drop (i+1)) (i+1)from iJ h0]at hG;grind
   ·rw[show xP V (bs[i]::bs.drop (i+1)) i=((i,(yM V bs[i]).1),(yM V bs[i]).2)from iQ h0]at hG;refine jb h0 (qK (oO _ _ ⟨_,i,_,rfl,hG,H2.sub (.cons e_1 (.cons e_1 (.cons .here .refl)))⟩))
  ·obtain rfl:i=bs.length:=by omega
   rw[List.drop_length,show xP V [] bs.length=((bs.length,0),V)from rfl]at hG;exact jM (by simp) (qJ (oO _ _ ⟨0,bs.length,V,rfl,hG,H⟩))
theorem qXl (hn:16≤n) (O:zm x) (bK:x.state=3) (oG:x.f.p.fin=0∨x.f.p.fin=2∨x.f.p.fin=5∨x.f.p.fin=6) (cx:x.f.at_=x.v.aB) (hnd:q.nd=x.v.aB) (iL:q.cv=.aW) (Ei:q.fv=.ptr b 0) (dZ:q.en=0∧q.ee=0∧q.eb= -1) (hph:q.ph=3) (Bd:x.aL=false) (s:bB R S R')
  (H:HS g h (qv a (xV x q)::bc S q.vb x.aD q.xv q.bv q.sw q.kv::aR q.vb x.v::bJ q.rb x.r::bP b x.f::R)) :
  ba n 57 [.ptr a 0] h λ_ h'=>HS g h' (aS S a (wq x)::R):=by
 refine bw (S:=S57) rfl omQ λk hk=>?_;unfold S57;try simp only[iZ]
 have hc:=O.c0 omQ;have Fl:bS True x.v x.aD:=O.aD.same λ_=>by omega
 have hw:=(O.f bK).2;obtain⟨sp,Q,H1⟩:=bP.E (H.aJ e_4);refine qX (qQ (qZ H1 (b:=a) e_1 (x:=.ptr b 0) (by rw[← Ei];rfl) ?_));refine qX (qQ (qI (qZ H1 (b:=b) .here (x:=.int .i64 x.f.p.fin) rfl ?_)));generalize hA:wq x=A;refine jc [] (λ_ h'=>HS g h' (aS S a A::R)) (λj hj=>?_) λ_ h' H'=>qj (qq H');unfold wq at hA;rw[show zd x=(x.f.p.fin,x.f.p.bH) by simp_all[zd]]at hA;rw[show jd x=zZ x by simp_all[jd]]at hA;dsimp only at hA;by_cases c6:x.f.p.fin=6
 ·rw[iQ omQ,iQ omQ]at hA;unfold zZ at hA;rw[iJ c6]at hA;subst hA;refine qk c6 (qK ?_);refine qY (M8 (q:=q) omQ O.r (H.sub (.cons .here (.cons e_2 .refl)))) ?_;rintro _ h3 ⟨b',H3⟩;refine hj _ _ (aS.I (q:={ q with ph:=4,ev:=.ptr b' 0 }) (ge.later (st:=4) dZ (.inl rfl) (λ_=>hnd) ⟨λh=>(by grind),λh=>(by grind)⟩) ?_);have H4:=aV.Ba (st:=4) (f:=x.f) (fv:=q.fv) (c:=x.c) (cv:=q.cv) (.inl rfl) hc ⟨iL,rfl⟩ H3;exact H4.sub (.cons e_1 (.cons e_2 (.cons e_2 (.cons e_1 (.cons .here (.drop .refl))))))
 refine qW c6 (qJ ?_);by_cases c5:x.f.p.fin=5
 ·rw[iQ omQ,iJ c5]at hA;subst hA;refine qk c5 (qK ?_);refine qX (qQ (qZ H1 (b:=a) e_1 (x:=.ptr b 0) (by rw[← Ei];rfl) ?_));refine qX (qQ (qI (qZ H1 (b:=b) .here (x:=.int .i64 x.f.p.bH) rfl ?_)));refine qY (gB omQ H) λ_ h2 H2=>hj _ _ (aS.I (ge.gone dZ od) ?_);have H3:=aV.uv (st:=7) (f:=x.f) (e:=x.e) (c:=x.c) (fv:=q.fv) (ev:=q.ev) (cv:=q.cv) od hc iL H2;exact H3.sub (.cons e_1 (.cons e_1 (.cons e_1 (.cons e_1 (.cons .here (.drop .refl))))))
 refine qW c5 (qJ ?_);by_cases c2:x.f.p.fin=2
 rotate_left
 ·have c0:x.f.p.fin=0:=by omega
  rw[iJ c0]at hA;subst hA;refine qW c2 (qJ (hj _ _ (aS.I (q:=q) ?_ ?_)))
  ·refine⟨?_,?_,λ_ _=>hnd,λh=>omQ,λ_=>⟨cx,c0⟩,λh=>omQ,λh=>omQ,λh=>omQ,λ_=>⟨λh=>(by grind),λh=>omQ⟩,λh=>omQ,λh=>omQ⟩
   ·simp_all[jf,vU,kL,omQ]
   ·rw[hph,bK];rfl
  ·have H4:=aV.A9 (st:=x.state) (e:=x.e) (ev:=q.ev) (c:=x.c) bK hc ⟨iL,Ei⟩ (H.aJ e_4);exact H4.sub (.cons e_1 (.cons e_1 (.cons e_1 (.cons e_1 (.cons .here .refl)))))
 rw[iQ omQ,iQ omQ]at hA;unfold zZ at hA;rw[iQ c6]at hA;have es:xl x.f=(x.f.aA,x.f.lk.1):=iQ (λh=>h c2);have ew:yj x.f=x.f.word:=iQ (λh=>h c2);refine qk c2 (qK ?_);refine qX (qQ (qZ H1 (b:=a) e_1 rfl ?_));refine qX (qQ (qZ H1 (b:=a) e_1 (x:=.ptr b 0) (by rw[← Ei];rfl) ?_));refine qX (qQ (qZ H1 (b:=b) .here (x:=.int .i64 x.f.aA) rfl ?_));refine qX (qQ (qZ H1 (b:=a) e_1 (x:=.ptr b 0) (by rw[← Ei];rfl) ?_));refine qX (qQ (qI (qZ H1 (b:=b) .here (x:=.int .u64 x.f.lk.1) rfl ?_)));refine qA (l:=vW (xl x.f)) (by rw[es];rfl) ?_;refine qY (qwc (x:=xl x.f) omQ O.r (H1.aJ (P:=bJ q.rb x.r) e_4)) ?_;rintro _ h2 ⟨rfl,H2⟩;have ig:(gE x.r (xl x.f)).1≠0→(gE x.r (xl x.f)).2=x.r:=λh=>(qg6 x.r (xl x.f)).resolve_left h;have gone:∀{fin err:Int} {h3:AH},(gE x.r (xl x.f)).1≠0→(fin=2∨fin=3∨fin=4∨fin=5)→HS g h3 (qv a (xV x { q with ph:=6,ou:=fin,er:=err,bH:=-1 })::bJ q.rb (gE x.r (xl x.f)).2::qv b (vu x.f sp)::bc S q.vb x.aD q.xv q.bv q.sw q.kv::aR q.vb x.v::R)→HS g h3 (aS S a (z4 x fin err (-1))::R):=λ{fin err h3} h0 hf H3=>by
  rw[ig h0]at H3;refine aS.I (ge.gone dZ hf) ?_;have H4:=aV.uv (st:=7) (f:=x.f) (e:=x.e) (c:=x.c) (fv:=q.fv) (ev:=q.ev) (cv:=q.cv) od hc iL H3;exact H4.sub (.cons e_1 (.cons e_3 (.cons e_3 (.cons e_1 (.cons .here (.drop .refl))))))
 by_cases B4:(gE x.r (xl x.f)).1=14
 ·rw[iQ omQ,iJ B4]at hA;subst hA;refine qk B4 (qK ?_);exact qY (gB omQ (H2.sub (.cons e_2 (.cons .here (.cons .here .refl))))) λ_ h3 H3=>qq (gone omQ od H3)
 refine qW B4 (qJ ?_);by_cases c0:(gE x.r (xl x.f)).1=0
 rotate_left
 ·rw[iQ c0,iQ B4]at hA;subst hA;refine jb c0 (qK ?_);exact qY (gB omQ (H2.sub (.cons e_2 (.cons .here (.cons .here .refl))))) λ_ h3 H3=>qq (gone c0 od H3)
 rw[iJ c0]at hA;subst hA;refine jR c0 (qJ ?_);refine qX (qQ (qZ H2 (b:=a) e_2 rfl ?_));refine qX (qQ (qZ H2 (b:=a) e_2 (x:=.ptr b 0) (by rw[← Ei];rfl) ?_));refine qX (qQ (qZ H2 (b:=b) e_1 (x:=.int .i64 x.v.aB) (by rw[← cx];rfl) ?_));refine qX (qQ (qZ H2 (b:=a) e_2 (x:=.ptr b 0) (by rw[← Ei];rfl) ?_));refine qX (qQ (qZ H2 (b:=b) e_1 (x:=.int .u64 (yj x.f)) (by rw[ew];rfl) ?_));refine qY (qqM (p:=x.v.aB) (x:=yj x.f) omQ (H2.aJ (P:=aR q.vb x.v) e_4) O.aE.ok) ?_;rintro _ h3 ⟨rfl,H3⟩;have hx:=Gj hw;have B:=O.b;refine qY (qJ9 (x:={ x with r:=(gE x.r (xl x.f)).2,v:=(yE x.v x.v.aB (yj x.f)).2 }) (q:=q) (R:=R) (R':=R') omQ ?_ (Fl.nh hx) hc iL dZ Bd s (H3.sub (.cons e_3 (.cons e_3 (.cons .here (.cons .here (.drop .refl))))))) λ_ h4 H4=>hj _ _ H4;exact⟨B.set,XJ B.aE hx,by show((yE x.v x.v.aB (yj x.f)).2.sz:Int)=x.set.words;rw[QJ.2];exact B.sz,by show bE (yE x.v x.v.aB (yj x.f)).2.lv<9000;rw[QJ.1];exact B.fr,Ya B.r,(Fl.nh hx).same λh=>h.elim,B.c⟩
theorem qQf (hn:6≤n) (O:zm x) (bK:x.state=4∨x.state=5) (oG:x.e.p.fin=0∨x.e.p.fin=2∨x.e.p.fin=5) (td:x.e.aU=true) (hnd:x.state=4→q.nd=x.v.aB) (iL:q.cv=.aW) (R6:q.ev=.ptr b 0) (dZ:q.en=0∧q.ee=0∧q.eb= -1) (hph:q.ph=4) (Bd:x.aL=true↔x.state=5)
  (H:HS g h (qv a (xV x q)::bc S q.vb x.aD q.xv q.bv q.sw q.kv::aR q.vb x.v::bJ q.rb x.r::cm b x.e::R)) :
  ba n 59 [.ptr a 0] h λ_ h'=>HS g h' (aS S a (wq x)::R):=by
 refine bw (S:=S59) rfl omQ λk hk=>?_;unfold S59;try simp only[iZ]
 have hc:=O.c0 omQ;obtain⟨sp,at_,sv,Q,q',H1⟩:=cm.E (H.aJ e_4);refine qX (qQ (qZ H1 (b:=a) e_2 (x:=.ptr b 0) (by rw[← R6];rfl) ?_));refine qX (qQ (qI (qZ H1 (b:=b) .here (x:=.int .i64 x.e.p.fin) rfl ?_)));generalize hA:wq x=A;refine jc [] (λ_ h'=>HS g h' (aS S a A::R)) (λj hj=>?_) λ_ h' H'=>qj (qq H');unfold wq at hA;rw[show zd x=(x.e.p.fin,x.e.p.bH) by unfold zd;grind]at hA;dsimp only at hA;by_cases c5:x.e.p.fin=5
 ·rw[iQ omQ,iJ c5]at hA;subst hA;refine qk c5 (qK ?_);refine qX (qQ (qZ H1 (b:=a) e_2 (x:=.ptr b 0) (by rw[← R6];rfl) ?_));refine qX (qQ (qI (qZ H1 (b:=b) .here (x:=.int .i64 x.e.p.bH) rfl ?_)));refine qY (gB omQ H) λ_ h2 H2=>hj _ _ (aS.I (ge.gone dZ od) ?_);have H3:=aV.uv (st:=7) (f:=x.f) (e:=x.e) (c:=x.c) (fv:=q.fv) (ev:=q.ev) (cv:=q.cv) od hc iL H2;exact H3.sub (.cons e_1 (.cons e_1 (.cons e_1 (.cons e_1 (.cons .here (.drop .refl))))))
 refine qW c5 (qJ ?_);by_cases c2:x.e.p.fin=2
 rotate_left
 ·have c0:x.e.p.fin=0:=by omega
  rw[iJ c0]at hA;subst hA;refine qW c2 (qJ (hj _ _ (aS.I (q:=q) ?_ ?_)))
  ·refine⟨?_,?_,λh3 h4=>hnd omQ,λh=>omQ,λh=>omQ,λ_=>⟨c0,λh=>(by grind)⟩,λh=>omQ,λh=>omQ,λ_=>Bd,λh=>omQ,λh=>omQ⟩
   ·simp[jf,vU,kL];omega
   grind[uu]
  ·have H4:=aV.Ba (st:=x.state) (f:=x.f) (fv:=q.fv) (c:=x.c) bK hc ⟨iL,R6⟩ (H.aJ e_4);exact H4.sub (.cons e_1 (.cons e_1 (.cons e_1 (.cons e_1 (.cons .here .refl)))))
 rw[iQ omQ,iQ omQ]at hA;unfold jd at hA;rw[iQ omQ]at hA;have es:yT x.e=x.e.aa:=iQ (λh=>h c2);refine qk c2 (qK ?_);refine qX (qQ (qZ H1 (b:=a) e_2 (x:=.ptr b 0) (by rw[← R6];rfl) ?_));refine qX (qQ (qZ H1 (b:=b) .here (x:=.int .u64 (yT x.e)) (by rw[es];rfl) ?_));refine qX (qQ (qx H (b:=a) .here ⟨rfl,rfl⟩ (by simp[xV]) λh2 H2=>?_));have H2:HS g h2 (qv a (xV { x with aa:=yT x.e } q)::bc S q.vb x.aD q.xv q.bv q.sw q.kv::aR q.vb x.v::bJ q.rb x.r::cm b x.e::R):=H2;by_cases s4:x.state=4
 ·rw[iJ s4]at hA;subst hA;have hb:x.aL=false:=by
   grind
  refine qX (qQ (qZ H2 (b:=a) .here (x:=.bool false) (by rw[← hb];rfl) ?_));refine qJ ?_;have LR:=hnd s4;have bW:=O.aB omQ omQ;have l8:=O.aE.ok.hi;refine qY (OS (x:={ x with aa:=yT x.e }) (p:=x.v.aB) omQ omQ LR H2) ?_;rintro _ h3 ⟨b',H3⟩;refine hj _ _ (aS.I (q:={ q with ph:=3,fv:=.ptr b' 0 }) (ge.asks (x:={ x with aa:=yT x.e }) dZ LR rfl hb) ?_);have H5:=aV.A9 (st:=3) (e:=x.e) (ev:=q.ev) (c:=x.c) (cv:=q.cv) rfl hc ⟨iL,rfl⟩ H3;exact H5.sub (.cons e_1 (.cons e_1 (.cons e_1 (.cons e_1 (.cons .here (.drop .refl))))))
 ·have s5:x.state=5:=by omega
  rw[iQ s4,iJ s5]at hA;subst hA;refine qX (qQ (qZ H2 (b:=a) .here (x:=.bool true) (by rw[← Bd.2 s5];rfl) ?_));refine qK (qY (gB (x:={ x with aa:=yT x.e }) omQ H2) λ_ h3 H3=>qq (aS.I (ge.gone (x:={ x with aa:=yT x.e }) dZ od) ?_));have H4:=aV.uv (st:=7) (f:=x.f) (e:=x.e) (c:=x.c) (fv:=q.fv) (ev:=q.ev) (cv:=q.cv) od hc iL H3;exact H4.sub (.cons e_1 (.cons e_1 (.cons e_1 (.cons e_1 (.cons .here (.drop .refl))))))
end
end
section
variable {g h:AH} {L R R':List SP}
section
variable {n a b:Nat} {x:q9} {q:Nq} {S:SP}
theorem KF {c:jX} (hn:1≤n) (H:HS g h (bT b c::R)):ba n 61 [.ptr b 0] h λr h'=>r=.bool (xG c)∧h'=h:=by
 refine bw (S:=S61) rfl omQ λk hk=>?_;unfold S61;try simp only[iZ]
 obtain⟨q,r,hm,H0⟩:=bT.E H;unfold xG;refine qX (qQ (qI (qZ H0 (b:=b) .here (x:=.int .i64 c.p.fin) rfl ?_)));by_cases hf:c.p.fin=0
 rotate_left
 ·rw[iV hf,Bool.and_false];refine qW hf (qG ?_)
  try dsimp only
  refine qe (qG ?_)
  try dsimp only
  refine zQ (qG ?_)
  try dsimp only
  exact qe (qy (qq ⟨rfl,rfl⟩))
 rw[iG hf,Bool.and_true];obtain⟨e1,_⟩:=r.ph hf;have hw:=r.w (.inl hf);have no:c.state≠5→c.state≠6→c.ag=false:=λh5 h6=>by
  grind
 refine qk hf (qG ?_)
 try dsimp only
 refine qf (qX (qQ (qZ H0 (b:=b) .here (x:=.int .i64 c.state) (by rw[← e1];rfl) ?_)));by_cases c5:c.state=5
 ·rw[hw.2 (.inr (.inl c5))];refine qk c5 (qG ?_)
  try dsimp only
  refine ql (qG ?_)
  try dsimp only
  exact qf (qF (qF (qq ⟨rfl,rfl⟩)))
 refine qW c5 (qG ?_)
 try dsimp only
 refine qP (qX (qQ (qZ H0 (b:=b) .here (x:=.int .i64 c.state) (by rw[← e1];rfl) ?_)));by_cases c6:c.state=6
 ·rw[hw.2 (.inr (.inr c6))];refine qk c6 (qG ?_)
  try dsimp only
  exact qf (qy (qF (qq ⟨rfl,rfl⟩)))
 ·rw[no c5 c6];refine qW c6 (qG ?_)
  try dsimp only
  exact qf (qy (qF (qq ⟨rfl,rfl⟩)))
theorem ge.Fm (r:ge x q):q.en=0↔x.state≠8:=by
 rw[r.en.1];unfold jf;have:=r.fin
 grind
theorem ge.ends (r:ge x q) (h8:x.state≠8):q.en=0∧q.ee=0∧q.eb= -1:=by obtain⟨h1,h2,h3⟩:=r.en;simp_all[jf,vU,kL]
theorem Jd (hn:2≤n) (H:HS g h (aS S a x::R)):ba n 66 [.ptr a 0] h λv h'=>v=.bool (qS x)∧h'=h:=by
 refine bw (S:=S66) rfl omQ λk hk=>?_;unfold S66;try simp only[iZ]
 obtain⟨q,r,H1⟩:=aS.E H;refine qX (qQ (qI (qZ H1 (b:=a) .here (x:=.int .i64 q.en) rfl ?_)));unfold qS;by_cases c8:x.state=8
 ·rw[iV (λh=>h c8),Bool.false_and];refine qW (λh=>r.Fm.1 h c8) (qG ?_)
  try dsimp only
  refine qe (qy (qG ?_))
  try dsimp only
  refine qe (qG ?_)
  try dsimp only
  refine zQ (qG ?_)
  try dsimp only
  exact qe (qy (qq ⟨rfl,rfl⟩))
 rw[iG (show x.state≠8 from c8),Bool.true_and];refine qk (r.Fm.2 c8) (qG ?_)
 try dsimp only
 cases hc:x.c with
 |none=>
  obtain⟨e,H2⟩:=aV.LQ hc (H1.aJ e_4);refine qf (qX (qQ (qZ H1 (b:=a) .here (x:=.aW) (by rw[← e];rfl) ?_)));refine qj2 (qF (qG ?_))
  try dsimp only
  refine qe (qG ?_)
  try dsimp only
  refine zQ (qG ?_)
  try dsimp only
  exact qe (qy (qq ⟨rfl,rfl⟩))
 |some c=>
  obtain⟨b,⟨e,_⟩,H2⟩:=aV.Bb hc (H1.aJ e_4);refine qf (qX (qQ (qZ H1 (b:=a) .here (x:=.ptr b 0) (by rw[← e];rfl) ?_)));refine qwh (qF (qG ?_))
  try dsimp only
  refine qf (qX (qQ (qZ H1 (b:=a) .here (x:=.ptr b 0) (by rw[← e];rfl) ?_)));refine qY (KF omQ H2) ?_;rintro _ _ ⟨rfl,rfl⟩;cases hw:xG c with
  |true=>
   refine qG ?_
   try dsimp only
   refine ql (qG ?_)
   try dsimp only
   exact qf (qF (qF (qq ⟨by rfl,rfl⟩)))
  |false=>
   obtain⟨q2,_,_,H3⟩:=bT.E H2;refine qG ?_
   try dsimp only
   refine qP (qX (qQ (qZ H1 (b:=a) .here (x:=.ptr b 0) (by rw[← e];rfl) ?_)));refine qX (qQ (qI (qZ H3 (b:=b) .here (x:=.int .i64 c.p.fin) rfl ?_)));refine J7 (qG ?_)
   try dsimp only
   exact qf (qy (qF (qq ⟨by rfl,rfl⟩)))
theorem qQs (hn:1≤n) (H:HS g h (aS S a x::R)):ba n 46 [.ptr a 0] h λv h'=>v=.bool (yL x)∧h'=h:=by
 refine bw (S:=S46) rfl omQ λk hk=>?_;unfold S46;try simp only[iZ]
 obtain⟨q,r,H1⟩:=aS.E H;refine qX (qQ (qI (qZ H1 (b:=a) .here (x:=.int .i64 q.en) rfl ?_)));unfold yL;by_cases c8:x.state=8
 ·rw[iV (λh=>h c8),Bool.false_and];refine qW (λh=>r.Fm.1 h c8) (qG ?_)
  try dsimp only
  exact qe (qy (qq ⟨rfl,rfl⟩))
 ·rw[iG (show x.state≠8 from c8),Bool.true_and];refine qk (r.Fm.2 c8) (qG ?_)
  try dsimp only
  refine qf (qX (qQ (qZ H1 (b:=a) .here (x:=.bool x.aL) rfl ?_)));exact qF (qq ⟨rfl,rfl⟩)
theorem NC {u:AV} (r:ge x q) (hu:q.en≠2→u=.bool (!qS x)) {K:AV→Go.Ae.R} {Q:AV→AH→Prop} (w:wp (K (.bool (!yZ x))) Q):wp (w4 (.bool (decide (¬q.en=2))) u (.bool false) K) Q:=by
 have e:yZ x=(decide (jf x=2)||qS x):=rfl;by_cases h2:q.en=2
 ·rw[e,← r.en.1,iG h2]at w;rw[iV (λh=>h h2)];exact qy w
 ·rw[e,← r.en.1,iV h2,Bool.false_or]at w;rw[iG h2,hu h2];exact qF w
theorem qq2 (hn:6≤n) (O:zm x) (r:ge x q) (H:HS g h (gK S a x q R)):ba n 67 [.ptr a 0] h λv h'=>HS g h' (qC 63 2 (yS x).length v ((yS x).flatMap jH)::gK S a x q R):=by
 refine bw (S:=S67) rfl omQ λk hk=>?_;unfold S67;try simp only[iZ]
 have BX:=O.fr;refine qX (qQ (qI (qZ H (b:=a) .here (x:=.int .i64 q.en) rfl ?_)));refine Kx (wW (λz g'=>g'=h∧∃u,z=(u,.bool (decide (¬q.en=2)),.ptr a 0,())∧(q.en≠2→u=.bool (!qS x))) (λj hj=>?_) ?_)
 ·refine Xd (λc=>?_) (λc=>?_)
  ·refine qY (Jd omQ (aS.I r H)) ?_;rintro _ _ ⟨rfl,rfl⟩;exact ZE (hj _ _ ⟨rfl,_,rfl,λ_=>rfl⟩)
  ·exact hj _ _ ⟨rfl,_,rfl,λh=>absurd h c⟩
 rintro _ _ ⟨rfl,u,rfl,hu⟩;dsimp only;refine NC r hu ?_;unfold yS;cases hc:yZ x with
 |false=>exact qK (qq H.aj)
 |true=>refine qJ (qX (qQ (qZ H (b:=a) .here rfl ?_)));obtain⟨kv,lq,H1⟩:=aR.E (H.aJ e_2);refine qX (qQ (qZ H1 (b:=q.vb) .here rfl ?_));refine qY (KJ omQ (H1.aJ (P:=cF lq x.v.most x.v.lv) e_2) O.aE.ok.lR omQ) ?_;rintro _ h2 ⟨cv,fv,rfl,H2⟩;refine MQ rfl (qq ?_);have H3:=aR.I (o:=q.vb) (M:=x.v) (kv:=kv) (q:=lq) (H2.sub (.cons e_3 (.cons e_3 (.cons e_2 (.cons .here (.drop .refl))))));exact H3.sub (.cons e_1 (.cons e_1 (.cons e_1 (.cons .here .refl))))
theorem ZZ (hn:6≤n) (O:zm x) (r:ge x q) (H:HS g h (gK S a x q R)):ba n 68 [.ptr a 0] h λv h'=>∃T,HS g h' (T::gK S a x q R)∧Rd g (T::gK S a x q R) 1 (jG x).length v ((jG x).map (.int .i64))∧((∃p,x.aD=.prog p)→∃e,T=qC e 1 (jG x).length v ((jG x).map (.int .i64))):=by
 refine bw (S:=S68) rfl omQ λk hk=>?_;unfold S68;try simp only[iZ]
 have BX:=O.fr;refine qX (qQ (qI (qZ H (b:=a) .here (x:=.int .i64 q.en) rfl ?_)));refine Kx (wW (λz g'=>g'=h∧∃u,z=(u,.bool (decide (¬q.en=2)),.ptr a 0,())∧(q.en≠2→u=.bool (!qS x))) (λj hj=>?_) ?_)
 ·refine Xd (λc=>?_) (λc=>?_)
  ·refine qY (Jd omQ (aS.I r H)) ?_;rintro _ _ ⟨rfl,rfl⟩;exact ZE (hj _ _ ⟨rfl,_,rfl,λ_=>rfl⟩)
  ·exact hj _ _ ⟨rfl,_,rfl,λh=>absurd h c⟩
 rintro _ _ ⟨rfl,u,rfl,hu⟩;dsimp only;refine NC r hu ?_;unfold jG;cases hc:yZ x with
 |false=>exact qK (qq ⟨_,H.aj (e:=0) (sz:=1),Rd.own .here,λ_=>⟨_,rfl⟩⟩)
 |true=>
  refine qJ ?_;cases hx:x.aD with
  |prog p=>have H0:=H;unfold gK at H0;rw[hx]at H0;obtain⟨y,sv,kd,⟨e1,e2,_⟩,_⟩:=bc.P (H0.aJ e_1);refine qX (qQ (qZ H (b:=a) .here (x:=.bool false) (by rw[← e2];rfl) ?_));refine qJ (qX (qQ (qZ H (b:=a) .here rfl ?_)));obtain⟨kv,lq,H1⟩:=aR.E (H.aJ e_2);refine qX (qQ (qZ H1 (b:=q.vb) .here rfl ?_));refine qY (KJ omQ (H1.aJ (P:=cF lq x.v.most x.v.lv) e_2) O.aE.ok.lR omQ) ?_;rintro _ h2 ⟨cv,fv,rfl,H2⟩;refine MQ rfl (qq ?_);have H3:=aR.I (o:=q.vb) (M:=x.v) (kv:=kv) (q:=lq) (H2.sub (.cons e_3 (.cons e_3 (.cons e_2 (.cons e_1 (.drop .refl))))));exact⟨_,H3.sub (.cons e_1 (.cons e_1 (.cons e_1 (.cons .here .refl)))),Rd.own .here,λ_=>⟨_,rfl⟩⟩
  |ay bs k=>have H0:=H;unfold gK at H0;rw[hx]at H0;obtain⟨⟨e1,_⟩,_⟩:=bc.W (H0.aJ e_1);refine qX (qQ (qZ H (b:=a) .here (x:=.bool true) (by rw[← e1];rfl) ?_));refine qK (qX (qQ (qZ H (b:=a) .here (x:=q.bv) rfl (qq ⟨_,H.aj (e:=0) (sz:=1),λh' H'=>?_,λ⟨p,hp⟩=>(by grind)⟩))));have H':=H'.drop;unfold gK at H';rw[hx]at H';obtain⟨_,Il⟩:=bc.W (H'.aJ (P:=bc S q.vb (.ay bs k) q.xv q.bv q.sw q.kv) e_1);exact Il.sl .here
theorem Ou (hn:4≤n) (O:zm x) (r:ge x q) (H:HS g h (gK S a x q R)):ba n 69 [.ptr a 0] h λv h'=>v=.str (y7 x)∧HS g h' (gK S a x q R):=by
 refine bw (S:=S69) rfl omQ λk hk=>?_;unfold S69;try simp only[iZ]
 refine qX (qQ (qI (qZ H (b:=a) .here (x:=.int .i64 q.en) rfl ?_)));refine Kx (wW (λz g'=>g'=h∧∃u,z=(u,.bool (decide (¬q.en=2)),.ptr a 0,())∧(q.en≠2→u=.bool (!qS x))) (λj hj=>?_) ?_)
 ·refine Xd (λc=>?_) (λc=>?_)
  ·refine qY (Jd omQ (aS.I r H)) ?_;rintro _ _ ⟨rfl,rfl⟩;exact ZE (hj _ _ ⟨rfl,_,rfl,λ_=>rfl⟩)
  ·exact hj _ _ ⟨rfl,_,rfl,λh=>absurd h c⟩
 rintro _ _ ⟨rfl,u,rfl,hu⟩;dsimp only;refine NC r hu ?_;unfold y7;cases hc:yZ x with
 |false=>
  refine qG ?_
  try dsimp only
  exact ql (qF (qK (qq ⟨rfl,H⟩)))
 |true=>
  refine qG ?_
  try dsimp only
  refine qP ?_;cases hx:x.aD with
  |prog p=>
   have H0:=H;unfold gK at H0;rw[hx]at H0;have hj:=O.aD;rw[hx]at hj;obtain⟨y,sv,kd,e,H1⟩:=bc.P (H0.aJ e_1);refine qX (qQ (qZ H (b:=a) .here (x:=.bool false) (by rw[← e.2.1];rfl) ?_));refine qy (qJ (qX (qQ (qZ H (b:=a) .here (x:=.ptr y 0) (by rw[← e.1];rfl) ?_))));obtain⟨lv,ov,mv,qs,e5,H2⟩:=aG.E H1;refine qX (qQ (qZ H2 (b:=y) .here (x:=lv) rfl ?_));refine qY (qz9 (l:=p.s.out) omQ H2 (H2.rd e_1) ?_ ?_) ?_
   ·have:=hj.2.2.1.out;omega
   ·exact λz hz=>⟨e.2.2.2.2 z hz,hj.2.2.1.its z hz⟩
   rintro _ h3 ⟨rfl,H3⟩;refine qq ⟨rfl,?_⟩;have H4:=bc.PI (S:=S) (bv:=q.bv) (kv:=q.kv) e (aG.I e5 H3);unfold gK;rw[hx];exact H4.sub (.cons e_1 (.cons .here .refl))
  |ay bs k=>have H0:=H;unfold gK at H0;rw[hx]at H0;obtain⟨⟨e1,_⟩,_⟩:=bc.W (H0.aJ e_1);refine qX (qQ (qZ H (b:=a) .here (x:=.bool true) (by rw[← e1];rfl) ?_));exact qy (qK (qq ⟨rfl,H⟩))
theorem qvu (hn:3≤n) (O:zm x) (H:HS g h (aS S a x::R)):ba n 37 [.ptr a 0] h λv h'=>v=I5 (zp x)∧HS g h' (aS S a x::R):=by
 refine bw (S:=S37) rfl omQ λk hk=>?_;unfold S37;try simp only[iZ]
 have bK:=O.st;obtain⟨q,r,H0⟩:=aS.E H;have rp:=r.ph;unfold uu at rp;refine qh H0 rfl λb0 h1 H1=>?_;have H1:HS g h1 (qv b0 (xB (bx 0 0 0))::gK S a x q R):=H1;clear H H0;refine qX (qQ (qZ H1 (b:=a) e_1 (x:=.int .i64 q.ph) rfl ?_));unfold zp;have ux:∀{o:dj} {t:Bool} {h':AH},I5 (if t=true then some o else none)=.cA [.agg (xB o),.bool t]→HS g h' (qv b0 (xB (bx 0 0 0))::gK S a x q R)→wp (jw h' (.ptr b0 0) (.agg (xB o)) 10 λh2=>jr h2 (.ptr b0 0) 10 λv=>some (.cA [v,.bool t],h2)) λv h'=>v=I5 (if t=true then some o else none)∧HS g h' (aS S a x::R):=λ{o t h'} e H'=>by
  refine zq H' (b:=b0) .here rfl (by trivial) rfl λh2 H2=>?_;refine qo H2 (b:=b0) (off:=0) .here rfl omQ (l:=xB o) rfl ?_;exact qq ⟨e.symm,aS.I r H2.drop⟩
 by_cases c0:x.state=0
 ·rw[iJ c0];refine qk (by grind) (qK ?_);refine qX (qQ (qI (qZ H1 (b:=a) e_1 rfl ?_)));exact qA (l:=xB (bx 9 x.me 1)) rfl (ux (t:=true) rfl H1)
 refine qW (by grind) (qJ ?_);rw[iQ c0];by_cases c1:x.state=1
 ·rw[iJ c1];refine qk (by grind) (qK ?_);exact qA (l:=xB (bx 6 0 0)) rfl (ux (t:=true) rfl H1)
 refine qW (by grind) (qJ ?_);rw[iQ c1];by_cases c2:x.state=2
 ·rw[iJ c2];refine qk (by grind) (qK ?_);refine qX (qQ (qI (qZ H1 (b:=a) e_1 rfl ?_)));refine qX (qQ (qZ H1 (b:=a) e_1 (x:=.int .u64 x.aa) (by rw[← r.be c2];rfl) ?_));refine KD ?_;exact qA (l:=xB (bx 9 x.me (zu .u64 (x.aa+1)))) rfl (ux (t:=true) rfl H1)
 refine qW (by grind) (qJ ?_);rw[iQ c2];have get:∀{o:dj} {z:AV} {O':Option dj},some z=O'.map (λo=>AV.agg (xB o))→∃o,z=.agg (xB o)∧O'=some o:=λ{o z O'} e=>by
  cases O' with
  |none=>grind
  |some o'=>grind
 by_cases c3:x.state=3
 ·rw[iQ omQ,iQ omQ,iJ c3];refine qk (by grind) (qK ?_);obtain⟨b,⟨e1,e2⟩,H2⟩:=aV.LN c3 (O.c0 omQ) (H1.aJ e_5);refine qX (qQ (qZ H1 (b:=a) e_1 (x:=.ptr b 0) (by rw[← e2];rfl) ?_));refine qY (qXf omQ (r.fa c3).2 H2) ?_;rintro z h3 ⟨ez,H3⟩;obtain⟨o,rfl,eo⟩:=get (o:=bx 0 0 0) ez;rw[eo];have H4:=aV.A9 (st:=x.state) (e:=x.e) (ev:=q.ev) (c:=x.c) c3 (O.c0 omQ) ⟨e1,e2⟩ H3;exact ux (t:=true) rfl (H4.sub (.cons e_1 (.cons e_1 (.cons e_1 (.cons e_1 (.cons e_1 (.cons .here .refl)))))))
 refine qW (by grind) (qJ ?_);by_cases Cj:x.state=4∨x.state=5
 ·rw[iQ omQ,iQ omQ,iQ omQ,iQ omQ];refine qk (by grind) (qK ?_);obtain⟨b,⟨e1,e2⟩,H2⟩:=aV.LO Cj (O.c0 omQ) (H1.aJ e_5);refine qX (qQ (qZ H1 (b:=a) e_1 (x:=.ptr b 0) (by rw[← e2];rfl) ?_));have OE:=O.e omQ omQ;refine qY (qZ3 omQ (r.ef Cj).1 (λhl=>⟨OE.lo,OE.mH (r.ef Cj).1 hl⟩) H2) ?_;rintro z h3 ⟨ez,H3⟩;obtain⟨o,rfl,eo⟩:=get (o:=bx 0 0 0) ez;rw[eo];have H4:=aV.Ba (st:=x.state) (f:=x.f) (fv:=q.fv) (c:=x.c) Cj (O.c0 omQ) ⟨e1,e2⟩ H3;exact ux (t:=true) rfl (H4.sub (.cons e_1 (.cons e_1 (.cons e_1 (.cons e_1 (.cons e_1 (.cons .here .refl)))))))
 refine qW (by grind) (qJ ?_);by_cases c6:x.state=6
 ·rw[iQ omQ,iQ omQ,iQ c3,iJ c6];refine qk (by grind) (qK ?_);cases hc:x.c with
  |none=>exact absurd hc (O.c6 c6)
  |some c=>obtain⟨b,⟨e1,e2⟩,H2⟩:=aV.Bb hc (H1.aJ e_5);refine qX (qQ (qZ H1 (b:=a) e_1 (x:=.ptr b 0) (by rw[← e1];rfl) ?_));refine qY (qqc omQ (O.c c hc) (r.cf c6 c hc) H2) ?_;rintro z h3 ⟨ez,H3⟩;obtain⟨o,rfl,eo⟩:=get (o:=bx 0 0 0) ez;rw[Option.bind_some,eo];have H4:=aV.uw (st:=x.state) (f:=x.f) (e:=x.e) (fv:=q.fv) (ev:=q.ev) hc ⟨e1,e2⟩ H3;exact ux (t:=true) rfl (H4.sub (.cons e_1 (.cons e_1 (.cons e_1 (.cons e_1 (.cons e_1 (.cons .here .refl)))))))
 refine qW (by grind) (qJ ?_);by_cases c7:x.state=7
 ·rw[iJ c7];refine qk (by grind) (qK ?_);refine qX (qQ (qI (qZ H1 (b:=a) e_1 rfl ?_)));exact qA (l:=xB (bx 9 x.me 0)) rfl (ux (t:=true) rfl H1)
 rw[iQ c7,iJ omQ];refine qW (by grind) (qJ ?_);exact qA (l:=xB (bx 0 0 0)) rfl (ux (t:=false) rfl H1)
end
end
section
variable {g h:AH} {L R R':List SP}
section
variable {n a b:Nat} {x:q9} {q:Nq} {S:SP}
theorem Uu {y:q9} {c:jX} (h8:y.state≠8) (hc:y.c=some c):jZ y={ y with aa:=if(xG c||decide (c.p.fin=2))=true then vF c else y.aa }:=by
 have key:qS y=(xG c||decide (c.p.fin=2)):=by simp_all[qS,iG]
 unfold jZ;rw[key];by_cases hw:(xG c||decide (c.p.fin=2))=true
 ·grind
 ·rw[iQ hw,iQ hw]
theorem qzn {c:jX} (h6:x.state=6) (hc:x.c=some c) (E:YF c):jz x=if c.p.fin=0 then{ x with aa:=if(xG c||decide (c.p.fin=2))=true then vF c else x.aa }else
  z4 { x with aa:=if(xG c||decide (c.p.fin=2))=true then vF c else x.aa } c.p.fin c.p.err (if c.p.fin=2 then-1 else c.p.bH):=by
 have hf:zd x=(c.p.fin,c.p.bH):=by simp_all[zd,omQ]
 have e0:jz x=jZ (if c.p.fin=0 then x else z4 x c.p.fin c.p.err (if c.p.fin=2 then-1 else c.p.bH)):=by
  unfold jz;rw[hf];dsimp only
  congr 1
  by_cases c0:c.p.fin=0
  ·grind
  rw[iQ c0,iQ c0];rcases E with⟨E,_⟩ |⟨E1,E2,E3⟩ |⟨E1,E2⟩ |⟨E1,E2⟩
  all_goals simp_all[omQ,jd]
 rw[e0]
 split
 all_goals simp_all[Uu,omQ,z4]
theorem qzb {an:cB} (hn:18≤n) (O:zm x) (ha:vB an) (s:bB R S R') (H:HS g h (aS S a x::R)):ba n 39 [.ptr a 0,.agg (zY an)] h λ_ h'=>HS g h' (aS S a (qd x an)::R):=by
 refine cu (S:=S39) rfl omQ λk hk=>?_;unfold S39;try simp only[iZ]
 have bK:=O.st;obtain⟨q,r,H0⟩:=aS.E H;refine qh H0 rfl λb0 h1 H1=>?_;have H1:HS g h1 (qv b0 (zY an)::gK S a x q R):=H1;clear H H0;refine qX (qQ (qI (qZ H1 (b:=a) e_1 (x:=.int .i64 q.en) rfl ?_)));generalize hA:qd x an=A;unfold qd at hA;by_cases c8:x.state=8
 ·rw[iJ c8]at hA;subst hA;exact jb (λh=>r.Fm.1 h c8) (qK (qq (aS.I r H1.drop)))
 rw[iQ c8]at hA;refine jR (r.Fm.2 c8) (qJ ?_);have dZ:=r.ends c8;have rp:=r.ph;unfold uu at rp;have eX:xV x q=zJ ⟨x.me,q.sp,0,-1,0⟩ q.sp++(xV x q).drop 5:=by grind[xV,zJ]
 have H2:HS g h1 (qv a (zJ ⟨x.me,q.sp,0,-1,0⟩ q.sp++(xV x q).drop 5)::qv b0 (zY an)::bc S q.vb x.aD q.xv q.bv q.sw q.kv::aR q.vb x.v::bJ q.rb x.r::aV x.state x.f x.e x.c q.fv q.ev q.cv::R):=by rw[← eX];exact H1.sub (.cons e_1 (.cons .here .refl))
 refine qX (qQ ?_);refine qo H1 (b:=b0) (off:=0) .here rfl omQ (l:=zY an) rfl ?_;refine qY (GZ (a:=an) (p:=⟨x.me,q.sp,0,-1,0⟩) (sp:=q.sp) omQ rfl (λ_=>⟨rfl,rfl,rfl⟩) H2) ?_;rintro _ h3 ⟨fL,rfl,Q',H3⟩;clear H1 H2;by_cases ce:an.err=0
 rotate_left
 ·rw[iJ ce]at hA;subst hA;have e0:jJ ⟨x.me,q.sp,0,-1,0⟩ an=(true,jI ⟨x.me,q.sp,0,-1,0⟩ 4 an.err (-1)):=by
   unfold jJ;grind
  rw[e0]at H3 ⊢;refine qK ?_;have H3:HS g h3 (qv a (xV x { q with sp:=fL,en:=4,ee:=an.err,eb:=-1 })::qv b0 (zY an)::bc S q.vb x.aD q.xv q.bv q.sw q.kv::aR q.vb x.v::bJ q.rb x.r::aV x.state x.f x.e x.c q.fv q.ev q.cv::R):=H3;refine qX (qQ (qx H3 (b:=a) .here ⟨rfl,rfl⟩ (by simp[xV]) λh4 H4=>qq ?_));refine aS.I (q:={ q with sp:=fL,en:=4,ee:=an.err,eb:=-1,ph:=7 }) ⟨⟨rfl,rfl,rfl⟩,rfl,λ_ h=>absurd h (by simp),λh=>(by grind),λh=>(by grind),λh=>(by grind),λh=>(by grind),λ_=>.inr (.inr (.inl rfl)),λh=>absurd h (by simp),λh=>(by grind),λh=>absurd h (by simp)⟩ ?_;have H5:=aV.out (st':=8) (.inr rfl) (H4.aJ e_5);exact H5.sub (.cons e_1 (.cons e_2 (.cons e_2 (.cons e_2 (.cons .here (.drop .refl))))))
 rw[iQ (λh=>h ce)]at hA;have e0:jJ ⟨x.me,q.sp,0,-1,0⟩ an=(false,⟨x.me,q.sp,0,-1,0⟩):=Qx rfl ce;rw[e0]at H3 Q' ⊢;have q1:fL=q.sp:=(Q' rfl).1;subst q1;rw[← eX]at H3;refine qJ (qX (qQ (qZ H3 (b:=a) .here (x:=.int .i64 q.ph) rfl ?_)));refine jc [] (λ_ h'=>HS g h' (aS S a A::R)) (λj hj=>?_) λ_ h' H'=>qj (qq H');by_cases c0:x.state=0
 ·rw[iJ c0]at hA;subst hA;refine qk (by grind) (qK ?_);refine qX (qQ (qx H3 (b:=a) .here ⟨rfl,rfl⟩ (by simp[xV]) λh4 H4=>hj _ _ (aS.I (q:={ q with ph:=1 }) ?_ ?_)))
  ·exact⟨dZ,rfl,λh=>absurd h (by simp),λh=>(by grind),λh=>(by grind),λh=>(by grind),λh=>(by grind),λh=>absurd h (by simp),λ_=>⟨λh=>(by have:=(r.bl omQ).1 h;omega),λh=>(by grind)⟩,λh=>(by grind),λ_=>r.bg omQ⟩
  ·obtain⟨e,H5⟩:=aV.LQ (O.c0 omQ) (H4.aJ e_5);have H6:=aV.uv (st:=1) (f:=x.f) (e:=x.e) (c:=x.c) (fv:=q.fv) (ev:=q.ev) od (O.c0 omQ) e H5;exact H6.sub (.cons e_1 (.cons e_2 (.cons e_2 (.cons e_2 (.cons .here (.drop .refl))))))
 rw[iQ c0]at hA;refine qW (by grind) (qJ ?_);by_cases c1:x.state=1
 ·rw[iJ c1]at hA;subst hA;refine qk (by grind) (qK (qG ?_))
  try dsimp only
  refine qQ (qZ H3 (b:=b0) e_1 (x:=.int .u64 an.word) rfl ?_);refine qQ (qZ H3 (b:=b0) e_1 (x:=.int .u64 an.word) rfl ?_);refine qX (qQ (qx H3 (b:=a) .here ⟨rfl,rfl⟩ (by simp[xV]) λh4 H4=>?_));refine qX (qQ (qx H4 (b:=a) .here ⟨rfl,rfl⟩ (by simp[xV]) λh5 H5=>?_));refine qX (qQ (qx H5 (b:=a) .here ⟨rfl,rfl⟩ (by simp[xV]) λh6 H6=>?_));refine jU H3 (b:=b0) e_1 rfl H4 e_1 rfl (HS.lt H3 e_1) ?_;refine qX (qQ (qx H6 (b:=a) .here ⟨rfl,rfl⟩ (by simp[xV]) λh7 H7=>hj _ _ (aS.I (q:={ q with ph:=2 }) ?_ ?_)))
  ·exact⟨dZ,rfl,λh=>absurd h (by simp),λh=>(by grind),λh=>(by grind),λh=>(by grind),λh=>(by grind),λh=>absurd h (by simp),λ_=>⟨λh=>(by have:=(r.bl omQ).1 h;omega),λh=>(by grind)⟩,λ_=>rfl,λh=>absurd h (by simp)⟩
  ·obtain⟨e,H8⟩:=aV.LQ (O.c0 omQ) (H7.aJ e_5);have H9:=aV.uv (st:=2) (f:=x.f) (e:=x.e) (c:=x.c) (fv:=q.fv) (ev:=q.ev) od (O.c0 omQ) e H8;exact H9.sub (.cons e_1 (.cons e_2 (.cons e_2 (.cons e_2 (.cons .here (.drop .refl))))))
 rw[iQ c1]at hA;refine qW (by grind) (qJ ?_);by_cases c2:x.state=2
 ·rw[iJ c2]at hA;subst hA;refine qk (by grind) (qK ?_);obtain⟨e,H4⟩:=aV.LQ (O.c0 omQ) (H3.aJ e_5);have hb:x.aL=false:=by
   cases hx:x.aL with
   |false=>rfl
   |true=>have:=(r.bl omQ).1 hx;omega
  refine qY (qJ9 (q:=q) (R:=R) omQ O.b (O.aD.same λ_=>by omega) (O.c0 omQ) e dZ hb s (H4.sub (.cons .here (.cons e_1 (.cons e_1 (.cons e_1 (.drop .refl))))))) λ_ h5 H5=>hj _ _ H5
 rw[iQ c2]at hA;refine qW (by grind) (qJ ?_);by_cases c3:x.state=3
 ·rw[iQ omQ,iJ c3]at hA;subst hA;refine qk (by grind) (qK ?_);obtain⟨b,⟨e1,e2⟩,H4⟩:=aV.LN c3 (O.c0 omQ) (H3.aJ e_5);refine qX (qQ (qZ H3 (b:=a) .here (x:=.ptr b 0) (by rw[← e2];rfl) ?_));refine qo H3 (b:=b0) (off:=0) e_1 rfl omQ (l:=zY an) rfl ?_;have hf:=r.fa c3;have hF:=O.f c3;refine qY (qqa (a:=an) omQ hf.2 (hF.1 hf.2) H4) λ_ h5 H5=>?_;obtain⟨t1,t2⟩:=qJs hf.2 ce;have hb:x.aL=false:=by
   cases hx:x.aL with
   |false=>rfl
   |true=>have:=(r.bl omQ).1 hx;omega
  have O':zm { x with f:=zC x.f an }:=⟨O.set,O.aE,O.sz,O.fr,O.r,O.aD,O.st,λh=>⟨KX (O.f h).1,XI (O.f h).2 ha⟩,O.aB,O.e,O.c,O.c0,O.c6⟩;have eT:jz { x with f:=zC x.f an }=wq { x with f:=zC x.f an }:=iE.stamped (iE.led (x:={ x with f:=zC x.f an }) (O.c0 omQ));rw[eT]at hj ⊢;refine qY (qXl (x:={ x with f:=zC x.f an }) (b:=b) (q:=q) (R:=R) omQ O' c3 t2 (t1.trans hf.1) (r.nd omQ omQ) e1 e2 dZ (by grind) hb s (H5.sub (.cons e_1 (.cons e_2 (.cons e_2 (.cons e_2 (.cons .here (.drop .refl)))))))) λ_ h6 H6=>hj _ _ H6
 refine qW (by grind) (qJ ?_);by_cases Cj:x.state=4∨x.state=5
 ·rw[iQ omQ,iQ c3,iQ omQ]at hA;subst hA;refine qk (by grind) (qK ?_);obtain⟨b,⟨e1,e2⟩,H4⟩:=aV.LO Cj (O.c0 omQ) (H3.aJ e_5);refine qX (qQ (qZ H3 (b:=a) .here (x:=.ptr b 0) (by rw[← e2];rfl) ?_));refine qo H3 (b:=b0) (off:=0) e_1 rfl omQ (l:=zY an) rfl ?_;have he:=r.ef Cj;have OE:=O.e omQ omQ;refine qY (qZ9 (a:=an) omQ he.1 ce he.2 OE H4) λ_ h5 H5=>?_;obtain⟨t1,t2⟩:=qZi he.1 ce;have O':zm { x with e:=zS x.e an }:=⟨O.set,O.aE,O.sz,O.fr,O.r,O.aD,O.st,O.f,O.aB,λh1 h2=>Kj (O.e h1 h2),O.c,O.c0,O.c6⟩;have eT:jz { x with e:=zS x.e an }=wq { x with e:=zS x.e an }:=iE.stamped (iE.led (x:={ x with e:=zS x.e an }) (O.c0 omQ));rw[eT]at hj ⊢;refine qY (qQf (x:={ x with e:=zS x.e an }) (b:=b) (q:=q) (R:=R) (S:=S) omQ O' Cj t2 t1 (λh=>r.nd (by grind) (by grind)) e1 e2 dZ (by grind) (r.bl omQ) (H5.sub (.cons e_1 (.cons e_2 (.cons e_2 (.cons e_2 (.cons .here (.drop .refl)))))))) λ_ h6 H6=>hj _ _ H6
 refine qW (by grind) (qJ ?_);by_cases c6:x.state=6
 rotate_left
 ·have c7:x.state=7:=by omega
  rw[iJ c7]at hA;subst hA;refine qW (by grind) (qJ ?_);refine qk (by grind) (qK ?_);obtain⟨o1,o2,o3⟩:=r.ou c7;refine qX (qQ (qZ H3 (b:=a) .here (x:=.int .i64 q.ou) rfl ?_));refine qX (qQ (qZ H3 (b:=a) .here (x:=.int .i64 q.er) rfl ?_));refine qX (qQ (qZ H3 (b:=a) .here (x:=.int .i64 q.bH) rfl ?_));refine qX (qQ (qx H3 (b:=a) .here ⟨rfl,rfl⟩ (by simp[xV]) λh4 H4=>?_));refine qX (qQ (qI (qx H4 (b:=a) .here ⟨rfl,rfl⟩ (by simp[xV]) λh5 H5=>?_)));refine qX (qQ (qI (qx H5 (b:=a) .here ⟨rfl,rfl⟩ (by simp[xV]) λh6 H6=>?_)));refine qX (qQ (qI (qx H6 (b:=a) .here ⟨rfl,rfl⟩ (by simp[xV]) λh7 H7=>?_)));refine hj _ _ (aS.I (q:={ q with ph:=7,en:=q.ou,ee:=q.er,eb:=q.bH }) ⟨⟨o1,o2,o3⟩,rfl,λ_ h=>absurd h (by simp),λh=>(by grind),λh=>(by grind),λh=>(by grind),λh=>(by grind),λ_=>r.fin omQ,λh=>absurd h (by simp),λh=>(by grind),λh=>absurd h (by simp)⟩ ?_);have H8:=aV.out (st':=8) (.inr rfl) (H7.aJ e_5);exact H8.sub (.cons e_1 (.cons e_2 (.cons e_2 (.cons e_2 (.cons .here (.drop .refl))))))
 rw[iQ omQ,iQ c3,iJ c6]at hA;subst hA;refine qk (by grind) (qK ?_);cases hc:x.c with
 |none=>exact absurd hc (O.c6 c6)
 |some c=>
  rw[hc]at hj;obtain⟨b,⟨e1,e2⟩,H4⟩:=aV.Bb hc (H3.aJ e_5);refine qX (qQ (qZ H3 (b:=a) .here (x:=.ptr b 0) (by rw[← e1];rfl) ?_));refine qo H3 (b:=b0) (off:=0) e_1 rfl omQ (l:=zY an) rfl ?_;have Oc:=O.c c hc;refine qY (qY7 (a:=an) omQ Oc H4) λ_ h5 H5=>?_;have E:=qjB (a:=an) e2 Oc.st ce;have Oc2:=yR Oc ha;have eT:=qzn (x:={ x with c:=some (jV c an) }) c6 rfl E;rw[show(Option.map (λc=>jV c an) (some c))=some (jV c an)from rfl,eT]at hj ⊢;generalize jV c an=d at*;have mI:=Oc2.now;have H5:HS g h5 (bT b d::qv a (xV x q)::qv b0 (zY an)::bc S q.vb x.aD q.xv q.bv q.sw q.kv::aR q.vb x.v::bJ q.rb x.r::R):=H5;obtain⟨dq,dr,dm,H6⟩:=bT.E H5;clear H3 H4 eT;generalize hw:(xG d||decide (d.p.fin=2))=w at*;have hT:w=true→dq.t=d.now∧vF d=d.now+1:=λh=>by
   have h2:d.p.fin=0∨d.p.fin=2:=by
    rw[← hw]at h;unfold xG at h;grind
   have h3:d.ag=true∧3≤d.state∧d.state≤6:=by
    rcases h2 with d0 |d2
    ·rw[← hw]at h;unfold xG at h;rw[iG d0,Bool.and_true,iV omQ,Bool.or_false]at h;have:=(dr.w (.inl d0)).1 h;grind
    ·have h4:=(dr.w (.inr d2)).2 (.inl d2);have h5:d.state=6:=by
      rcases E with E |E |E
      all_goals grind[A8]
     grind
   refine⟨dr.t h3.2.1 h3.2.2,?_⟩;grind[vF]
  refine jc [] (λz h'=>z=(.ptr a 0,())∧HS g h' (qv a (xV { x with c:=some d,aa:=if w=true then vF d else x.aa } q)::bT b d::bc S q.vb x.aD q.xv q.bv q.sw q.kv::aR q.vb x.v::bJ q.rb x.r::R)) (λj2 oO=>?_) ?_
  ·have ldc:∀{K:AV→Go.Ae.R} {Q:AV→AH→Prop},wp (K (.ptr b 0)) Q→wp (zn (.ptr a 0) λv=>qH v 22 λv=>jK h5 v K) Q:=λw=>qX (qQ (qZ H5 (b:=a) e_1 (x:=.ptr b 0) (by rw[← e1];rfl) w));refine ldc (qY (KF omQ H5) ?_);rintro _ h5 ⟨rfl,rfl⟩;refine wW (λz g'=>g'=h5∧∃u v,z=(u,v,.ptr a 0,())∧((v=.bool true∧w=true)∨(v=.bool false∧u=.bool w))) (λj hj=>?_) ?_
   ·cases Fh:xG d with
    |true=>refine ql (hj _ _ ⟨rfl,_,_,rfl,.inl ⟨rfl,?_⟩⟩);grind
    |false=>refine qP (ldc (qX (qQ (qI (qZ H6 (b:=b) .here (x:=.int .i64 d.p.fin) rfl ?_)))));refine J7 (hj _ _ ⟨rfl,_,_,rfl,.inr ⟨rfl,?_⟩⟩);grind
   rintro _ h5 ⟨rfl,u,v,rfl,huv⟩;dsimp only;have hp:∀{K:AV→Go.Ae.R} {Q:AV→AH→Prop},wp (K (.bool w)) Q→wp (w4 v (.bool true) u K) Q:=λ{K Q} wk=>by
    rcases huv with⟨rfl,fV⟩ |⟨rfl,rfl⟩
    ·rw[fV]at wk;exact qF wk
    ·exact qy wk
   refine hp ?_;cases w with
   |true=>obtain⟨t1,t2⟩:=hT rfl;refine qK (ldc ?_);refine qX (qQ (qZ H6 (b:=b) .here (x:=.int .u64 d.now) (by rw[← t1];rfl) ?_));refine yK omQ ?_;refine qX (qQ (qx H5 (b:=a) e_1 ⟨rfl,rfl⟩ (by simp[xV]) λh6 H7=>oO _ _ ⟨rfl,?_⟩));rw[iJ rfl,t2];exact H7.sub (.cons .here (.cons .here (.drop .refl)))
   |false=>refine qJ (oO _ _ ⟨rfl,?_⟩);rw[iQ (λh=>by grind)];exact H5.sub (.cons e_1 (.cons .here (.drop .refl)))
  rintro _ h6 ⟨rfl,H7⟩;dsimp only;clear H5 H6;generalize(if w=true then vF d else x.aa)=st at*;obtain⟨dq,dr,dm,H8⟩:=bT.E (H7.aJ e_1);refine qX (qQ (qZ H8 (b:=a) e_5 (x:=.ptr b 0) (by rw[← e1];rfl) ?_));refine qX (qQ (qI (qZ H8 (b:=b) .here (x:=.int .i64 d.p.fin) rfl ?_)));have gone:∀{f e y:Int} {h7:AH},(f=2∨f=3∨f=4∨f=5)→HS g h7 (qv a (xV { x with c:=some d,aa:=st } { q with ph:=6,ou:=f,er:=e,bH:=y })::bT b d::bc S q.vb x.aD q.xv q.bv q.sw q.kv::aR q.vb x.v::bJ q.rb x.r::R)→HS g h7 (aS S a (z4 { x with c:=some d,aa:=st } f e y)::R):=λ{f e y h7} h0 H'=>by
   refine aS.I (ge.gone dZ h0) ?_;have Il:=aV.uw (st:=7) (f:=x.f) (e:=x.e) (c:=some d) (fv:=q.fv) (ev:=q.ev) rfl ⟨e1,E⟩ (H'.aJ e_1);exact Il.sub (.cons e_1 (.cons e_1 (.cons e_1 (.cons e_1 (.cons .here .refl)))))
  by_cases d0:d.p.fin=0
  ·rw[iJ d0]at hj ⊢;refine qG ?_
   try dsimp only
   refine qW omQ (qJ (qG ?_))
   try dsimp only
   refine qW omQ (qJ ?_);refine qW omQ (qJ (hj _ _ (aS.I (q:=q) ⟨⟨dZ.1.trans (iJ c8).symm,dZ.2.1.trans (iJ c8).symm,dZ.2.2.trans (iJ c8).symm⟩,?_,λh1 h2=>(by grind),λh=>(by grind),λh=>(by grind),λh=>(by grind),λ_ d' hd=>(by grind),λh=>(by grind),λh=>(by grind),λh=>(by grind),λh=>(by grind)⟩ ?_)))
   ·trivial
   ·have H9:=aV.uw (st:=x.state) (f:=x.f) (e:=x.e) (c:=some d) (fv:=q.fv) (ev:=q.ev) rfl ⟨e1,E⟩ (H7.aJ e_1);exact H9.sub (.cons e_1 (.cons e_1 (.cons e_1 (.cons e_1 (.cons .here .refl)))))
  rw[iQ d0]at hj ⊢;by_cases d2:d.p.fin=2
  ·have de:d.p.err=0:=by
    rcases E with E |E |E
    all_goals grind[A8]
   rw[iJ d2,d2,de]at hj ⊢;refine qG ?_
   try dsimp only
   refine qk rfl (qK ?_);exact qY (gB omQ H7) λ_ h7 H9=>hj _ _ (gone od H9)
  ·rw[iQ d2]at hj ⊢;have d45:d.p.fin=5∨d.p.fin=4:=by
    rcases E with E |E |E
    all_goals grind[A8]
   refine qG ?_
   try dsimp only
   refine qW d2 (qJ ?_);refine jc [] (λz g'=>g'=h6∧z=(.bool true,.ptr a 0,())) (λj3 mR=>?_) ?_
   ·by_cases d5:d.p.fin=5
    ·exact qk d5 (qK (mR _ _ ⟨rfl,rfl⟩))
    ·exact qW d5 (qJ (qk omQ (mR _ _ ⟨rfl,rfl⟩)))
   rintro _ h6 ⟨rfl,rfl⟩;dsimp only;refine qK ?_;have ldp:∀{f:Nat} {v:AV} {K:AV→Go.Ae.R} {Q:AV→AH→Prop},(xy d dq)[0+f]? =some v→wp (K v) Q→wp (zn (.ptr a 0) λv=>qH v 22 λv=>jK h6 v λv=>zn v λv=>qH v 0 λv=>qH v f λv=>jK h6 v K) Q:=λe w=>qX (qQ (qZ H8 (b:=a) e_5 (x:=.ptr b 0) (by rw[← e1];rfl) (qX (qQ (qI (qZ H8 (b:=b) .here e w))))));refine ldp (v:=.int .i64 d.p.fin) rfl ?_;refine ldp (v:=.int .i64 d.p.err) rfl ?_;refine ldp (v:=.int .i64 d.p.bH) rfl ?_;exact qY (gB omQ H7) λ_ h7 H9=>hj _ _ (gone omQ H9)
end
end
section
variable {g h:AH} {L R:List SP}
section
variable {n b:Nat} {t:qu} {q:E0}
theorem ThrB.next (B:ThrB t) (hj:t.aD<t.jobs.length):ThrB { t with aD:=t.aD+1,ay:=false,ax:=[],ak:=0,aC:=0 }:=by have h1:=B.aD;have h2:=B.af;exact⟨B.set,B.me,B.jobs,B.jl,by grind,by grind,B.au,by simp,by simp,λ_=>rfl⟩
end
end
section
variable {g h:AH} {L R:List SP}
section
variable {n a b:Nat} {t:qu} {q:E0} {x:q9}
theorem bm.E {r:List zP} {v:AV} (H:HS g h (bm r v::R)):∃zs:List (zP×B8),zs.map (·.1)=r∧HS g h (qC 61 14 zs.length v (zs.flatMap λz=>gO z.1 z.2):: .all (zs.flatMap λz=>vH z.1 z.2)::R):=by obtain⟨zs,H⟩:=H.iq;exact⟨zs,H.cE.dT⟩
theorem bm.I {r:List zP} {v:AV} {zs:List (zP×B8)} (hl:zs.map (·.1)=r) (H:HS g h (qC 61 14 zs.length v (zs.flatMap λz=>gO z.1 z.2):: .all (zs.flatMap λz=>vH z.1 z.2)::R)):HS g h (bm r v::R) :=
 HS.iO zs (HS.allI (A:=[_,_,_]) (HS.dU hl H))
theorem Gk {A B:List SP} (H:HS g h (.all A::(B++R))):HS g h (.all (A++B)::R):=by refine HS.allI ?_;rw[List.append_assoc];exact H.cE
end
end
section
variable {g h:AH} {L R R':List SP}
def dB (S:SP) (x:Option q9) (v:AV):SP:=match x with
 |none=>.fk (v=.aW)
 |some x=>.ex λa:Nat=>.all [.fk (v=.ptr a 0),aS S a x]
structure X0 where
  jv:AV
  gv:AV
  nv:AV
  pv:AV
  rv:AV
  lv:AV
  sv:AV
  js:List AV
  zs:List Int
  bo:Int
  al:Bool
  le:Int
  at_:Int
def ze (t:qu) (q:X0):List AV:=[.int .i64 t.me,.int .i64 t.set.words,.int .i64 t.set.ae,.int .i64 t.set.wide,.int .i64 t.set.ad,.int .u64 t.set.start,.int .i64 t.set.spins,.int .i64 t.set.writes,.int .i64 t.set.fuel,
 q.jv,.int .i64 t.aD,.int .i64 t.state,q.nv,q.rv,q.lv,q.gv,q.pv,.int .i64 t.ak,.int .i64 t.aC,.int .i64 q.bo,.bool q.al,.int .i64 t.bH,.int .u64 t.since,.bool t.bf,.int .i64 q.le,.int .i64 q.at_,q.sv,.bool t.ay]
def Ck (S:SP) (t:qu) (q:X0):Prop:=q.js.length=t.jobs.length∧∀(k:Nat) (l:List qO) (v:AV),t.jobs[k]? =some l→q.js[k]? =some v→mW S 5 l.length v (l.flatMap ju)
structure Z3 (S:SP) (t:qu) (q:X0):Prop where
  js:Ck S t q
  bo:t.state≠6→q.bo=t.born∧q.al=t.bI
  le:t.state=3→q.le=t.aP
  at_:t.state=5→q.at_=t.au.length∧q.zs=t.au++List.replicate (t.set.ad.toNat-t.au.length) 0
abbrev wb (t:qu) (q:X0) (R:List SP):List SP :=
 qC 77 1 t.jobs.length q.jv q.js::qC 130 2 t.ax.length q.gv (t.ax.flatMap jH)::bm t.ah q.pv::qC 166 4 t.results.length q.rv (t.results.flatMap B9)::qC 130 2 t.af.length q.lv (t.af.flatMap jH)::qC 22 1 q.zs.length q.sv (q.zs.map (.int .u64))::R
abbrev Gp (S:SP) (b:Nat) (t:qu) (q:X0) (R:List SP):List SP:=dB S t.now q.nv::qv b (ze t q)::wb t q R
abbrev iU (S:SP) (a b:Nat) (t:qu) (x:q9) (q:X0) (R:List SP):List SP:=aS S a x::qv b (ze t q)::wb t q R
def aT (S:SP) (b:Nat) (t:qu):SP:=.ex λq:X0=>.all (.fk (Z3 S t q)::Gp S b t q [])
section
variable {n a b:Nat} {t:qu} {q:X0} {S:SP} {x:q9}
theorem aT.E (H:HS g h (aT S b t::R)):∃q,Z3 S t q∧HS g h (Gp S b t q R):=by obtain⟨q,H⟩:=H.iq;obtain⟨r,H⟩:=H.cE.dT;exact⟨q,r,H⟩
theorem aT.I (r:Z3 S t q) (H:HS g h (Gp S b t q R)):HS g h (aT S b t::R):=HS.iO q (HS.allI (A:=.fk (Z3 S t q)::Gp S b t q []) (HS.dU r H))
theorem dB.E {v:AV} (H:HS g h (dB S (some x) v::R)):∃a,v=.ptr a 0∧HS g h (aS S a x::R):=by obtain⟨a,H⟩:=(show HS g h (.ex (λa:Nat=>SP.all [.fk (v=.ptr a 0),aS S a x])::R)from H).iq;have H:=H.cE.dT;simp_all
theorem dB.I {v:AV} (e:v=.ptr a 0) (H:HS g h (aS S a x::R)):HS g h (dB S (some x) v::R) :=
 show HS g h (.ex (λa':Nat=>SP.all [.fk (v=.ptr a' 0),aS S a' x])::R)from HS.iO a (HS.allI (A:=[_,_]) (HS.dU e H))
theorem aT.V (hx:t.now=some x) (H:HS g h (aT S b t::R)):∃a q,Z3 S t q∧q.nv=.ptr a 0∧HS g h (iU S a b t x q R):=by obtain⟨q,r,H0⟩:=aT.E H;unfold Gp at H0;grind[dB.E]
theorem iU.I (hx:t.now=some x) (r:Z3 S t q) (e:q.nv=.ptr a 0) (H:HS g h (iU S a b t x q R)):HS g h (aT S b t::R):=by refine aT.I r ?_;simp_all[Gp,dB.I]
theorem VT {pick:Int} {qa:Nq} (hn:8≤n) (O:zm x) (ebo:q.bo=t.born) (e:q.nv=.ptr a 0) (r:ge x qa) (H:HS g h (gK S a x qa (qv b (ze t q)::R))) :
  ba n 47 [.ptr b 0,.int .i64 pick] h λv h'=>∃z,v=.agg (gO (jq t x pick) z)∧HS g h' (vH (jq t x pick) z++gK S a x qa (qv b (ze t q)::R)):=by
 refine cu (S:=S47) rfl omQ λk hk=>?_;unfold S47;try simp only[iZ]
 have hK:=O.aE.ok.Ax;refine qh H rfl λv0 h1 H1=>?_;clear H;refine qX (qQ (qZ H1 (b:=b) e_6 (x:=.ptr a 0) (by rw[← e];rfl) ?_));refine qX (qQ (qI (qZ H1 (b:=a) e_1 (x:=.int .i64 (jf x)) (by rw[← r.en.1];rfl) ?_)));refine jc [] (λz h'=>z=(.int .i64 (if qS x=true then 2 else jf x),.ptr a 0,.ptr v0 0,.int .i64 pick,.ptr b 0,())∧h'=h1) (λj hj=>?_) ?_
 ·refine qY (Jd omQ (aS.I r H1.drop)) ?_;rintro _ h1 ⟨rfl,rfl⟩;cases hw:qS x with
  |true=>exact qK (hj _ _ ⟨by grind,rfl⟩)
  |false=>exact qJ (hj _ _ ⟨by grind,rfl⟩)
 rintro _ h1 ⟨rfl,rfl⟩;dsimp only;refine qG ?_
 try dsimp only
 refine qX (qQ (qZ H1 (b:=b) e_6 (x:=.int .i64 t.me) rfl ?_));refine qX (qQ (qZ H1 (b:=b) e_6 (x:=.int .i64 t.aD) rfl ?_));refine qX (qQ (qZ H1 (b:=b) e_6 (x:=.int .i64 t.ak) rfl ?_));refine qX (qQ (qZ H1 (b:=b) e_6 (x:=.bool t.ay) rfl ?_));refine qX (qQ (qI (qZ H1 (b:=a) e_1 (x:=.int .i64 (vU x)) (by rw[← r.en.2.1];rfl) ?_)));refine qX (qQ (qZ H1 (b:=a) e_1 (x:=.int .u64 x.aI) rfl ?_));refine qX (qQ (qZ H1 (b:=a) e_1 (x:=.int .u64 x.aa) rfl ?_));refine qX (qQ (qZ H1 (b:=b) e_6 (x:=.int .i64 t.born) (by rw[← ebo];rfl) ?_));refine qX (qQ (qZ H1 (b:=a) e_1 (x:=.ptr qa.vb 0) rfl ?_));obtain⟨kv,lq,H2⟩:=aR.E (H1.aJ (P:=aR qa.vb x.v) e_3);refine qX (qQ (qZ H2 (b:=qa.vb) .here (x:=kv) rfl ?_));refine QZ H2 (H2.sl e_1) omQ omQ (J0 _) λrv h3 H3=>?_;have H3:=(aR.I (o:=qa.vb) (M:=x.v) (kv:=kv) (q:=lq) (H3.sub (.cons e_1 (.cons e_1 (.cons e_1 (.cons .here .refl)))))).sub (L':=gK S a x qa (qC 63 2 x.v.K.length rv (x.v.K.flatMap jH)::qv v0 [.int .i64 0,.int .i64 0,.int .i64 0,.bool false,.int .i64 0,.int .i64 0,.int .u64 0,.int .u64 0,.int .i64 0,.int .i64 0,.aj,.aj,.aj,.str []]::qv b (ze t q)::R)) (.cons e_3 (.cons e_3 (.cons .here (.cons e_2 (.cons e_2 .refl)))));clear H2;refine qY (qq2 omQ O r H3) λcv h4 H4=>?_;have H4:=H4.sub (L':=gK S a x qa (qC 63 2 (yS x).length cv ((yS x).flatMap jH)::qC 63 2 x.v.K.length rv (x.v.K.flatMap jH)::qv v0 [.int .i64 0,.int .i64 0,.int .i64 0,.bool false,.int .i64 0,.int .i64 0,.int .u64 0,.int .u64 0,.int .i64 0,.int .i64 0,.aj,.aj,.aj,.str []]::qv b (ze t q)::R)) (.cons e_1 (.cons e_1 (.cons e_1 (.cons e_1 (.cons e_1 .refl)))));have hfl:(jG x).length≤1000000:=by
  unfold jG
  split
  ·split
   ·rename_i bs k hj;have:=O.aD;rw[hj]at this;have:=this.2;omega
   ·have:=O.fr;grind[NR]
  simp
 refine qY (ZZ omQ O r H4) ?_;rintro fv0 h5 ⟨T,H5,rd,_⟩;refine QZ H5 (rd.sl H5) omQ omQ (wL _) λfv h6 H6=>?_;have LS:=H6.sub (L':=gK S a x qa (qC 3 1 (jG x).length fv ((jG x).map (.int .i64))::T::qC 63 2 (yS x).length cv ((yS x).flatMap jH)::qC 63 2 x.v.K.length rv (x.v.K.flatMap jH)::qv v0 [.int .i64 0,.int .i64 0,.int .i64 0,.bool false,.int .i64 0,.int .i64 0,.int .u64 0,.int .u64 0,.int .i64 0,.int .i64 0,.aj,.aj,.aj,.str []]::qv b (ze t q)::R)) (.cons e_2 (.cons e_2 (.cons e_2 (.cons e_2 (.cons e_2 .refl)))));refine qY (Ou omQ O r LS) ?_;rintro _ h7 ⟨rfl,H7⟩;have o1:=H7.one (v:=rv) e_8;have o2:=H7.one (v:=cv) e_7;have o3:=H7.one (v:=fv) e_5;have a1:jW (gO (jq t x pick) ⟨rv,cv,3,fv⟩)=true:=by simp only[jW,gO,List.all_cons,o1.2,o2.2,o3.2];rfl
 refine qA (l:=gO (jq t x pick) ⟨rv,cv,3,fv⟩) (by simp only[gn,o1.1,o2.1,o3.1];rfl) ?_;refine zq H7 (b:=v0) e_9 rfl (by simp) a1 λh8 H8=>?_;have LU:∀{f:Nat} {v:AV} {K0:Go.Ae.R} {Q:AV→AH→Prop},(ze t q)[f]? =some v→wp K0 Q→wp (kA (.ptr b f) none v h6 h7 h1.nx (kA (.ptr b f) none v h5 h6 h1.nx (kA (.ptr b f) none v h4 h5 h1.nx (kA (.ptr b f) none v h3 h4 h1.nx (kA (.ptr b f) none v h1 h3 h1.nx K0))))) Q:=λe w=>jU LS e_10 e H7 e_10 e (HS.lt H1 e_6) (jU H5 e_9 e LS e_10 e (HS.lt H1 e_6) (jU H4 e_8 e H5 e_9 e (HS.lt H1 e_6) (jU H3 e_7 e H4 e_8 e (HS.lt H1 e_6) (jU H1 e_6 e H3 e_7 e (HS.lt H1 e_6) w))))
 have cha:∀{f:Nat} {v:AV} {K0:Go.Ae.R} {Q:AV→AH→Prop},(xV x qa)[f]? =some v→wp K0 Q→wp (kA (.ptr a f) none v h6 h7 h1.nx (kA (.ptr a f) none v h5 h6 h1.nx (kA (.ptr a f) none v h4 h5 h1.nx (kA (.ptr a f) none v h3 h4 h1.nx (kA (.ptr a f) none v h1 h3 h1.nx K0))))) Q:=λe w=>jU LS .here e H7 .here e (HS.lt H1 e_1) (jU H5 e_1 e LS .here e (HS.lt H1 e_1) (jU H4 .here e H5 e_1 e (HS.lt H1 e_1) (jU H3 .here e H4 .here e (HS.lt H1 e_1) (jU H1 e_1 e H3 .here e (HS.lt H1 e_1) w))))
 refine LU (by rw[← ebo];rfl) ?_;refine cha rfl ?_;refine cha rfl ?_;refine cha (by rw[← r.en.2.1];rfl) ?_;refine LU rfl ?_;refine LU rfl ?_;refine LU rfl ?_;refine LU rfl ?_;refine qj (qo H8 (b:=v0) (off:=0) .here rfl omQ (l:=gO (jq t x pick) ⟨rv,cv,3,fv⟩) rfl (qq ⟨_,rfl,?_⟩));exact H8.sub (.cons e_9 (.cons e_8 (.cons e_6 (.cons e_1 (.cons e_1 (.cons e_1 (.cons e_1 (.cons e_1 (.drop (.drop .refl))))))))))
end
end
section
variable {g h:AH} {L R R':List SP}
section
variable {n a b:Nat} {t:qu} {q:X0} {S:SP} {x:q9}
def Fo (t:qu):q9:=if t.ay=true then QG t.me t.set (t.ax.map (·.1))else Jm t.me t.set ((t.jobs[t.aD.toNat]?).getD [])
theorem Nj (h:t.aD<t.jobs.length):z8 t={ t with born:=0,bI:=false,state:=1,now:=some (Fo t) }:=iQ omQ
theorem J8 (hn:8≤n) (B:ThrB t) (ap:t.aD<t.jobs.length) (hr:t.ax.length≤1000000) (J:Ck S t q) (s:bB R S R') (H:HS g h (qv b (ze t q)::wb t q R)) :
  ba n 38 [.ptr b 0] h λ_ h'=>HS g h' (aT S b (z8 t)::R):=by
 refine bw (S:=S38) rfl omQ λk hk=>?_;unfold S38;try simp only[iZ]
 rw[Nj ap];have Fl:=B.aD;have mi:=B.jl;refine qX (qQ (qx H (b:=b) .here ⟨rfl,rfl⟩ (by simp[ze]) λh1 H1=>?_));refine qX (qQ (qx H1 (b:=b) .here ⟨rfl,rfl⟩ (by simp[ze]) λh2 H2=>?_));refine qX (qQ (qx H2 (b:=b) .here ⟨rfl,rfl⟩ (by simp[ze]) λh3 H3=>?_));have H3:HS g h3 (qv b (ze { t with state:=1,born:=0,bI:=false } { q with bo:=0,al:=false })::wb t q R):=H3;clear H H1 H2;have fin:∀{a:Nat} {h':AH},HS g h' (aS S a (Fo t)::qv b (ze { t with born:=0,bI:=false,state:=1,now:=some (Fo t) } { q with nv:=.ptr a 0,bo:=0,al:=false })::wb t q R)→HS g h' (aT S b { t with born:=0,bI:=false,state:=1,now:=some (Fo t) }::R):=λ{a h'} H'=>iU.I (a:=a) (q:={ q with nv:=.ptr a 0,bo:=0,al:=false }) rfl ⟨J,λ_=>⟨rfl,rfl⟩,λh=>(by grind),λh=>(by grind)⟩ rfl H'
 by_cases dW:t.ay=true
 rotate_left
 ·have dW:t.ay=false:=by grind
  have eA:Fo t=Jm t.me t.set ((t.jobs[t.aD.toNat]?).getD []):=iQ (by grind);rw[eA]at fin ⊢;refine qX (qQ (qZ H3 (b:=b) .here (x:=.bool false) (by rw[← dW];rfl) ?_));refine jo (qK ?_);have hl:t.aD.toNat<t.jobs.length:=by omega
  have IZ:t.jobs[t.aD.toNat]? =some t.jobs[t.aD.toNat]:=iW hl;have ug:t.aD.toNat<q.js.length:=by rw[J.1];grind
  have hsv:q.js[t.aD.toNat]? =some q.js[t.aD.toNat]:=iW ug;have lC:=B.jobs _ (List.getElem_mem hl);rw[IZ]at fin ⊢;refine qX (qQ (qZ H3 (b:=b) .here rfl ?_));refine qX (qQ (qo H3 (b:=b) (off:=1) .here rfl omQ (l:=yO t.set) rfl ?_));refine qX (qQ (qZ H3 (b:=b) .here (x:=q.jv) rfl ?_));refine qX (qQ (qZ H3 (b:=b) .here (x:=.int .i64 ((t.aD.toNat:Nat):Int)) (by show some (AV.int .i64 t.aD)=_;grind) ?_));refine xI (l:=[q.js[t.aD.toNat]]) (H3.sl (v:=q.jv) (xs:=q.js) e_1) hl omQ (by rw[Nat.mul_one,List.drop_eq_getElem_cons ug];rfl) ?_;refine qY (qwI (me:=t.me) (s:=t.set) (l:=t.jobs[t.aD.toNat]) (S:=S) omQ lC.1 lC.2 (J.2 _ _ _ IZ hsv) (.there (.there (.there (.there (.there (.there (.there s))))))) H3) ?_;rintro _ h4 ⟨a,rfl,H4⟩;refine qX (qQ (qx H4 (b:=b) e_1 (x:=.ptr a 0) ⟨rfl,rfl⟩ (by simp[ze]) λh5 H5=>qq (fin (a:=a) ?_)));exact H5.sub (.cons e_1 (.cons .here .refl))
 ·have eA:Fo t=QG t.me t.set (t.ax.map (·.1)):=iJ dW;rw[eA]at fin ⊢;refine qX (qQ (qZ H3 (b:=b) .here (x:=.bool true) (by rw[← dW];rfl) ?_));refine jE (qJ ?_);refine jB (λc s h'=>∃(i:Nat) (av:AV),s=(.int .i64 (i:Int),av,.ptr b 0,())∧i≤t.ax.length∧c=t.ax.length-i∧HS g h' (qC 3 1 i av (((t.ax.take i).map (·.1)).map (.int .i64))::qv b (ze { t with state:=1,born:=0,bI:=false } { q with bo:=0,al:=false })::wb t q R))
   ?_ (m:=t.ax.length) (by grind) ⟨0,.aj,rfl,Nat.zero_le _,rfl,H3.aj⟩
  clear H3;rintro c ih z h3 bj ⟨i,av,rfl,hi,rfl,H⟩;dsimp only;refine qX (qQ (qZ H (b:=b) e_1 (x:=q.gv) rfl ?_));refine qr H (n:=t.ax.length) (v:=q.gv) e_3 ?_;by_cases hl:i<t.ax.length
  ·refine jO omQ (qK ?_);refine qX (qQ (qZ H (b:=b) e_1 (x:=q.gv) rfl ?_));refine jn (H.sl (n:=t.ax.length) (v:=q.gv) (xs:=t.ax.flatMap jH) e_3) omQ hl (x:=.int .i64 t.ax[i].1) ?_ ?_
   ·have:=congrArg (·[0]?) (w5 (sz:=2) (enc:=jH) (λ_=>rfl) (iW hl));simp only[List.getElem?_take_of_lt (show 0<2 by omega),List.getElem?_drop]at this;trivial
   refine jY (n:=1) (l:=[.int .i64 t.ax[i].1]) (sz:=1) H rfl rfl rfl rfl λv2 h6 H6=>?_;refine zA (H6.aJ (P:=qC 3 1 i av (((t.ax.take i).map (·.1)).map (.int .i64))) e_1) (H6.sl .here) omQ omQ rfl λv3 h7 H7=>?_;refine qE omQ ?_;refine bj (t.ax.length-(i+1)) _ _ omQ ⟨i+1,v3,rfl,by omega,rfl,?_⟩;have et:((t.ax.take (i+1)).map (·.1)).map (AV.int .i64)=((t.ax.take i).map (·.1)).map (AV.int .i64)++[.int .i64 t.ax[i].1]:=by rw[List.take_add_one,iW hl,List.map_append,List.map_append];rfl
   rw[et];exact H7.sub (.cons .here (.drop .refl))
  ·obtain rfl:i=t.ax.length:=by omega
   refine jM omQ (qJ ?_);rw[List.take_length]at H;refine qX (qQ (qZ H (b:=b) e_1 rfl ?_));refine qX (qQ (qo H (b:=b) (off:=1) e_1 rfl omQ (l:=yO t.set) rfl ?_));refine qY (qYP (S:=S) (bs:=t.ax.map (·.1)) omQ (by grind) H (by rw[List.length_map];exact .here)) ?_;rintro _ h4 ⟨a,rfl,H4⟩;refine qX (qQ (qx H4 (b:=b) e_2 (x:=.ptr a 0) ⟨rfl,rfl⟩ (by simp[ze]) λh5 H5=>qj (qq (fin (a:=a) ?_))));exact H5.sub (.cons e_1 (.cons .here (.drop .refl)))
theorem Vv (hn:9≤n) (B:ThrB { t with aD:=t.aD+1,ay:=false,ax:=[],ak:=0,aC:=0 }) (J:Ck S t q) (s:bB R S R') (H:HS g h (qv b (ze t q)::wb t q R)) :
  ba n 33 [.ptr b 0] h λ_ h'=>HS g h' (aT S b (xX t)::R):=by
 refine bw (S:=S33) rfl omQ λk hk=>?_;unfold S33;try simp only[iZ]
 have Fl:=B.aD;have mi:=B.jl;dsimp only at Fl mi;refine qX (qQ (qZ H (b:=b) .here rfl ?_));refine qE omQ ?_;refine qX (qQ (qx H (b:=b) .here ⟨rfl,rfl⟩ (by simp[ze]) λh1 H1=>?_));refine qX (qQ (qx H1 (b:=b) .here ⟨rfl,rfl⟩ (by simp[ze]) λh2 H2=>?_));refine qX (qQ (qx H2 (b:=b) .here ⟨rfl,rfl⟩ (by simp[ze]) λh3 H3=>?_));refine qX (qQ (qx H3 (b:=b) .here ⟨rfl,rfl⟩ (by simp[ze]) λh4 H4=>?_));refine qX (qQ (qx H4 (b:=b) .here (x:=.aj) ⟨rfl,rfl⟩ (by simp[ze]) λh5 H5=>?_));have H6:HS g h5 (qv b (ze { t with aD:=t.aD+1,ay:=false,ax:=[],ak:=0,aC:=0 } { q with gv:=.aj })::wb { t with aD:=t.aD+1,ay:=false,ax:=[],ak:=0,aC:=0 } { q with gv:=.aj } R) :=
  (H5.aj (e:=130) (sz:=2)).sub (.cons e_1 (.cons e_1 (.cons .here (.drop .refl))))
 clear H H1 H2 H3 H4 H5;refine qX (qQ (qZ H6 (b:=b) .here (x:=.int .i64 (t.aD+1)) rfl ?_));refine qX (qQ (qZ H6 (b:=b) .here (x:=q.jv) rfl ?_));refine qr H6 (n:=t.jobs.length) (v:=q.jv) e_1 ?_;unfold xX;by_cases c:t.aD+1=(t.jobs.length:Int)
 ·rw[show z8 { t with aD:=t.aD+1,ay:=false,ax:=[],ak:=0,aC:=0 }={ t with aD:=t.aD+1,ay:=false,ax:=[],ak:=0,aC:=0,born:=0,bI:=false,state:=6,now:=none }from iJ c];refine zK omQ (qK ?_);refine qX (qQ (qx H6 (b:=b) .here ⟨rfl,rfl⟩ (by simp[ze]) λh7 H7=>?_));refine qX (qQ (qx H7 (b:=b) .here ⟨rfl,rfl⟩ (by simp[ze]) λh8 H8=>qq ?_));exact aT.I (q:={ q with gv:=.aj,nv:=.aW }) ⟨J,λh=>absurd rfl h,λh=>(by grind),λh=>(by grind)⟩ (HS.dU (φ:=AV.aW=.aW) rfl H8)
 ·refine jt omQ (qJ ?_);exact qY (J8 (q:={ q with gv:=.aj }) omQ B (by grind) (Nat.zero_le _) J s H6) λ_ h4 H4=>qq H4
theorem Ov {draw:Int} (hn:9≤n) (B:ThrB t) (ap:t.aD<t.jobs.length) (hg:t.ax.length≤1000000) (hd:0≤draw∧draw<256) (J:Ck S t q) (oX:q.bo=t.born∧q.al=t.bI) (s:bB R S R') (H:HS g h (Gp S b t q R)) :
  ba n 41 [.ptr b 0,.int .u8 draw] h λ_ h'=>HS g h' (aT S b (yW t draw)::R):=by
 refine cu (S:=S41) rfl omQ λk hk=>?_;unfold S41;try simp only[iZ]
 have hc:=B.aC;refine jc [] (λz h'=>z=(.int .i64 (gi t.aC),.int .u8 draw,.ptr b 0,())∧h'=h) (λj hj=>?_) ?_
 ·refine qX (qQ (qZ H (b:=b) e_1 (x:=.int .i64 t.aC) rfl ?_));by_cases c3:t.aC<3
  ·refine jO c3 (qK ?_);refine qX (qQ (qZ H (b:=b) e_1 (x:=.int .i64 t.aC) rfl ?_));refine gC omQ (qkL omQ ?_);refine hj _ _ ⟨?_,rfl⟩
   congr 2
   rcases(show t.aC=0∨t.aC=1∨t.aC=2 by omega)with e |e |e<;>rw[e]<;>decide
  ·refine jM c3 (qJ (hj _ _ ⟨?_,rfl⟩));simp[gi,omQ];omega
 rintro _ h1 ⟨rfl,rfl⟩;dsimp only;have hb:=qWP t.aC;refine yP omQ (qE omQ (Xb omQ ?_));have em:draw.tmod (gi t.aC+((1:Nat):Int))=draw%(gi t.aC+1):=by grind
 rw[em];refine qX (qQ (qx H (b:=b) e_1 ⟨rfl,rfl⟩ (by simp[ze]) λh2 H2=>?_));have H2:HS g h2 (qv b (ze { t with aP:=draw%(gi t.aC+1) } { q with le:=draw%(gi t.aC+1) })::dB S t.now q.nv::wb t q R):=H2;refine qX (qQ (qZ H2 (b:=b) .here (x:=.int .i64 (draw%(gi t.aC+1))) rfl ?_));unfold yW;by_cases c0:draw%(gi t.aC+1)=0
 ·rw[iJ c0];refine qk c0 (qK ?_);have eP:z8 { t with aP:=0,state:=3 }=z8 { t with aP:=0 }:=by
   rfl
  rw[eP];rw[c0]at H2;exact qY (J8 (t:={ t with aP:=0 }) (q:={ q with le:=0 }) omQ ⟨B.set,B.me,B.jobs,B.jl,B.aD,B.af,B.au,B.ak,B.aC,B.oU⟩ ap hg J s (H2.sub (.cons .here (.drop .refl)))) λ_ h4 H4=>qj (qq H4)
 ·rw[iQ c0];refine qW c0 (qJ ?_);refine qX (qQ (qx H2 (b:=b) .here ⟨rfl,rfl⟩ (by simp[ze]) λh3 H3=>qj (qq ?_)));exact aT.I (t:={ t with aP:=draw%(gi t.aC+1),state:=3 }) (q:={ q with le:=draw%(gi t.aC+1) }) ⟨J,λ_=>oX,λ_=>rfl,λh=>(by grind)⟩ (H3.sub (.cons e_1 (.cons .here .refl)))
theorem qXu (hn:9≤n) (O:xR t) (s:bB R S R') (H:HS g h (aT S b t::R)):ba n 23 [.ptr b 0] h λ_ h'=>HS g h' (aT S b (jC t)::R):=by
 refine bw (S:=S23) rfl omQ λk hk=>?_;unfold S23;try simp only[iZ]
 obtain⟨q,r,H0⟩:=aT.E H;unfold jC;refine qX (qQ (qZ H0 (b:=b) e_1 (x:=.int .i64 t.state) rfl ?_));by_cases c:t.state=3
 rotate_left
 ·rw[iQ c];exact jb c (qK (qq H))
 rw[iJ c];refine jR c (qJ ?_);have hp:=O.DL c;have C:=O.c omQ;have hl:=O.fX;have hlen:=C.toThrB.len (by grind);refine qX (qQ (qZ H0 (b:=b) e_1 (x:=.int .i64 t.aP) (by rw[← r.le c];rfl) ?_));refine qn omQ ?_;refine qX (qQ (qx H0 (b:=b) e_1 ⟨rfl,rfl⟩ (by simp[ze]) λh2 H2=>?_));have H2:HS g h2 (qv b (ze { t with aP:=t.aP-1 } { q with le:=t.aP-1 })::dB S t.now q.nv::wb t q R):=H2;refine qX (qQ (qZ H2 (b:=b) .here (x:=.int .i64 (t.aP-1)) rfl ?_));by_cases c0:t.aP-1=0
 ·rw[iJ c0];refine qk c0 (qK ?_);rw[c0]at H2;have B:=C.toThrB;exact qY (J8 (t:={ t with aP:=0 }) (q:={ q with le:=0 }) omQ ⟨B.set,B.me,B.jobs,B.jl,B.aD,B.af,B.au,B.ak,B.aC,B.oU⟩ C.lt (by grind) r.js s (H2.sub (.cons .here (.drop .refl)))) λ_ h4 H4=>qq H4
 ·rw[iQ c0];refine qW c0 (qJ (qq ?_));exact aT.I (t:={ t with aP:=t.aP-1 }) (q:={ q with le:=t.aP-1 }) ⟨r.js,r.bo,λ_=>rfl,λh=>(by grind)⟩ (H2.sub (.cons e_1 (.cons .here .refl)))
theorem qKB {sv:AV} {zs:List Int} {st:Int} (hn:1≤n) (hz:zs.length≤1000) (H:HS g h R) (Sz:Rd g R 1 zs.length sv (zs.map (.int .u64))):ba n 88 [sv,.int .u64 st] h λv h'=>v=.bool (jm zs st)∧h'=h:=by
 refine cu (S:=S88) rfl omQ λk hk=>?_;unfold S88;try simp only[iZ]
 have e0:jm (zs.drop 0) st=jm zs st:=rfl;generalize jm zs st=F at e0 ⊢;refine jB (λm s h'=>∃i:Nat,s=(.int .i64 (i:Int),.int .u64 st,sv,())∧i≤zs.length∧m=zs.length-i∧jm (zs.drop i) st=F∧h'=h)
  ?_ (m:=zs.length) (by grind) ⟨0,rfl,by omega,by rfl,e0,rfl⟩
 rintro m ih s h2 bj ⟨i,rfl,hi,rfl,hb,rfl⟩;dsimp only;refine yH (Sz.sl H) ?_;by_cases ap:i<zs.length
 ·refine jO omQ (qK ?_);have hg:zs[i]? =some zs[i]:=iW ap;rw[List.drop_eq_getElem_cons ap]at hb;unfold jm at hb;rw[List.all_cons]at hb;refine zO (Sz.sl H) (x:=.int .u64 zs[i]) (by simp) ?_;by_cases c0:zs[i]=0
  ·rw[iG (.inl c0),Bool.true_and]at hb;refine jR c0 (qG ?_)
   try dsimp only
   refine qe (qy (qJ (qE omQ ?_)));exact bj (zs.length-(i+1)) _ _ omQ ⟨i+1,rfl,by omega,rfl,hb,rfl⟩
  ·refine jb c0 (qG ?_)
   try dsimp only
   refine qf (zO (Sz.sl H) (x:=.int .u64 zs[i]) (by simp) ?_);by_cases c1:zs[i]≤st
   ·rw[iV omQ,Bool.false_and]at hb;exact ve c1 (qF (qK (qj (qq ⟨by grind,rfl⟩))))
   ·rw[iG (.inr omQ),Bool.true_and]at hb;refine vj c1 (qF (qJ (qE omQ ?_)));exact bj (zs.length-(i+1)) _ _ omQ ⟨i+1,rfl,by omega,rfl,hb,rfl⟩
 ·obtain rfl:i=zs.length:=by omega
  rw[List.drop_length]at hb;exact jM omQ (qJ (qj (qq ⟨by rw[← hb];rfl,rfl⟩)))
theorem qxl {sv rv:AV} {zs:List Int} {rs:List Nn} (hn:2≤n) (hz:zs.length≤1000) (hr:rs.length≤1000000) (H:HS g h R) (Sz:Rd g R 1 zs.length sv (zs.map (.int .u64))) (Sr:Rd g R 2 rs.length rv (rs.flatMap jH)) :
  ba n 64 [rv,sv] h λv h'=>∃v1 v2,v=.cA [v1,v2]∧
   HS g h' (qC 130 2 (rs.filter λr=>jm zs r.2).length v1 ((rs.filter λr=>jm zs r.2).flatMap jH)::qC 130 2 (rs.filter λr=>!jm zs r.2).length v2 ((rs.filter λr=>!jm zs r.2).flatMap jH)::R):=by
 refine cu (S:=S64) rfl omQ λk hk=>?_;unfold S64;try simp only[iZ]
 refine jB (λm s h'=>∃(i:Nat) (v1 v2:AV),s=(.int .i64 (i:Int),v2,v1,sv,rv,())∧i≤rs.length∧m=rs.length-i∧
   HS g h' (qC 130 2 ((rs.take i).filter λr=>jm zs r.2).length v1 (((rs.take i).filter λr=>jm zs r.2).flatMap jH)::qC 130 2 ((rs.take i).filter λr=>!jm zs r.2).length v2 (((rs.take i).filter λr=>!jm zs r.2).flatMap jH)::R))
  ?_ (m:=rs.length) (by grind) ⟨0,.aj,.aj,rfl,by omega,by rfl,H.aj.aj⟩
 clear H;rintro m ih s h2 bj ⟨i,v1,v2,rfl,hi,rfl,H⟩;dsimp only;refine yH (Sr.sl H.drop.drop) ?_;by_cases ap:i<rs.length
 ·refine jO omQ (qK ?_);have hg:rs[i]? =some rs[i]:=iW ap;have row:=w5 (sz:=2) (enc:=jH) (λ_=>rfl) hg;have l1:=List.length_filter_le (λr=>jm zs r.2) (rs.take i);have l2:=List.length_filter_le (λr=>!jm zs r.2) (rs.take i);have l3:(rs.take i).length≤1000000:=by grind
  have et:rs.take (i+1)=rs.take i++[rs[i]]:=by simp
  refine jc [] (λz h'=>∃v1 v2:AV,z=(.int .i64 (i:Int),v2,v1,sv,rv,())∧
   HS g h' (qC 130 2 ((rs.take (i+1)).filter λr=>jm zs r.2).length v1 (((rs.take (i+1)).filter λr=>jm zs r.2).flatMap jH)::qC 130 2 ((rs.take (i+1)).filter λr=>!jm zs r.2).length v2 (((rs.take (i+1)).filter λr=>!jm zs r.2).flatMap jH)::R)) (λj hj=>?_) ?_
  rotate_left
  ·rintro _ h3 ⟨v1,v2,rfl,H3⟩;dsimp only;refine qE omQ ?_;exact bj (rs.length-(i+1)) _ _ omQ ⟨i+1,v1,v2,rfl,by omega,rfl,H3⟩
  refine jn (Sr.sl H.drop.drop) omQ ap (x:=.int .u64 rs[i].2) ?_ ?_
  ·have:=congrArg (·[1]?) row;simp only[List.getElem?_take_of_lt (show 1<2 by omega),List.getElem?_drop]at this;trivial
  refine qY (qKB omQ hz H.drop.drop Sz) ?_;rintro _ h3 ⟨rfl,rfl⟩;simp only[et,List.filter_append,List.filter_cons,List.filter_nil]at hj;cases hp:jm zs rs[i].2 with
  |true=>rw[hp]at hj;refine qK (xI (l:=jH rs[i]) (Sr.sl H.drop.drop) ap omQ row ?_);refine jY (n:=1) (l:=jH rs[i]) (sz:=2) H rfl rfl rfl rfl λv3 h4 H4=>?_;refine zA (H4.aJ e_1) (H4.sl .here) omQ omQ rfl λv4 h5 H5=>?_;refine hj _ _ ⟨v4,v2,rfl,?_⟩;rw[iJ rfl,iQ od,List.append_nil,List.length_append,List.flatMap_append];exact H5.sub (.cons .here (.drop .refl))
  |false=>rw[hp]at hj;refine qJ (xI (l:=jH rs[i]) (Sr.sl H.drop.drop) ap omQ row ?_);refine jY (n:=1) (l:=jH rs[i]) (sz:=2) H rfl rfl rfl rfl λv3 h4 H4=>?_;refine zA (H4.aJ e_2) (H4.sl .here) omQ omQ rfl λv4 h5 H5=>?_;refine hj _ _ ⟨v1,v4,rfl,?_⟩;rw[iQ od,iJ od,List.append_nil,List.length_append,List.flatMap_append];exact H5.sub (.cons e_2 (.cons .here (.drop .refl)))
 ·obtain rfl:i=rs.length:=by omega
  rw[List.take_length]at H;exact jM omQ (qJ (qj (qq ⟨v1,v2,rfl,H⟩)))
end
end
section
variable {g h:AH} {L R R':List SP}
section
variable {n a b:Nat} {t:qu} {q:X0} {S:SP} {x:q9}
theorem qZC {at_:Int} (hn:11≤n) (C:Jk t) (h5:t.state=5) (dW:t.ay=false) (hr:t.af.length≤1000000) (J:Ck S t q) (oX:q.bo=t.born∧q.al=t.bI) (cx:at_=t.au.length) (rS:(t.au.length:Int)≤t.set.ad)
  (hz:q.zs=t.au++List.replicate (t.set.ad.toNat-t.au.length) 0) (s:bB R S R') (H:HS g h (Gp S b t q R)) :
  ba n 42 [.ptr b 0,.int .i64 at_] h λ_ h'=>HS g h' (aT S b (vq t)::R):=by
 refine cu (S:=S42) rfl omQ λk hk=>?_;unfold S42;try simp only[iZ]
 subst cx;have h4:=C.set.ad;have Le:=C.me;have ap:=C.lt;obtain⟨sl,e1,e2,e3,e4⟩:∃sl:List Int,sl=(if(t.au.length:Int)=t.me then t.au++[0]else t.au)∧vq t=vw { t with au:=sl }∧(sl.length:Int)≤t.set.ad∧q.zs=sl++List.replicate (t.set.ad.toNat-sl.length) 0:=by
  refine⟨_,rfl,?_,?_,?_⟩
  ·unfold vq
   split<;>rfl
  ·grind
  ·split
   ·rename_i hm;rw[hz,List.length_append,List.length_singleton,List.append_assoc]
    congr 1
    obtain⟨k,hk⟩:∃k,t.set.ad.toNat-t.au.length=k+1:=⟨t.set.ad.toNat-t.au.length-1,by omega⟩;grind
   grind
 rw[e2];refine jc [] (λz h'=>z=(.int .i64 (sl.length:Int),.ptr b 0,())∧h'=h) (λj hj=>?_) ?_
 ·refine qX (qQ (qZ H (b:=b) e_1 (x:=.int .i64 t.me) rfl ?_));by_cases hm:(t.au.length:Int)=t.me
  ·rw[iJ hm]at e1;refine qk hm (qK (qE omQ (hj _ _ ⟨?_,rfl⟩)));grind
  ·rw[iQ hm]at e1;exact qW hm (qJ (hj _ _ ⟨by rw[e1],rfl⟩))
 rintro _ h1 ⟨rfl,rfl⟩;dsimp only;clear e1 hz;refine qX (qQ (qx H (b:=b) e_1 ⟨rfl,rfl⟩ (by simp[ze]) λh2 H2=>?_));have H2:HS g h2 (qv b (ze { t with au:=sl } { q with at_:=(sl.length:Int) })::dB S t.now q.nv::wb t q R):=H2;refine qX (qQ (qI (qI (qZ H2 (b:=b) .here (x:=.int .i64 t.set.ad) rfl ?_))));unfold vw;have LV:sl.length≤6:=by omega
 have B:=C.toThrB;by_cases hl:(sl.length:Int)<t.set.ad
 ·rw[iJ hl];refine jO hl (qK (qj (qq ?_)));exact aT.I (t:={ t with au:=sl }) (q:={ q with at_:=(sl.length:Int) }) ⟨J,λ_=>oX,λh=>(by grind),λ_=>⟨rfl,e4⟩⟩ (H2.sub (.cons e_1 (.cons .here .refl)))
 rw[iQ hl];refine jM hl (qJ ?_);have ez:q.zs=sl:=by simp_all
 refine qX (qQ (qZ H2 (b:=b) .here (x:=q.lv) rfl ?_));refine qX (qQ (qZ H2 (b:=b) .here (x:=q.sv) rfl ?_));refine qY (qxl (rs:=t.af) (zs:=q.zs) omQ (by grind) hr H2 (H2.rd e_7) (H2.rd e_6)) ?_;rintro _ h3 ⟨v1,v2,rfl,H3⟩;rw[ez]at H3;dsimp only;have hf:=qXB (λr:Nn=>jm sl r.2) t.af;refine qi rfl (qi rfl ?_);refine qr H3 (n:=(t.af.filter λr=>jm sl r.2).length) (v:=v1) .here ?_;by_cases c0:(t.af.filter λr=>jm sl r.2)=[]
 ·rw[iJ c0];have er:(t.af.filter λr=>!jm sl r.2)=t.af:=List.filter_eq_self.2 λr hr=>by
   grind[List.filter_eq_nil_iff]
  rw[er];refine qk (by grind) (qK ?_);have Cs:Jk { t with au:=sl }:=C.go rfl rfl rfl rfl rfl rfl rfl LV C.ak C.aC rfl rfl;exact qY (Vv (t:={ t with au:=sl }) (q:={ q with at_:=(sl.length:Int) }) omQ (Cs.toThrB.next Cs.lt) J s (H3.sub (.cons e_2 (.drop (.drop (.drop .refl)))))) λ_ h4 H4=>qj (qq H4)
 ·rw[iQ c0];have uY:=List.length_pos_iff.2 c0;refine qW omQ (qJ ?_);have o1:=H3.one (v:=v1) .here;have o2:=H3.one (v:=v2) e_1;refine qX (qQ (qx H3 (b:=b) e_2 o2 (by simp[ze]) λh4 H4=>?_));refine qX (qQ (qx H4 (b:=b) .here o1 (by simp[ze]) λh5 H5=>?_));refine qX (qQ (qx H5 (b:=b) .here ⟨rfl,rfl⟩ (by simp[ze]) λh6 H6=>?_));refine qX (qQ (qx H6 (b:=b) .here ⟨rfl,rfl⟩ (by simp[ze]) λh7 H7=>?_));refine qX (qQ (qx H7 (b:=b) .here ⟨rfl,rfl⟩ (by simp[ze]) λh8 H8=>?_));have sC:=C.af;have hg:=C.oU dW;rw[hg]at sC;rw[List.length_nil]at sC;have B2:ThrB { t with au:=sl,af:=t.af.filter (λr=>!jm sl r.2),ay:=true,ax:=t.af.filter (λr=>jm sl r.2),ak:=0,aC:=0 } :=
   ⟨B.set,B.me,B.jobs,B.jl,B.aD,by grind,LV,by simp,by simp,λh=>by grind⟩
  refine qY (J8 (t:={ t with au:=sl,af:=t.af.filter (λr=>!jm sl r.2),ay:=true,ax:=t.af.filter (λr=>jm sl r.2),ak:=0,aC:=0 }) (q:={ q with at_:=(sl.length:Int),lv:=v2,gv:=v1 }) omQ B2 ap (by grind) J s ?_) λ_ h9 H9=>qj (qq H9);exact H8.sub (.cons .here (.cons e_3 (.cons .here (.cons e_3 (.cons e_3 (.cons .here (.cons e_3 (.drop (.drop (.drop .refl))))))))))
theorem qxL (hn:13≤n) (C:Jk t) (hx:t.now=some x) (h1:t.state=1) (hf:jf x=2∨jf x=4) (hr:t.af.length+t.ax.length≤1000000) (cI:(t.results.length:Int)≤t.aD+(if t.ay=true then 1 else 0)) (r:Z3 S t q) (e:q.nv=.ptr a 0) (s:bB R S R') (H:HS g h (iU S a b t x q R)) :
  ba n 63 [.ptr b 0] h λ_ h'=>
   HS g h' (aT S b (if t.ay=true then Qv t (jf x)else Qn { t with results:=t.results++[⟨jf x,vU x,y7 x,x.aa⟩],af:=t.af++(jG x).map λb=>(b,x.aa) })::R):=by
 refine bw (S:=S63) rfl omQ λk hk=>?_;unfold S63;try simp only[iZ]
 have hN:=C.now x hx;have O:=hN.1;have ap:=C.lt;have mi:=C.jl;have B:=C.toThrB;have oX:=r.bo omQ;have J:=r.js;obtain⟨qa,ra,HA⟩:=aS.E H;clear H;refine qX (qQ (qZ HA (b:=b) e_5 (x:=.ptr a 0) (by rw[← e];rfl) ?_));by_cases dW:t.ay=true
 ·rw[iJ dW];refine qX (qQ (qZ HA (b:=b) e_5 (x:=.bool true) (by rw[← dW];rfl) ?_));refine qK ?_;unfold Qv;refine jc [] (λz h'=>z=(.ptr b 0,())∧∃q',Ck S t q'∧HS g h' (qv b (ze (if jf x=4 then{ t with af:=t.af++t.ax }else t) q')::wb (if jf x=4 then{ t with af:=t.af++t.ax }else t) q' R)) (λj hj=>?_) ?_
  ·refine qX (qQ (qI (qZ HA (b:=a) .here (x:=.int .i64 (jf x)) (by rw[← ra.en.1];rfl) ?_)));by_cases c2:jf x=2
   ·rw[iQ omQ]at hj ⊢;exact jR c2 (qJ (hj _ _ ⟨rfl,q,J,HA.sub (.cons e_5 (.drop (.drop (.drop (.drop (.drop .refl))))))⟩))
   ·rw[iJ omQ]at hj ⊢;refine jb c2 (qK ?_);refine qX (qQ (qZ HA (b:=b) e_5 (x:=q.lv) rfl ?_));refine qX (qQ (qZ HA (b:=b) e_5 (x:=q.gv) rfl ?_));refine zA (HA.aJ (P:=qC 130 2 t.af.length q.lv (t.af.flatMap jH)) e_10) (HA.sl (v:=q.gv) (xs:=t.ax.flatMap jH) e_7) omQ omQ (J0 _) λv' h2 H2=>?_;have o2:=H2.one .here;refine qX (qQ (qx H2 (b:=b) e_6 o2 (by simp[ze]) λh3 H3=>hj _ _ ⟨rfl,{ q with lv:=v' },J,?_⟩));show HS g h3 (qv b (ze { t with af:=t.af++t.ax } { q with lv:=v' })::_::_::_::_::qC _ 2 (t.af++t.ax).length v' ((t.af++t.ax).flatMap jH)::_);rw[List.length_append,List.flatMap_append];exact H3.sub (.cons .here (.cons e_6 (.cons e_6 (.cons e_6 (.cons e_6 (.cons .here (.cons e_5 (.drop (.drop (.drop (.drop (.drop .refl))))))))))))
  rintro _ h3 ⟨rfl,q',J',H3⟩;dsimp only;refine qY (Vv (q:=q') omQ ?_ ?_ s H3) λ_ h4 H4=>qj (qq H4)
  ·have Fl:=B.aD;have sC:=B.af
   split
   ·exact⟨B.set,B.me,B.jobs,B.jl,by grind,by grind,B.au,by simp,by simp,λ_=>rfl⟩
   ·exact B.next ap
  ·split<;>exact J'
 have dW:t.ay=false:=by grind
 rw[iQ (by grind)];have EU:∃p,x.aD=.prog p:=by
  have:=hN.2.2.2;rw[dW]at this;cases hj:x.aD with
  |prog p=>simp
  |ay bs k=>rw[hj]at this;trivial
 have hfl:=UZ O (hN.2.2.2.trans dW);have C8:=C.oU dW;have sC:=C.af;rw[C8,List.length_nil]at sC;rw[dW,iQ od]at cI;refine qX (qQ (qZ HA (b:=b) e_5 (x:=.bool false) (by rw[← dW];rfl) ?_));refine qJ (qG ?_)
 try dsimp only
 refine qX (qQ (qI (qZ HA (b:=a) .here (x:=.int .i64 (jf x)) (by rw[← ra.en.1];rfl) ?_)));refine qX (qQ (qI (qZ HA (b:=a) .here (x:=.int .i64 (vU x)) (by rw[← ra.en.2.1];rfl) ?_)));refine qY (Ou omQ O ra HA) ?_;rintro _ h2 ⟨rfl,H2⟩;refine qX (qQ (qZ H2 (b:=a) .here (x:=.int .u64 x.aa) rfl ?_))
 let z:B0:=⟨jf x,vU x,y7 x,x.aa⟩
 refine qA (l:=B9 z) rfl ?_;refine qh H2 rfl λv0 h3 H3=>?_;refine zq H3 (b:=v0) .here rfl (by simp) rfl λh4 H4=>?_;have H4:HS g h4 (qv v0 (B9 z)::gK S a x qa (qv b (ze t q)::wb t q R)):=H4;refine jU HA (b:=a) .here rfl H2 .here rfl (HS.lt HA .here) ?_;refine jU HA (b:=a) .here (by rw[← ra.en.2.1];rfl) H2 .here (by rw[← ra.en.2.1];rfl) (HS.lt HA .here) ?_;refine jU HA (b:=a) .here (by rw[← ra.en.1];rfl) H2 .here (by rw[← ra.en.1];rfl) (HS.lt HA .here) ?_;clear HA H2 H3;refine qX (qQ (qZ H4 (b:=b) e_6 (x:=q.rv) rfl ?_));refine qo H4 (b:=v0) (off:=0) .here rfl omQ (l:=B9 z) rfl ?_;refine jY (n:=1) (l:=B9 z) (sz:=4) H4 rfl rfl rfl rfl λv2 h5 H5=>?_;refine zA (H5.aJ (P:=qC 166 4 t.results.length q.rv (t.results.flatMap B9)) e_11) (H5.sl .here) omQ omQ rfl λv3 h6 H6=>?_;have o6:=H6.one .here;refine qX (qQ (qx H6 (b:=b) e_8 o6 (by simp[ze]) λh7 H7=>?_));have H8:HS g h7 (gK S a x qa (qv b (ze { t with results:=t.results++[z] } { q with rv:=v3 })::wb { t with results:=t.results++[z] } { q with rv:=v3 } R)):=by unfold wb;dsimp only;rw[List.length_append,List.flatMap_append];exact H7.sub (.cons e_4 (.cons e_4 (.cons e_4 (.cons e_4 (.cons e_4 (.cons .here (.cons e_3 (.cons e_3 (.cons e_3 (.cons .here (.drop (.drop .refl))))))))))))
 clear H4 H5 H6 H7;refine qY (ZZ omQ O ra H8) ?_;rintro fv h8 ⟨T0,H9,_,hT0⟩;obtain⟨e9,rfl⟩:=hT0 EU;clear H8;generalize hT:({ t with results:=t.results++[z] }:qu)=T at*;have hTr:T.af=t.af:=by grind
 refine jB (λc y h'=>∃(i:Nat) (lv:AV),y=(.int .i64 (i:Int),fv,.ptr a 0,.ptr b 0,())∧i≤(jG x).length∧c=(jG x).length-i∧
   HS g h' (qC e9 1 (jG x).length fv ((jG x).map (.int .i64))::gK S a x qa (qv b (ze { T with af:=t.af++((jG x).take i).map λb=>(b,x.aa) } { q with rv:=v3,lv:=lv })::wb { T with af:=t.af++((jG x).take i).map λb=>(b,x.aa) } { q with rv:=v3,lv:=lv } R)))
  ?_ (m:=(jG x).length) (by grind) ⟨0,q.lv,rfl,Nat.zero_le _,rfl,by
   grind⟩
 clear H9;rintro c ih y h9 bj ⟨i,lv,rfl,hi,rfl,H⟩;dsimp only;refine qr H (n:=(jG x).length) (v:=fv) .here ?_;by_cases hl:i<(jG x).length
 ·refine jO omQ (qK ?_);have hg:(jG x)[i]? =some (jG x)[i]:=iW hl;refine qX (qQ (qZ H (b:=b) e_6 (x:=lv) rfl ?_));refine zO (H.sl (v:=fv) (xs:=(jG x).map (.int .i64)) .here) (x:=.int .i64 (jG x)[i]) (by simp) ?_;refine qX (qQ (qZ H (b:=a) e_1 (x:=.int .u64 x.aa) rfl ?_));refine qA (l:=jH ((jG x)[i],x.aa)) rfl ?_;refine jY (n:=1) (l:=jH ((jG x)[i],x.aa)) (sz:=2) H rfl rfl rfl rfl λv4 ia dC=>?_;have hlen:(t.af++((jG x).take i).map λb=>(b,x.aa)).length≤63000:=by
   grind
  refine zA (dC.aJ (P:=qC 130 2 (t.af++((jG x).take i).map λb=>(b,x.aa)).length lv ((t.af++((jG x).take i).map λb=>(b,x.aa)).flatMap jH)) e_12) (dC.sl .here) omQ omQ rfl λv5 dO eQ=>?_;have o11:=eQ.one .here;refine qX (qQ (qx eQ (b:=b) e_8 o11 (by simp[ze]) λiP fK=>?_));refine qE omQ ?_;refine bj ((jG x).length-(i+1)) _ _ omQ ⟨i+1,v5,rfl,by omega,rfl,?_⟩;have et:(t.af++((jG x).take (i+1)).map λb=>(b,x.aa))=(t.af++((jG x).take i).map λb=>(b,x.aa))++[((jG x)[i],x.aa)]:=by simp[List.take_add_one,List.map_append,List.append_assoc]
  rw[et];unfold wb;dsimp only;rw[List.length_append,List.flatMap_append];exact fK.sub (.cons e_3 (.cons e_3 (.cons e_3 (.cons e_3 (.cons e_3 (.cons e_3 (.cons .here (.cons e_2 (.cons e_2 (.cons e_2 (.cons e_2 (.cons .here (.drop .refl)))))))))))))
 obtain rfl:i=(jG x).length:=by omega
 rw[List.take_length]at H;refine jM omQ (qJ ?_);have hlen:(t.af++(jG x).map λb=>(b,x.aa)).length≤63000:=by grind
 refine qX (qQ (qZ H (b:=b) e_6 (x:=lv) rfl ?_));refine qr H (n:=(t.af++(jG x).map λb=>(b,x.aa)).length) (v:=lv) e_11 ?_;subst hT;have e1:(t.results++[z]).length=t.results.length+1:=by simp
 have B2:ThrB { t with results:=t.results++[z],af:=t.af++(jG x).map λb=>(b,x.aa) } :=
  ⟨B.set,B.me,B.jobs,B.jl,B.aD,by grind,B.au,B.ak,B.aC,B.oU⟩
 have H:=H.sub (L':=qv b (ze { t with results:=t.results++[z],af:=t.af++(jG x).map λb=>(b,x.aa) } { q with rv:=v3,lv:=lv })::gK S a x qa (wb { t with results:=t.results++[z],af:=t.af++(jG x).map λb=>(b,x.aa) } { q with rv:=v3,lv:=lv } R)) (.cons e_6 (.drop .refl));unfold Qn;dsimp only;by_cases c0:(t.af++(jG x).map λb=>(b,x.aa))=[]
 ·rw[iJ c0];refine qk (by grind) (qK ?_);exact qY (Vv (q:={ q with rv:=v3,lv:=lv }) omQ (B2.next ap) J s (H.sub (.cons .here (.drop (.drop (.drop (.drop (.drop .refl)))))))) λ_ ia dC=>qj (qq dC)
 ·rw[iQ c0];have uY:=List.length_pos_iff.2 c0;refine qW omQ (qJ ?_);have h4:=C.set.ad;refine qX (qQ (qI (qI (qZ H (b:=b) .here (x:=.int .i64 ((t.set.ad.toNat:Nat):Int)) (by show some (AV.int .i64 t.set.ad)=_;grind) ?_))));refine Xy H omQ λsv ia dC=>?_;refine qX (qQ (qx dC (b:=b) e_1 ⟨rfl,rfl⟩ (by simp[ze]) λdO eQ=>?_));have o11:=eQ.one (v:=sv) e_1;refine qX (qQ (qx eQ (b:=b) .here o11 (by simp[ze]) λiP fK=>?_));have rj:({ t with results:=t.results++[z],af:=t.af++(jG x).map λb=>(b,x.aa),state:=5,au:=[] }:qu).now=some x:=hx;have HR:=dB.I (S:=S) (v:=q.nv) e (aS.I ra (fK.sub (.cons e_2 (.cons e_2 (.cons e_2 (.cons e_2 (.cons e_2 .refl)))))))
  refine qY (qZC (t:={ t with results:=t.results++[z],af:=t.af++(jG x).map λb=>(b,x.aa),state:=5,au:=[] }) (q:={ q with rv:=v3,lv:=lv,sv:=sv,zs:=List.replicate t.set.ad.toNat 0 }) omQ
   ⟨⟨B2.set,B2.me,B2.jobs,B2.jl,B2.aD,B2.af,Nat.zero_le _,B2.ak,B2.aC,B2.oU⟩,C.now,C.lt,C.some⟩ rfl dW (by grind) J oX rfl (by grind) rfl s ?_) λ_ RD r6=>qj (qq r6)
  unfold Gp;rw[rj];unfold wb;dsimp only;rw[List.length_replicate,List.map_replicate];exact HR.sub (.cons .here (.cons .here (.cons e_1 (.cons e_1 (.cons e_1 (.cons e_1 (.cons e_1 (.cons .here (.drop .refl)))))))))
end
end
section
variable {g h:AH} {L R R':List SP}
theorem qVN {x:q9} {k e:Int}:(xx x k e).begun=x.begun:=by
 unfold xx
 split
 ·rfl
 ·split
  ·rfl
  ·split
   ·rfl
   ·split
    all_goals rfl
theorem Mr {x:q9}:(yX x).begun=x.begun:=by grind[yX,qVN,zl]
theorem qqP {x:q9}:(wq x).begun=x.begun:=by
 unfold wq
 split
 ·rfl
 ·split
  ·rfl
  ·unfold jd
   split
   ·unfold zZ
    repeat' split
    ·rfl
    ·exact Mr
    all_goals rfl
   ·repeat' split
    all_goals rfl
theorem Kw {x:q9}:(jz x).begun=x.begun:=by
 show(jZ (wq x)).begun=x.begun;grind[qqP,jZ]
theorem qV2 {x:q9} {a:cB} (h1:x.state≠1):(qd x a).begun=x.begun:=by
 unfold qd
 split
 ·rfl
 ·split
  ·rfl
  grind[Mr,Kw]
section
variable {n a b:Nat} {t:qu} {q:X0} {S:SP} {x:q9}
theorem ge.end4 {qa:Nq} (r:ge x qa) (h:jf x≠0):jf x=2∨jf x=3∨jf x=4∨jf x=5:=by
 unfold jf at h ⊢
 split at h
 ·grind
 ·rename_i h8;rw[iQ h8];exact r.fin omQ
theorem qYL {draw pick:Int} (hn:15≤n) (C:Jk t) (hx:t.now=some x) (h1:t.state=1) (he:jf x≠0) (hp:t.ah.length≤1000000) (hcf:t.ak≤1000000) (RO:(t.results.length:Int)≤t.aD+(if t.ay=true then 1 else 0)) (hd:0≤draw∧draw<256) (r:Z3 S t q) (e:q.nv=.ptr a 0) (s:bB R S R') (H:HS g h (iU S a b t x q R)) :
  ba n 40 [.ptr b 0,.int .u8 draw,.int .i64 pick] h λ_ h'=>HS g h' (aT S b (yD t x draw pick)::R):=by
 refine dV (S:=S40) rfl omQ λk hk=>?_;unfold S40;try simp only[iZ]
 have hN:=C.now x hx;have O:=hN.1;have FZ:t.af.length+t.ax.length≤63000:=C.len (by grind);have hT:=C.ak;have hCf:=C.aC;have ap:=C.lt;have oX:=r.bo omQ;have J:=r.js;obtain⟨qa,ra,HA⟩:=aS.E H;have h4:=ra.end4 he;clear H;refine qG ?_
 try dsimp only
 refine qX (qQ (qZ HA (b:=b) e_5 (x:=q.pv) rfl ?_));refine qY (VT (pick:=pick) omQ O oX.1 e ra HA) ?_;rintro _ h2 ⟨z,rfl,H1⟩;have H1:HS g h2 (qC 63 2 (jq t x pick).reads.length z.rv ((jq t x pick).reads.flatMap jH)::qC 63 2 (jq t x pick).cells.length z.cv ((jq t x pick).cells.flatMap jH)::qC z.fe 1 (jq t x pick).dJ.length z.fv ((jq t x pick).dJ.map (.int .i64))::gK S a x qa (qv b (ze t q)::wb t q R)):=H1;have o1:=H1.one (v:=z.rv) .here;have o2:=H1.one (v:=z.cv) e_1;have o3:=H1.one (v:=z.fv) e_2;have a1:jW (gO (jq t x pick) z)=true:=by simp only[jW,gO,List.all_cons,o1.2,o2.2,o3.2];rfl
 refine jY (n:=1) (l:=gO (jq t x pick) z) (sz:=14) H1 rfl rfl rfl a1 λv2 h3 H2=>?_;obtain⟨zs,sf,H3⟩:=bm.E (H2.aJ (P:=bm t.ah q.pv) e_12);have lM:zs.length=t.ah.length:=by grind
 refine zA H3 (H3.sl e_2) omQ omQ a1 λv3 pN H4=>?_;have op:=H4.one .here;refine qX (qQ (qx H4 (b:=b) e_11 op (by simp[ze]) λh5 H5=>?_));refine jU HA (b:=b) e_5 rfl H1 e_8 rfl (HS.lt HA e_5) ?_
 try dsimp only
 have B1:=Gk (A:=zs.flatMap λz=>vH z.1 z.2) (B:=vH (jq t x pick) z) (H5.sub (.cons e_2 (.cons e_3 (.cons e_3 (.cons e_3 .refl)))));have eA:(zs++[(jq t x pick,z)]).flatMap (λz=>vH z.1 z.2)=(zs.flatMap λz=>vH z.1 z.2)++vH (jq t x pick) z:=by simp
 have eB:(zs++[(jq t x pick,z)]).flatMap (λz=>gO z.1 z.2)=(zs.flatMap λz=>gO z.1 z.2)++gO (jq t x pick) z:=by simp
 have eC:(zs++[(jq t x pick,z)]).length=zs.length+1:=by simp
 have B2:=bm.I (v:=v3) (zs:=zs++[(jq t x pick,z)]) (r:=t.ah++[jq t x pick]) (by grind) (by rw[eA,eB,eC];exact B1.sub (.cons e_2 (.cons .here .refl)));have H6:HS g h5 (gK S a x qa (qv b (ze { t with ah:=t.ah++[jq t x pick] } { q with pv:=v3 })::wb { t with ah:=t.ah++[jq t x pick] } { q with pv:=v3 } R)) :=
  B2.sub (.cons e_3 (.cons e_3 (.cons e_3 (.cons e_3 (.cons e_3 (.cons e_1 (.cons e_2 (.cons e_2 (.cons .here (.cons e_1 (.cons e_1 (.cons e_1 (.drop .refl)))))))))))))
 clear HA H1 H2 H3 H4 H5 B1 B2 eA eB eC;refine qX (qQ (qZ H6 (b:=b) e_5 (x:=.int .i64 t.ak) rfl ?_));refine qE omQ ?_;refine qX (qQ (qx H6 (b:=b) e_5 ⟨rfl,rfl⟩ (by simp[ze]) λh6 H7=>?_));have H8:HS g h6 (qv b (ze { t with ah:=t.ah++[jq t x pick],ak:=t.ak+1 } { q with pv:=v3 })::gK S a x qa (wb { t with ah:=t.ah++[jq t x pick],ak:=t.ak+1 } { q with pv:=v3 } R)):=H7;have nR:(t.ah++[jq t x pick]).length=t.ah.length+1:=by simp
 have hps:((t.ah++[jq t x pick]).length:Int)=(t.ah.length:Int)+1:=by simp
 clear H6 H7;have J2:Ck S t { q with pv:=v3 }:=J;have uy:({ q with pv:=v3 }:X0).bo=t.born∧({ q with pv:=v3 }:X0).al=t.bI:=oX;have e2:({ q with pv:=v3 }:X0).nv=.ptr a 0:=e;generalize{ q with pv:=v3 }=q at*;clear J oX e op lM sf zs;refine qX (qQ (qZ H8 (b:=b) .here (x:=.ptr a 0) (by rw[← e2];rfl) ?_));refine qX (qQ (qI (qZ H8 (b:=a) e_1 (x:=.int .i64 (jf x)) (by rw[← ra.en.1];rfl) ?_)));unfold yD;dsimp only;have C2:Jk { t with ah:=t.ah++[jq t x pick],ak:=t.ak+1 } :=
  C.go rfl rfl rfl rfl rfl rfl rfl C.au (by grind) (by grind) rfl rfl
 have now:∀{T:qu} {h':AH},T.now=some x→HS g h' (qv b (ze T q)::gK S a x qa (wb T q R))→HS g h' (Gp S b T q R):=λ{T h'} hT H'=>by
  unfold Gp;rw[hT];have:=dB.I (S:=S) (v:=q.nv) e2 (aS.I ra (H'.sub (.cons e_1 (.cons e_1 (.cons e_1 (.cons e_1 (.cons e_1 .refl)))))));grind
 by_cases c5:jf x=5
 ·rw[iJ c5];refine qG ?_
  try dsimp only
  refine qk c5 (qK ?_);refine qX (qQ (qZ H8 (b:=b) .here (x:=.int .i64 t.aC) rfl ?_));refine qE omQ ?_;refine qX (qQ (qx H8 (b:=b) .here ⟨rfl,rfl⟩ (by simp[ze]) λh7 H9=>?_));have HA:HS g h7 (qv b (ze { t with ah:=t.ah++[jq t x pick],ak:=t.ak+1,aC:=t.aC+1 } q)::gK S a x qa (wb { t with ah:=t.ah++[jq t x pick],ak:=t.ak+1,aC:=t.aC+1 } q R)):=H9;clear H8 H9;have C3:Jk { t with ah:=t.ah++[jq t x pick],ak:=t.ak+1,aC:=t.aC+1 } :=
   C.go rfl rfl rfl rfl rfl rfl rfl C.au (by grind) (by grind) rfl rfl
  have no:∀c:¬(0≤kL x∧kL x<t.set.ad),wp (xS (callT tab qL k) (.fn 41 [] []) [.ptr b 0,.int .u8 draw] h7 λ_ h'=>zT [] h' λh'=>some (.cA [],h')) λ_ h'=>
    HS g h' (aT S b (if 0≤kL x∧kL x<t.set.ad then{ t with ah:=t.ah++[jq t x pick],ak:=t.ak+1,aC:=t.aC+1,state:=2,bH:=kL x,bf:=false }else yW { t with ah:=t.ah++[jq t x pick],ak:=t.ak+1,aC:=t.aC+1 } draw)::R):=λc=>by
   rw[iQ c];exact qY (Ov (t:={ t with ah:=t.ah++[jq t x pick],ak:=t.ak+1,aC:=t.aC+1 }) omQ C3.toThrB ap (by grind) hd J2 uy s (now hx HA)) λ_ h2 H2=>qj (qq H2)
  have ldy:∀{K:AV→Go.Ae.R} {Q:AV→AH→Prop},wp (K (.int .i64 (kL x))) Q→wp (zn (.ptr a 0) λv=>qH v 0 λv=>qH v 4 λv=>jK h7 v K) Q:=λw=>qX (qQ (qI (qZ HA (b:=a) e_1 (by rw[← ra.en.2.2];rfl) w)));refine ldy (qG ?_)
  try dsimp only
  by_cases d1:0≤kL x
  ·refine zK d1 (qf (ldy ?_));refine qX (qQ (qI (qI (qZ HA (b:=b) .here (x:=.int .i64 t.set.ad) rfl ?_))));by_cases d2:kL x<t.set.ad
   ·refine jO d2 (qF (qK (ldy ?_)));rw[iJ ⟨d1,d2⟩];refine qX (qQ (qx HA (b:=b) .here ⟨rfl,rfl⟩ (by simp[ze]) λh8 HB=>?_));refine qX (qQ (qx HB (b:=b) .here ⟨rfl,rfl⟩ (by simp[ze]) λh9 HC=>?_));refine qX (qQ (qx HC (b:=b) .here ⟨rfl,rfl⟩ (by simp[ze]) λia HD=>qq ?_));exact aT.I (t:={ t with ah:=t.ah++[jq t x pick],ak:=t.ak+1,aC:=t.aC+1,state:=2,bH:=kL x,bf:=false }) ⟨J2,λ_=>uy,λh=>(by grind),λh=>(by grind)⟩ (now hx HD)
   ·refine jM d2 (qF (qJ (no λh=>d2 h.2)))
  ·exact jt d1 (qe (qy (qJ (no λh=>d1 h.1))))
 rw[iQ c5];refine qG ?_
 try dsimp only
 refine qW c5 (qJ ?_);by_cases c3:jf x=3
 ·rw[iJ c3];refine qk c3 (qK ?_);refine qX (qQ (qZ H8 (b:=b) .here (x:=.bool t.bI) (by rw[← uy.2];rfl) ?_));by_cases ha:t.bI=true
  ·rw[iJ ha];rw[show(AV.bool t.bI)=.bool true by rw[ha]];refine qK ?_;exact qY (J8 (t:={ t with ah:=t.ah++[jq t x pick],ak:=t.ak+1 }) omQ C2.toThrB ap (by grind) J2 s (H8.sub (.cons .here (.drop (.drop (.drop (.drop (.drop .refl)))))))) λ_ h7 H9=>qq H9
  ·rw[iQ ha];rw[show(AV.bool t.bI)=.bool false by grind];refine qJ (qX (qQ (qx H8 (b:=b) .here ⟨rfl,rfl⟩ (by simp[ze]) λh7 H9=>qj (qq ?_))));exact aT.I (t:={ t with ah:=t.ah++[jq t x pick],ak:=t.ak+1,state:=4 }) ⟨J2,λ_=>uy,λh=>(by grind),λh=>(by grind)⟩ (now hx H9)
 rw[iQ c3];refine qW c3 (qJ ?_);refine qY (qxL (t:={ t with ah:=t.ah++[jq t x pick],ak:=t.ak+1 }) (x:=x) (a:=a) (q:=q) omQ C2 hx h1 omQ (by grind) RO ⟨J2,λ_=>uy,λh=>(by grind),λh=>(by grind)⟩ e2 s (aS.I ra (H8.sub (.cons e_1 (.cons e_1 (.cons e_1 (.cons e_1 (.cons e_1 .refl)))))))) λ_ h7 H9=>qj (qq H9)
end
end
section
variable {g h:AH} {L R R':List SP}
section
variable {n a b:Nat} {t:qu} {q:X0} {S:SP} {x:q9}
theorem xR.rl3 (O:xR t):t.af.length+t.ax.length≤63000:=O.b.len (by have:=O.fX;grind)
theorem qwS {l:List Int} {m:Nat} {w:Int} (h:l.length<m):(l++List.replicate (m-l.length) 0).set l.length w=(l++[w])++List.replicate (m-(l++[w]).length) 0:=by rw[List.length_append,List.length_singleton];obtain⟨k,hk⟩:∃k,m-l.length=k+1:=⟨m-l.length-1,by omega⟩;grind
theorem qKo {a:cB} {draw pick:Int} (h1:t.state=1) (hx:t.now=some x):jg t a draw pick=xi t x (qd x a) draw pick:=by
 simp_all[jg]
theorem qqN {an:cB} {draw pick:Int} (hn:20≤n) (O:xR t) (ha:vB an) (hd:0≤draw∧draw<256) (hp:t.ah.length≤900000) (s:bB R S R') (H:HS g h (aT S b t::R)) :
  ba n 24 [.ptr b 0,.agg (zY an),.int .u8 draw,.int .i64 pick] h λ_ h'=>HS g h' (aT S b (jg t an draw pick)::R):=by
 refine tH (S:=S24) rfl omQ λk hk=>?_;unfold S24;try simp only[iZ]
 have bK:=O.st;have FZ:=O.rl3;have hT:=O.b.ak;have cI:=O.fX;obtain⟨q,r,H0⟩:=aT.E H;clear H;refine qh H0 rfl λv0 h1 H1=>?_;clear H0;have H1:HS g h1 (qv v0 (zY an)::Gp S b t q R):=H1;refine qX (qQ (qZ H1 (b:=b) e_2 (x:=.int .i64 t.state) rfl ?_));refine qG ?_
 try dsimp only
 by_cases c1:t.state=1
 ·refine qk c1 (qK ?_);have C:=O.c omQ;obtain⟨x,hx⟩:∃x,t.now=some x:=by
   cases hx:t.now with
   |none=>exact absurd hx C.some
   |some x=>simp
  rw[qKo c1 hx];have hN:=C.now x hx;have hS:=XN x an;have hr:(t.results.length:Int)≤t.aD+(if t.ay=true then 1 else 0):=by
   grind
  have C':∀b:Int,Jk { t with now:=some (qd x an),born:=b }:=λb=>⟨⟨C.set,C.me,C.jobs,C.jl,C.aD,C.af,C.au,C.ak,C.aC,C.oU⟩,λy hy=>by
   cases hy
   exact⟨XA hN.1 ha,hS.me.trans hN.2.1,hS.set.trans hN.2.2.1,hS.sw.trans hN.2.2.2⟩,C.lt,λh=>by grind⟩
  obtain⟨a,q,r,e,H2⟩:=aT.V hx (aT.I (b:=b) r (H1.sub (.cons e_1 (.cons e_1 (.cons e_1 (.cons e_1 (.cons e_1 (.cons e_1 (.cons e_1 (.cons e_1 (.cons .here .refl)))))))))));have H2:HS g h1 (iU S a b t x q (qv v0 (zY an)::R)):=H2;clear H1;obtain⟨qa,ra,HA⟩:=aS.E H2;refine qX (qQ (qZ H2 (b:=b) e_1 (x:=.ptr a 0) (by rw[← e];rfl) ?_));refine qX (qQ (qZ HA (b:=a) .here (x:=.int .i64 (uu x.state)) (by rw[← ra.ph];rfl) ?_));refine J7 (qX (qQ (qZ H2 (b:=b) e_1 (x:=.ptr a 0) (by rw[← e];rfl) ?_)));refine qo H2 (b:=v0) (off:=0) e_8 rfl omQ (l:=zY an) rfl ?_;refine qY (qzb omQ hN.1 ha (.there (.there (.there (.there (.there (.there (.there (.there s)))))))) H2) λ_ h3 H3=>?_;unfold xi;dsimp only;have hst':=hN.1.st;have sA:=ra.bg;have hbt:x.state≠1→(qd x an).begun=x.begun:=qV2;clear H2 HA ra qa;generalize hy:qd x an=y at H3 C' hbt ⊢;generalize oX:(if y.begun=true∧x.begun=false then pick else t.born)=bo;have hq:=r.bo omQ;have J:=r.js;have key:∀(bo:Int) (q:X0) (h':AH),q.nv=.ptr a 0→Ck S t q→q.bo=bo∧q.al=t.bI→HS g h' (iU S a b { t with now:=some y,born:=bo } y q (qv v0 (zY an)::R))→
    wp (zn (.ptr b 0) λDd=>qH Dd 12 λAm=>jK h' Am λv30=>zn v30 λrz=>qH rz 0 λrW=>qH rW 2 λBR=>jK h' BR λDe=>j6 .neq De (.int .i64 ((0:Nat):Int)) λtM=>zU tM
     (xS (callT tab qL k) (.fn 40 [] []) [.ptr b 0,.int .u8 draw,.int .i64 pick] h' λ_ IQ=>zT [] IQ λh9=>some (.cA [],h9)) (zT [] h' λh9=>some (.cA [],h9)))
     λ_ h'=>HS g h' (aT S b (if jf y=0 then{ t with now:=some y,born:=bo }else yD { t with now:=some y,born:=bo } y draw pick)::R):=λbo q h' e J hq H4=>by
   obtain⟨qb,rb,HB⟩:=aS.E H4;have r':Z3 S { t with now:=some y,born:=bo } q:=⟨J,λ_=>hq,λh=>absurd h (by grind),λh=>absurd h (by grind)⟩;refine qX (qQ (qZ H4 (b:=b) e_1 (x:=.ptr a 0) (by rw[← e];rfl) ?_));refine qX (qQ (qI (qZ HB (b:=a) .here (x:=.int .i64 (jf y)) (by rw[← rb.en.1];rfl) ?_)));by_cases c:jf y=0
   ·rw[iJ c];refine jR c (qJ (qj (qq ?_)));exact(iU.I (t:={ t with now:=some y,born:=bo }) rfl r' e H4).sub (.cons .here (.drop .refl))
   ·rw[iQ c];refine jb c (qK ?_);exact qY (qYL (t:={ t with now:=some y,born:=bo }) omQ (C' bo) rfl c1 c (by grind) (by grind) hr hd r' e (.there s) H4) λ_ h6 H6=>qj (qq (H6.sub (.cons .here (.drop .refl))))
  refine qG ?_
  try dsimp only
  refine qG ?_
  try dsimp only
  have H4:HS g h3 (iU S a b { t with now:=some y,born:=t.born } y q (qv v0 (zY an)::R)):=H3;by_cases d0:x.state=1
  ·have eP:uu x.state=((1:Nat):Int):=by simp[uu];omega
   rw[iG eP];have uk:=sA omQ;refine qf (qX (qQ (qZ H3 (b:=b) e_1 (x:=.ptr a 0) (by rw[← e];rfl) ?_)));obtain⟨qb,rb,HB⟩:=aS.E H3;refine qX (qQ (qZ HB (b:=a) .here (x:=.bool y.begun) rfl ?_));refine qF ?_;by_cases d1:y.begun=true
   ·rw[d1,uk,iJ ⟨rfl,rfl⟩]at oX;subst oX;rw[d1];refine qK (qX (qQ ?_));refine qx H3 (b:=b) e_1 ⟨rfl,rfl⟩ (by simp[ze]) λh5 H5=>?_;exact key pick { q with bo:=pick } _ e J ⟨rfl,hq.2⟩ (H5.sub (.cons e_1 (.cons .here .refl)))
   ·have d1':y.begun=false:=by grind
    rw[d1',iQ (λh=>by grind)]at oX;subst oX;rw[d1'];refine qJ ?_;exact key _ q _ e J hq H4
  ·have eP:¬uu x.state=((1:Nat):Int):=by grind[uu]
   rw[iV eP];refine qe (qy (qJ ?_));rw[hbt d0,iQ (λh=>by grind)]at oX;subst oX;exact key _ q _ e J hq H4
 unfold jg;rw[iQ c1];refine qW c1 (qJ ?_);have H2:=aT.I (b:=b) (t:=t) r H1.drop;have J:=r.js;by_cases c2:t.state=2
 ·rw[iJ c2];refine qk c2 (qK ?_);have C:=O.c omQ;have hq:=r.bo omQ;have DL:∀c:¬(an.err=0∧an.word≠0∧(t.bf=false∨an.word=t.since)),wp (xS (callT tab qL k) (.fn 41 [] []) [.ptr b 0,.int .u8 draw] h1 λ_ h'=>some (.cA [],h')) λ_ h'=>
    HS g h' (aT S b (if an.err=0∧an.word≠0∧(t.bf=false∨an.word=t.since)then{ t with bf:=true,since:=an.word }else yW t draw)::R):=λc=>by
   rw[iQ c];exact qY (Ov omQ C.toThrB C.lt omQ hd J hq s H1.drop) λ_ h6 H6=>qq H6
  have sto:∀c:(an.err=0∧an.word≠0∧(t.bf=false∨an.word=t.since)),wp (qH (.ptr v0 0) 0 λDt=>jK h1 Dt λAs=>zn (.ptr b 0) λDu=>qH Du 22 λAt=>jw h1 At As 1 λT8=>zn (.ptr b 0) λAu=>qH Au 23 λtO=>jw T8 tO (.bool true) 1 λRY=>zT [] RY λh9=>some (.cA [],h9)) λ_ h'=>
    HS g h' (aT S b (if an.err=0∧an.word≠0∧(t.bf=false∨an.word=t.since)then{ t with bf:=true,since:=an.word }else yW t draw)::R):=λc=>by
   rw[iJ c];refine qQ (qZ H1 (b:=v0) .here (x:=.int .u64 an.word) rfl ?_);refine qX (qQ (qx H1 (b:=b) e_2 ⟨rfl,rfl⟩ (by simp[ze]) λh3 H3=>?_));refine qX (qQ (qx H3 (b:=b) .here ⟨rfl,rfl⟩ (by simp[ze]) λh4 H4=>qj (qq ?_)));exact aT.I (t:={ t with bf:=true,since:=an.word }) (q:=q) ⟨J,λ_=>hq,λh=>absurd h (by grind),λh=>absurd h (by grind)⟩ (H4.sub (.cons e_2 (.cons .here (.drop .refl))))
  refine qQ (qZ H1 (b:=v0) .here (x:=.int .i64 an.err) rfl ?_);by_cases ce:an.err=0
  rotate_left
  ·refine jb ce (qG ?_)
   try dsimp only
   refine ql (qF (qG ?_))
   try dsimp only
   refine ql (qG ?_)
   try dsimp only
   refine zQ (qG ?_)
   try dsimp only
   refine ql (qF (qK ?_));exact DL λh=>ce h.1
  refine jR ce (qG ?_)
  try dsimp only
  refine qP (qQ (qZ H1 (b:=v0) .here (x:=.int .u64 an.word) rfl ?_));by_cases cw:an.word=0
  ·refine qk cw (qy (qG ?_))
   try dsimp only
   refine ql (qG ?_)
   try dsimp only
   refine zQ (qG ?_)
   try dsimp only
   refine ql (qF (qK ?_));exact DL λh=>h.2.1 cw
  refine qW cw (qy (qG ?_))
  try dsimp only
  refine qP (qX (qQ (qZ H1 (b:=b) e_2 (x:=.bool t.bf) rfl ?_)));refine qG ?_
  try dsimp only
  by_cases cy:t.bf=true
  ·rw[show(AV.bool t.bf)=.bool true by rw[cy]];refine qf (qQ (qZ H1 (b:=v0) .here (x:=.int .u64 an.word) rfl ?_));refine qX (qQ (qZ H1 (b:=b) e_2 (x:=.int .u64 t.since) rfl ?_));by_cases cs:an.word=t.since
   ·refine jR cs (qG ?_)
    try dsimp only
    refine qP (qF (qy (qJ ?_)));exact sto ⟨ce,cw,.inr cs⟩
   ·refine jb cs (qG ?_)
    try dsimp only
    refine qP (qF (qy (qK ?_)));exact DL λh=>by grind
  ·have cy':t.bf=false:=by grind
   rw[show(AV.bool t.bf)=.bool false by grind];refine qe (qG ?_)
   try dsimp only
   refine qP (qy (qy (qJ ?_)));exact sto ⟨ce,cw,.inl cy'⟩
 rw[iQ c2];refine qW c2 (qJ ?_);by_cases c5:t.state=5
 rotate_left
 ·rw[iQ c5];exact qW c5 (qJ (qj (qq H2)))
 rw[iJ c5];refine qk c5 (qK ?_);have C:=O.c omQ;have rS:=O.slo c5;have h4:=C.set.ad;have hq:=r.bo omQ;obtain⟨ea,ez⟩:=r.at_ c5;have lM:q.zs.length=t.set.ad.toNat:=by grind
 have LW:∀{f:Nat} {v:AV} {K:AV→Go.Ae.R} {Q:AV→AH→Prop} {h1:AH} {L R:List SP},HS g h1 L→bB L (qv b (ze t q)) R→(ze t q)[f]? =some v→wp (K v) Q→wp (zn (.ptr b 0) λw=>qH w f λw=>jK h1 w K) Q:=λH s e w=>qX (qQ (qZ H s e w));refine LW H1 e_2 (v:=q.sv) rfl ?_;refine LW H1 e_2 (v:=.int .i64 ((t.au.length:Nat):Int)) (by rw[← ea];rfl) ?_;refine qQ (qZ H1 (b:=v0) .here (x:=.int .u64 an.word) rfl ?_);refine Q9 (H1.aJ (P:=qC 22 1 q.zs.length q.sv (q.zs.map (.int .u64))) e_8) omQ ⟨rfl,rfl⟩ λh3 H3=>?_;have H3:HS g h3 (qC 22 1 q.zs.length q.sv ((q.zs.map (.int .u64)).set t.au.length (.int .u64 an.word))::qv v0 (zY an)::_):=H3;refine qG ?_
 try dsimp only
 have fin:∀{w:Int} {h':AH} {K:List AV},K=(q.zs.set t.au.length w).map (.int .u64)→w=(if an.err≠0 then 0 else an.word)→HS g h' (qC 22 1 q.zs.length q.sv K::qv v0 (zY an)::dB S t.now q.nv::qv b (ze t q)::qC 77 1 t.jobs.length q.jv q.js::qC 130 2 t.ax.length q.gv (t.ax.flatMap jH)::bm t.ah q.pv::qC 166 4 t.results.length q.rv (t.results.flatMap B9)::qC 130 2 t.af.length q.lv (t.af.flatMap jH)::R)→
   wp (zn (.ptr b 0) λEd=>qH Ed 25 λEe=>jK h' Ee λEf=>j6 .add Ef (.int .i64 ((1:Nat):Int)) λEg=>xS (callT tab qL k) (.fn 42 [] []) [.ptr b 0,Eg] h' λ_ h112=>zT [] h112 λh9=>some (.cA [],h9)) λ_ h'=>HS g h' (aT S b (vq { t with au:=t.au++[if an.err≠0 then 0 else an.word] })::R):=λ{w h' K} eK ew H'=>by
  rw[← ew];subst eK;refine LW H' e_3 (v:=.int .i64 ((t.au.length:Nat):Int)) (by rw[← ea];rfl) ?_;refine qE omQ ?_;have el:(t.au++[w]).length=t.au.length+1:=by simp
  have C2:Jk { t with au:=t.au++[w] }:=C.go rfl rfl rfl rfl rfl rfl rfl (by grind) C.ak C.aC rfl rfl;refine qY (qZC (t:={ t with au:=t.au++[w] }) (q:={ q with zs:=q.zs.set t.au.length w }) omQ C2 c5 (O.sw5 c5) (by grind) J hq (by simp) (by grind) ?_ s ?_) λ_ h6 H6=>qj (qq H6)
  ·show q.zs.set t.au.length w=_;rw[ez];exact qwS omQ
  ·unfold Gp wb;dsimp only;rw[List.length_set];exact H'.sub (.cons e_2 (.cons e_2 (.cons e_2 (.cons e_2 (.cons e_2 (.cons e_2 (.cons e_2 (.cons .here (.drop .refl)))))))))
 refine qQ (qZ H3 (b:=v0) e_1 (x:=.int .i64 an.err) rfl ?_);by_cases ce:an.err=0
 ·refine jR ce (qJ ?_);exact fin (w:=an.word) (by simp) (by omega) H3
 ·refine jb ce (qK ?_);refine LW H3 e_3 (v:=q.sv) rfl ?_;refine LW H3 e_3 (v:=.int .i64 ((t.au.length:Nat):Int)) (by rw[← ea];rfl) ?_;refine Q9 H3 omQ (x:=.int .u64 0) ⟨rfl,rfl⟩ λh5 H5=>?_;exact fin (w:=0) (by simp) (by omega) H5
end
end
end Go.Proofs.YtaljafbgbfmcbaaGreat
