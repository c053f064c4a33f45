/- Lemmas for 'quietus/quietuslaw29.HistoryMade', walks of its functions among them. No condition. -/
import Derived.Test.YtaljafbgbfmcbaaGreatHistoryMadeM6
import Derived.Test.YtaljafbgbfmcbaaGreatHistoryMadeM2
import Derived.Test.YtaljafbgbfmcbaaGreatHistoryMadeM1
import Derived.Test.YtaljafbgbfmcbaaGreatHistoryMadeM4
import Derived.Test.YtaljafbgbfmcbaaGreatHistoryMadeM3
namespace Go.Proofs.YtaljafbgbfmcbaaGreat
open Go Go.Ae
set_option maxRecDepth 100000
section
variable {g h:AH} {L R R':List SP}
section
variable {n a b:Nat} {t:qu} {q:X0} {S:SP} {x:q9}
theorem xR.at1 (O:xR t) (h:t.state≠6):∃x,t.now=some x:=by
 have C:=O.c h;cases hx:t.now with
 |none=>exact absurd hx C.some
 |some x=>simp
theorem qWl (hn:4≤n) (O:xR t) (H:HS g h (aT S b t::R)):ba n 22 [.ptr b 0] h λv h'=>v=I5 (xW t)∧HS g h' (aT S b t::R):=by
 refine bw (S:=S22) rfl omQ λk hk=>?_;unfold S22;try simp only[iZ]
 obtain⟨q,r,H0⟩:=aT.E H;refine qh H0 rfl λv0 h1 H1=>?_;have H1:HS g h1 (qv v0 (xB (bx 0 0 0))::Gp S b t q R):=H1;clear H H0;refine qX (qQ (qZ H1 (b:=b) e_2 (x:=.int .i64 t.state) rfl ?_));unfold xW;have ux:∀{o:dj} {h':AH},HS g h' (qv v0 (xB (bx 0 0 0))::Gp S b t q R)→wp (jw h' (.ptr v0 0) (.agg (xB o)) 10 λh2=>jr h2 (.ptr v0 0) 10 λv=>some (.cA [v,.bool true],h2)) λv h'=>v=I5 (some o)∧HS g h' (aT S b t::R):=λ{o h'} H'=>by
  refine zq H' (b:=v0) .here rfl (by trivial) rfl λh2 H2=>?_;refine qo H2 (b:=v0) (off:=0) .here rfl omQ (l:=xB o) rfl ?_;exact qq ⟨rfl,aT.I r H2.drop⟩
 by_cases c1:t.state=1
 ·obtain⟨x,hx⟩:=O.at1 omQ;rw[iJ c1,hx,Option.bind_some];refine qk c1 (qK ?_);have hN:=(O.c omQ).now x hx;obtain⟨a,q,r,e,H2⟩:=aT.V hx (aT.I (b:=b) r (H1.sub (.cons e_1 (.cons e_1 (.cons e_1 (.cons e_1 (.cons e_1 (.cons e_1 (.cons e_1 (.cons e_1 (.cons .here .refl)))))))))));have H2:HS g h1 (iU S a b t x q (qv v0 (xB (bx 0 0 0))::R)):=H2;refine qX (qQ (qZ H2 (b:=b) e_1 (x:=.ptr a 0) (by rw[← e];rfl) ?_));refine qY (qvu omQ hN.1 H2) ?_;rintro _ h3 ⟨rfl,H3⟩;refine qi rfl (qi rfl ?_);refine zq H3 (b:=v0) e_8 rfl (by trivial) rfl λh4 H4=>?_;refine qo H4 (b:=v0) (off:=0) .here rfl omQ (l:=xB ((zp x).getD (bx 0 0 0))) rfl ?_;exact qq ⟨rfl,iU.I (q:=q) hx r e (H4.drop.sub (.cons .here .refl))⟩
 rw[iQ c1];refine qW c1 (qJ ?_);by_cases c2:t.state=2
 ·rw[iJ c2];refine qk c2 (qK ?_);refine qX (qQ (qZ H1 (b:=b) e_2 (x:=.int .i64 t.bH) rfl ?_));exact qA (l:=xB (bx 8 t.bH 0)) rfl (ux H1)
 rw[iQ c2];refine qW c2 (qJ ?_);by_cases c5:t.state=5
 ·rw[iJ c5];refine qk c5 (qK ?_);refine qX (qQ (qZ H1 (b:=b) e_2 (x:=.int .i64 (t.au.length:Int)) (by rw[← (r.at_ c5).1];rfl) ?_));exact qA (l:=xB (bx 8 t.au.length 0)) rfl (ux H1)
 rw[iQ c5];refine qW c5 (qJ ?_);refine qA (l:=xB (bx 0 0 0)) rfl ?_;refine zq H1 (b:=v0) .here rfl (by trivial) rfl λh3 H3=>?_;refine qo H3 (b:=v0) (off:=0) .here rfl omQ (l:=xB (bx 0 0 0)) rfl ?_;exact qq ⟨rfl,aT.I r H3.drop⟩
theorem LX {r:List z6} {st dH:Int} {i:Nat} (hi:i<r.length):yr (r.drop i) st dH=(decide (r[i].1=st∧r[i].2≠dH)||yr (r.drop (i+1)) st dH):=by grind[yr,List.drop_eq_getElem_cons]
theorem qq0 {st dH:Int} (hx:t.now=none):zy t st dH=t:=by
 grind[zy]
theorem qjD {st dH:Int} (hx:t.now=some x):zy t st dH=if yr x.r st dH=true then(if t.state=4 then z8 t else if t.state=1∧yL x=true then{ t with bI:=true }else t)else t:=by
 grind[zy]
theorem qk1 {st dH:Int} (hn:9≤n) (O:xR t) (s:bB R S R') (H:HS g h (aT S b t::R)):ba n 26 [.ptr b 0,.int .i64 st,.int .u64 dH] h λ_ h'=>HS g h' (aT S b (zy t st dH)::R):=by
 refine dV (S:=S26) rfl omQ λk hk=>?_;unfold S26;try simp only[iZ]
 have bK:=O.st;have FZ:=O.rl3;cases hx:t.now with
 |none=>
  rw[qq0 hx];have h6:t.state=6:=Classical.byContradiction λh6=>(O.c h6).some hx;obtain⟨q,r,H0⟩:=aT.E H;refine qX (qQ (qZ H0 (b:=b) e_1 (x:=.int .i64 t.state) rfl ?_));refine jb omQ (qG ?_)
  try dsimp only
  refine qf (qX (qQ (qZ H0 (b:=b) e_1 (x:=.int .i64 t.state) rfl ?_)));refine qW omQ (qG ?_)
  try dsimp only
  refine qe (qG ?_)
  try dsimp only
  refine qf (qy (jo (qF (qK (qq H)))))
 |some x=>
 rw[qjD hx];have C:=O.c (λh6=>by have:=(O.fin h6).2;grind);have hN:=C.now x hx;have hr:=hN.1.r;obtain⟨a,q,r,e,H0⟩:=aT.V hx H;have J:=r.js;have hq:=r.bo (λh6=>by have:=(O.fin h6).2;grind);refine qX (qQ (qZ H0 (b:=b) e_1 (x:=.int .i64 t.state) rfl ?_));refine Kx (wW (λz h'=>h'=h∧∃u,z=(u,.bool (decide (¬t.state=4)),.int .u64 dH,.int .i64 st,.ptr b 0,())∧(¬t.state=4→u=.bool (decide (t.state=1)))∧(t.state=4→u=.undef)) (λj hj=>?_) ?_)
 ·by_cases c4:t.state=4
  ·rw[iV (λh=>h c4)]at hj;rw[show decide (¬t.state=((4:Nat):Int))=false from iV (λh=>h c4)];exact qe (hj _ _ ⟨rfl,_,rfl,λh=>absurd c4 h,λ_=>rfl⟩)
  ·rw[iG (show¬t.state=4 from c4)]at hj;rw[show decide (¬t.state=((4:Nat):Int))=true from iG c4];refine qf (qX (qQ (qZ H0 (b:=b) e_1 (x:=.int .i64 t.state) rfl ?_)));exact J7 (hj _ _ ⟨rfl,_,rfl,λ_=>rfl,λh=>absurd h c4⟩)
 rintro _ h ⟨rfl,u,rfl,FK,CK⟩;dsimp only;refine wW (λz h'=>h'=h∧∃u9,z=(u9,u,.bool (decide (¬t.state=4)),.int .u64 dH,.int .i64 st,.ptr b 0,())∧(t.state=1→u9=.bool (yL x))) (λj hj=>?_) ?_
 ·by_cases c4:t.state=4
  ·rw[CK c4]at hj ⊢;exact zQ (hj _ _ ⟨rfl,_,rfl,λh=>absurd h omQ⟩)
  ·rw[FK c4]at hj ⊢;by_cases c1:t.state=1
   ·rw[iG c1]at hj ⊢;refine qf (qX (qQ (qZ H0 (b:=b) e_1 (x:=.ptr a 0) (by rw[← e];rfl) ?_)));refine qY (qQs omQ H0) ?_;rintro _ _ ⟨rfl,rfl⟩;exact hj _ _ ⟨rfl,_,rfl,λ_=>rfl⟩
   ·rw[iV c1]at hj ⊢;exact qe (hj _ _ ⟨rfl,_,rfl,λh=>absurd h c1⟩)
 rintro _ h ⟨rfl,u9,rfl,hu9⟩;dsimp only;refine wW (λz h'=>h'=h∧∃R7,z=(R7,.bool (decide (¬t.state=4)),.int .u64 dH,.int .i64 st,.ptr b 0,())∧(¬t.state=4→R7=.bool (!(decide (t.state=1∧yL x=true))))) (λj hj=>?_) ?_
 ·by_cases c4:t.state=4
  ·rw[iV (λh=>h c4)]at hj ⊢;exact qe (hj _ _ ⟨rfl,_,rfl,λh=>absurd c4 h⟩)
  ·rw[iG (show¬t.state=4 from c4)]at hj ⊢;rw[FK c4];refine qf ?_;by_cases c1:t.state=1
   ·rw[iG c1,hu9 c1];refine qF (ZE (hj _ _ ⟨rfl,_,rfl,λ_=>?_⟩))
    simp_all
   ·rw[iV c1];refine qy (jo (hj _ _ ⟨rfl,_,rfl,λ_=>?_⟩));grind
 rintro _ h ⟨rfl,R7,rfl,Ej⟩;dsimp only;clear FK CK hu9;by_cases cc:t.state=4∨(t.state=1∧yL x=true)
 rotate_left
 ·have c4:¬t.state=4:=λh=>cc (.inl h);have c1:¬(t.state=1∧yL x=true):=λh=>cc (.inr h);have e0:(if yr x.r st dH=true then(if t.state=4 then z8 t else if t.state=1∧yL x=true then{ t with bI:=true }else t)else t)=t:=by
   grind
  rw[e0,iG (show¬t.state=4 from c4),Ej c4,iV c1];exact qF (qK (qq H))
 have go:∀{K:AV→Go.Ae.R} {Q:AV→AH→Prop},wp (K (.bool false)) Q→wp (w4 (.bool (decide (¬t.state=4))) R7 (.bool false) K) Q:=λw=>by
  by_cases c4:t.state=4
  ·rw[iV (λh=>h c4)];exact qy w
  ·rw[iG (show¬t.state=4 from c4),Ej c4,iG (cc.resolve_left c4)];exact qF w
 refine go (qJ ?_);clear go Ej;obtain⟨qa,ra,HA⟩:=aS.E H0;obtain⟨lv,HB⟩:=bJ.E (HA.aJ (P:=bJ qa.rb x.r) e_3);have HB:HS g h (qv qa.rb [.int .i64 16,lv]::qC 124 2 x.r.length lv (x.r.flatMap vW)::qv a (xV x qa)::bc S qa.vb x.aD qa.xv qa.bv qa.sw qa.kv::aR qa.vb x.v::aV x.state x.f x.e x.c qa.fv qa.ev qa.cv::qv b (ze t q)::wb t q R):=HB;have back:∀{al:Bool} {h':AH},(t.state≠6→al=al)→HS g h' (qv qa.rb [.int .i64 16,lv]::qC 124 2 x.r.length lv (x.r.flatMap vW)::qv a (xV x qa)::bc S qa.vb x.aD qa.xv qa.bv qa.sw qa.kv::aR qa.vb x.v::aV x.state x.f x.e x.c qa.fv qa.ev qa.cv::qv b (ze t { q with al:=al })::wb t q R)→HS g h' (aT S b { t with bI:=al }::R):=λ{al h'} _ H'=>iU.I (t:={ t with bI:=al }) (q:={ q with al:=al }) hx ⟨J,λ_=>⟨hq.1,rfl⟩,r.le,r.at_⟩ e (aS.I ra ((bJ.I H').sub (.cons e_1 (.cons e_1 (.cons e_1 (.cons .here .refl))))))
 have HB:HS g h (qv qa.rb [.int .i64 16,lv]::qC 124 2 x.r.length lv (x.r.flatMap vW)::qv a (xV x qa)::bc S qa.vb x.aD qa.xv qa.bv qa.sw qa.kv::aR qa.vb x.v::aV x.state x.f x.e x.c qa.fv qa.ev qa.cv::qv b (ze t { q with al:=t.bI })::wb t q R):=by rw[← hq.2];omega
 clear H H0 HA
 refine jB (λc s h'=>∃(i:Nat) (al:Bool),s=(.int .i64 (i:Int),.int .u64 dH,.int .i64 st,.ptr b 0,())∧i≤x.r.length∧c=x.r.length-i∧(t.state=4→al=t.bI∧yr x.r st dH=yr (x.r.drop i) st dH)∧(t.state≠4→(yr x.r st dH||t.bI)=(yr (x.r.drop i) st dH||al))∧
   HS g h' (qv qa.rb [.int .i64 16,lv]::qC 124 2 x.r.length lv (x.r.flatMap vW)::qv a (xV x qa)::bc S qa.vb x.aD qa.xv qa.bv qa.sw qa.kv::aR qa.vb x.v::aV x.state x.f x.e x.c qa.fv qa.ev qa.cv::qv b (ze t { q with al:=al })::wb t q R))
  ?_ (m:=x.r.length) (by grind) ⟨0,t.bI,rfl,Nat.zero_le _,rfl,λ_=>⟨rfl,rfl⟩,λ_=>rfl,HB⟩
 clear HB;rintro c ih z h3 bj ⟨i,al,rfl,hi,rfl,h4,h1,H⟩;dsimp only;have toL:∀{K:AV→Go.Ae.R} {Q:AV→AH→Prop},wp (K lv) Q→wp (zn (.ptr b 0) λv=>qH v 12 λv=>jK h3 v λv=>zn v λv=>qH v 18 λv=>jK h3 v λv=>zn v λv=>qH v 1 λv=>jK h3 v K) Q:=λw=>by
  refine qX (qQ (qZ H (b:=b) e_6 (x:=.ptr a 0) (by rw[← e];rfl) ?_));refine qX (qQ (qZ H (b:=a) e_2 (x:=.ptr qa.rb 0) rfl ?_));exact qX (qQ (qZ H (b:=qa.rb) .here (x:=lv) rfl w))
 refine toL (qr H (n:=x.r.length) (v:=lv) e_1 ?_);by_cases ap:i<x.r.length
 rotate_left
 ·obtain rfl:i=x.r.length:=by omega
  refine jM omQ (qJ (qj (qq ?_)));rw[List.drop_length]at h4 h1;have HT:=back (λ_=>rfl) H;rcases cc with c4 |c1
  ·obtain⟨rfl,hs⟩:=h4 c4;rw[hs];exact HT
  ·have h1:=h1 omQ;have e0:yr [] st dH=false:=rfl;rw[e0,Bool.false_or]at h1;rw[iQ (show¬t.state=4 by omega),iJ c1];subst h1;cases hF:yr x.r st dH with
   |true=>grind
   |false=>rw[hF]at HT;exact HT
 refine jO omQ (qK (qG ?_))
 try dsimp only
 rw[LX ap]at h4 h1;have on:∀c:¬(x.r[i].1=st∧x.r[i].2≠dH),wp (ih (.int .i64 (i+((1:Nat):Int)),.int .u64 dH,.int .i64 st,.ptr b 0,()) h3 []) _:=λc=>by
  rw[iV c,Bool.false_or]at h4 h1;exact bj (x.r.length-(i+1)) _ _ omQ ⟨i+1,al,rfl,by omega,rfl,h4,h1,H⟩
 have rw2:=w5 (sz:=2) (enc:=vW) (λ_=>rfl) (iW ap);refine toL (jn (H.sl (n:=x.r.length) (v:=lv) (xs:=x.r.flatMap vW) e_1) omQ ap (x:=.int .i64 x.r[i].1) ?_ ?_)
 ·have:=congrArg (·[0]?) rw2;simp only[List.getElem?_take_of_lt (show 0<2 by omega),List.getElem?_drop]at this;trivial
 by_cases c1:x.r[i].1=st
 rotate_left
 ·refine jb c1 (qG ?_)
  try dsimp only
  refine ql (qF (qK ?_));exact qE omQ (on λh=>c1 h.1)
 refine jR c1 (qG ?_)
 try dsimp only
 refine qP (toL (jn (H.sl (n:=x.r.length) (v:=lv) (xs:=x.r.flatMap vW) e_1) omQ ap (x:=.int .u64 x.r[i].2) ?_ ?_))
 ·have:=congrArg (·[1]?) rw2;simp only[List.getElem?_take_of_lt (show 1<2 by omega),List.getElem?_drop]at this;trivial
 by_cases c2:x.r[i].2=dH
 ·refine qk c2 (qy (qK ?_));exact qE omQ (on λh=>h.2 c2)
 refine qW c2 (qy (qJ ?_));clear on;rw[iG ⟨c1,c2⟩,Bool.true_or]at h4 h1;refine qX (qQ (qZ H (b:=b) e_6 (x:=.int .i64 t.state) rfl ?_));by_cases c4:t.state=4
 ·obtain⟨rfl,hs⟩:=h4 c4;rw[hs,iJ rfl,iJ c4];refine qk c4 (qK ?_);exact qY (J8 (t:=t) (q:={ q with al:=t.bI }) omQ C.toThrB C.lt omQ J s (H.sub (.cons e_6 (.drop (.drop (.drop (.drop (.drop (.drop .refl))))))))) λ_ h7 H7=>qj (qq H7)
 ·refine qW c4 (qJ ?_);refine qX (qQ (qx H (b:=b) e_6 ⟨rfl,rfl⟩ (by simp[ze]) λh8 H8=>?_));refine qE omQ ?_;refine bj (x.r.length-(i+1)) _ _ omQ ⟨i+1,true,rfl,by omega,rfl,λh=>absurd h c4,λ_=>?_,?_⟩
  ·grind
  ·exact H8.sub (.cons e_1 (.cons e_1 (.cons e_1 (.cons e_1 (.cons e_1 (.cons e_1 (.cons .here .refl)))))))
theorem qXs:∀{zs:List (zP×B8)} {R:List SP},HS g h ((zs.flatMap λz=>vH z.1 z.2)++R)→jW (zs.flatMap λz=>gO z.1 z.2)=true
 |[],_,_=>rfl
 |z::zs,R,H=>by
  have H:HS g h (qC 63 2 z.1.reads.length z.2.rv (z.1.reads.flatMap jH)::qC 63 2 z.1.cells.length z.2.cv (z.1.cells.flatMap jH)::qC z.2.fe 1 z.1.dJ.length z.2.fv (z.1.dJ.map (.int .i64))::((zs.flatMap λz=>vH z.1 z.2)++R)):=H;have o1:=H.one (v:=z.2.rv) .here;have o2:=H.one (v:=z.2.cv) e_1;have o3:=H.one (v:=z.2.fv) e_2;have ih:=qXs (zs:=zs) (R:=R) H.drop.drop.drop;rw[List.flatMap_cons,jW,List.all_append];have:jW (gO z.1 z.2)=true:=by simp only[jW,gO,List.all_cons,o1.2,o2.2,o3.2];rfl
  grind[jW]
theorem bm.one {r:List zP} {v:AV} (H:HS g h (bm r v::R)):∃zs:List (zP×B8),zs.map (·.1)=r∧jW (zs.flatMap λz=>gO z.1 z.2)=true∧HS g h (qC 61 14 zs.length v (zs.flatMap λz=>gO z.1 z.2):: .all (zs.flatMap λz=>vH z.1 z.2)::R):=by obtain⟨zs,e,H⟩:=bm.E H;exact⟨zs,e,qXs H.drop.cE,H⟩
theorem jZn (hx:t.now=some x) (h1:t.state=1) (hb:x.begun=true):qg t=t.ah++[jq t x 0]:=by
 simp_all[qg]
theorem jJM (h:∀x,t.now=some x→¬(t.state=1∧x.begun=true)):qg t=t.ah:=by
 unfold qg
 grind
theorem ZP (hn:10≤n) (O:xR t) (hp:t.ah.length≤1000000) (H:HS g h (aT S b t::R)):ba n 27 [.ptr b 0] h λv h'=>HS g h' (bm (qg t) v::R):=by
 refine bw (S:=S27) rfl omQ λk hk=>?_;unfold S27;try simp only[iZ]
 obtain⟨q,r,H0⟩:=aT.E H;clear H;refine qX (qQ (qZ H0 (b:=b) e_1 (x:=q.pv) rfl ?_));obtain⟨zs,sf,a0,H1⟩:=bm.one (H0.aJ (P:=bm t.ah q.pv) e_4);have lM:zs.length=t.ah.length:=by grind
 refine QZ H1 (H1.sl .here) omQ omQ a0 λv1 h2 H2=>?_;have HP:=bm.I sf (H2.sub (.cons .here (.cons e_1 (.drop .refl))));clear H0 H1 H2 lM sf a0 zs;have HP:HS g h2 (bm t.ah v1::dB S t.now q.nv::qv b (ze t q)::qC 77 1 t.jobs.length q.jv q.js::qC 130 2 t.ax.length q.gv (t.ax.flatMap jH)::qC 166 4 t.results.length q.rv (t.results.flatMap B9)::qC 130 2 t.af.length q.lv (t.af.flatMap jH)::qC 22 1 q.zs.length q.sv (q.zs.map (.int .u64))::R):=HP;have no:(∀x,t.now=some x→¬(t.state=1∧x.begun=true))→HS g h2 (bm (qg t) v1::R):=λh=>by
  rw[jJM h];exact HP.sub (.cons .here (.drop (.drop (.drop (.drop (.drop (.drop (.drop .refl))))))))
 refine qG ?_
 try dsimp only
 refine qX (qQ (qZ HP (b:=b) e_2 (x:=.int .i64 t.state) rfl ?_));by_cases c1:t.state=1
 rotate_left
 ·refine qW c1 (qG ?_)
  try dsimp only
  exact qe (qy (qJ (qj (qq (no λx _ h=>c1 h.1)))))
 obtain⟨x,hx⟩:=O.at1 omQ;have hN:=(O.c omQ).now x hx;have hq:=r.bo omQ;have HQ:=HP.sub (L':=dB S t.now q.nv::bm t.ah v1::qv b (ze t q)::_) (.cons e_1 (.cons .here (.cons .here .refl)));rw[hx]at HQ;obtain⟨a,e,HQ⟩:=dB.E HQ;obtain⟨qa,ra,HA⟩:=aS.E HQ;clear HQ;refine qk c1 (qG ?_)
 try dsimp only
 refine qf (qX (qQ (qZ HP (b:=b) e_2 (x:=.ptr a 0) (by rw[← e];rfl) ?_)));refine qX (qQ (qZ HA (b:=a) .here (x:=.bool x.begun) rfl ?_));refine qF ?_;by_cases hb:x.begun=true
 rotate_left
 ·rw[show(AV.bool x.begun)=.bool false by grind];exact qJ (qj (qq (no λy hy h=>by grind)))
 rw[hb,jZn hx c1 hb];refine qK ?_;clear no HP;refine qY (VT (pick:=0) (q:=q) omQ hN.1 hq.1 e ra (HA.sub (.cons .here (.cons .here (.cons .here (.cons .here (.cons .here (.cons e_1 .refl)))))))) ?_;rintro _ h3 ⟨z,rfl,H1⟩;have H1:HS g h3 (qC 63 2 (jq t x 0).reads.length z.rv ((jq t x 0).reads.flatMap jH)::qC 63 2 (jq t x 0).cells.length z.cv ((jq t x 0).cells.flatMap jH)::qC z.fe 1 (jq t x 0).dJ.length z.fv ((jq t x 0).dJ.map (.int .i64))::gK S a x qa (qv b (ze t q)::bm t.ah v1::_)):=H1;have o1:=H1.one (v:=z.rv) .here;have o2:=H1.one (v:=z.cv) e_1;have o3:=H1.one (v:=z.fv) e_2;have a1:jW (gO (jq t x 0) z)=true:=by simp only[jW,gO,List.all_cons,o1.2,o2.2,o3.2];rfl
 refine jY (n:=1) (l:=gO (jq t x 0) z) (sz:=14) H1 rfl rfl rfl a1 λv2 h4 H2=>?_;obtain⟨zs,sf,H3⟩:=bm.E (H2.aJ (P:=bm t.ah v1) e_10);have lM:zs.length=t.ah.length:=by grind
 refine zA H3 (H3.sl e_2) omQ omQ a1 λv3 h5 H4=>?_;refine qj (qq ?_);have B1:=Gk (A:=zs.flatMap λz=>vH z.1 z.2) (B:=vH (jq t x 0) z) (H4.sub (.cons e_1 (.cons e_2 (.cons e_2 (.cons e_2 (.cons .here (.drop (.drop (.drop (.drop (.drop (.drop (.drop (.drop (.drop (.drop (.drop (.drop .refl))))))))))))))))));have eA:(zs++[(jq t x 0,z)]).flatMap (λz=>vH z.1 z.2)=(zs.flatMap λz=>vH z.1 z.2)++vH (jq t x 0) z:=by simp
 have eB:(zs++[(jq t x 0,z)]).flatMap (λz=>gO z.1 z.2)=(zs.flatMap λz=>gO z.1 z.2)++gO (jq t x 0) z:=by simp
 have eC:(zs++[(jq t x 0,z)]).length=zs.length+1:=by simp
 exact bm.I (v:=v3) (zs:=zs++[(jq t x 0,z)]) (r:=t.ah++[jq t x 0]) (by grind) (by rw[eA,eB,eC];exact B1.sub (.cons e_1 (.cons .here .refl)))
end
end
section
variable {g h:AH} {L R:List SP}
def KU (S:je) (M:zG) (wv lv sv:AV):List AV:=[.int .i64 S.words,.int .i64 S.ae,.int .i64 S.wide,.int .i64 S.ad,.int .u64 S.start,wv,lv,.int .u64 M.n,sv,.int .i64 M.aN]
abbrev kI (p:Nat) (S:je) (M:zG) (wv lv sv:AV) (R:List SP):List SP :=
 qv p (KU S M wv lv sv)::qC 22 1 M.w.length wv (M.w.map (.int .u64))::qC 44 3 M.l.length lv (M.l.flatMap yb)::qC 22 1 M.s.length sv (M.s.map (.int .u64))::R
def bQ (p:Nat) (S:je) (M:zG):SP:=.ex λq:AV×AV×AV=>.all (kI p S M q.1 q.2.1 q.2.2 [])
section
variable {n p:Nat} {S:je} {M:zG} {o:dj} {wv lv sv:AV}
theorem bQ.E (H:HS g h (bQ p S M::R)):∃wv lv sv,HS g h (kI p S M wv lv sv R):=by obtain⟨⟨wv,lv,sv⟩,H⟩:=H.iq;exact⟨wv,lv,sv,H.cE⟩
theorem bQ.I (H:HS g h (kI p S M wv lv sv R)):HS g h (bQ p S M::R):=HS.iO (wv,lv,sv) (HS.allI (A:=kI p S M wv lv sv []) H)
theorem qv9 {l:dz} (hn:1≤n) (H:HS g h R):ba n 65 [.agg (yb l)] h λr h'=>r=.bool (decide (kB l))∧HS g h' R:=by
 refine bw (S:=S65) rfl omQ λk hk=>?_;unfold S65;try simp only[iZ]
 obtain⟨w,d,o⟩:=l;refine qh H rfl λb h1 H1=>?_;have H1:HS g h1 (qv b [.int .u64 w,.bool d,.int .i64 o]::R):=H1;refine qQ (qZ H1 (b:=b) .here rfl ?_);refine Ql (λc1=>?_) (λc1=>?_)
 ·refine qK (qq ⟨?_,H1.drop⟩);cases d with
  |true=>simp_all[iV,Ge]
  |false=>simp_all[iV,Uh]
 ·refine qJ (qQ (qZ H1 (b:=b) .here rfl ?_));cases d with
  |true=>
   refine qK (qQ (qZ H1 (b:=b) .here rfl ?_));by_cases c2:0≤o
   ·refine zK c2 (qG ?_)
    try dsimp only
    refine qf (qQ (qZ H1 (b:=b) .here rfl ?_));by_cases c3:o<4
    ·exact jO c3 (qF (qq ⟨by simp_all[iG,Ge],H1.drop⟩))
    ·exact jM c3 (qF (qq ⟨by simp_all[iV,Ge],H1.drop⟩))
   ·refine jt c2 (qG ?_)
    try dsimp only
    exact qe (qy (qq ⟨by simp_all[iV,Ge],H1.drop⟩))
  |false=>
   refine qJ (qQ (qZ H1 (b:=b) .here rfl ?_));by_cases c2:o=0
   ·exact qk c2 (qq ⟨by simp_all[iG,Uh],H1.drop⟩)
   ·exact qW c2 (qq ⟨by simp_all[iV,Uh],H1.drop⟩)
theorem G4 {b:Nat} {a:cB} {Q:AV→AH→Prop} (H:HS g h (qv b (zY cO)::R)) (q:∀h',HS g h' R→Q (.agg (zY a)) h'):wp (jw h (.ptr b 0) (.agg (zY a)) 6 λh'=>jr h' (.ptr b 0) 6 λv=>some (v,h')) Q:=by refine zq H (b:=b) .here rfl (by trivial) rfl λh2 H2=>?_;exact qo H2 (b:=b) (off:=0) .here rfl omQ (l:=zY a) rfl (qq (q _ H2.drop))
theorem qYE (hn:1≤n) (H:HS g h (kI p S M wv lv sv R)) :
  ba n 43 [.ptr p 0,.agg (xB o)] h λr h'=>r=.agg (zY (Xm M o).1)∧HS g h' (kI p S (Xm M o).2 wv lv sv R):=by
 refine cu (S:=S43) rfl omQ λk hk=>?_;unfold S43;try simp only[iZ]
 refine qh H rfl λb0 h1 H1=>?_;refine qh H1 (l:=zY cO) rfl λb1 h2 H2=>?_;clear H H1;unfold Xm;refine qQ (qZ H2 (b:=b0) e_1 (x:=.int .i64 o.at_) rfl ?_);by_cases c1:o.at_<1
 ·rw[iJ (Or.inl c1)];refine jO c1 (qG ?_)
  try dsimp only
  refine ql (qF (qK ?_));exact qA (l:=zY (ng 2)) rfl (G4 H2 λh' H'=>⟨rfl,H'.drop⟩)
 refine jM c1 (qG ?_)
 try dsimp only
 refine qP (qQ (qZ H2 (b:=b0) e_1 (x:=.int .i64 o.at_) rfl ?_));refine qX (qQ (qZ H2 (b:=p) e_2 (x:=wv) rfl ?_));refine qr H2 (n:=M.w.length) (v:=wv) e_3 ?_;by_cases c2:(M.w.length:Int)≤o.at_
 ·rw[iJ (Or.inr c2)];refine zK c2 (qy (qK ?_));exact qA (l:=zY (ng 2)) rfl (G4 H2 λh' H'=>⟨rfl,H'.drop⟩)
 rw[iQ omQ];refine jt c2 (qy (qJ ?_));refine qQ (qZ H2 (b:=b0) e_1 (x:=.int .i64 o.kind) rfl ?_);obtain⟨k,hk⟩:∃k:Nat,o.at_=k:=⟨o.at_.toNat,by omega⟩;by_cases c3:o.kind=1
 ·rw[iJ c3];refine qk c3 (qK ?_);refine qX (qQ (qZ H2 (b:=p) e_2 (x:=wv) rfl ?_));refine qQ (qZ H2 (b:=b0) e_1 (x:=.int .i64 (k:Int)) (by rw[← hk];rfl) ?_);refine zO (H2.sl (v:=wv) (xs:=M.w.map (.int .u64)) e_3) (x:=.int .u64 (qB M.w k)) (by rw[List.getElem?_map,JJ omQ];rfl) ?_;exact qA (l:=zY ⟨qB M.w o.at_,cC,false,0⟩) (by rw[hk];rfl) (G4 H2 λh' H'=>⟨rfl,H'.drop⟩)
 ·rw[iQ c3];refine qW c3 (qJ ?_);refine qX (qQ (qZ H2 (b:=p) e_2 (x:=wv) rfl ?_));refine qQ (qZ H2 (b:=b0) e_1 (x:=.int .i64 (k:Int)) (by rw[← hk];rfl) ?_);refine qQ (qZ H2 (b:=b0) e_1 (x:=.int .u64 o.word) rfl ?_);refine Q9 (H2.aJ (P:=qC 22 1 M.w.length wv (M.w.map (.int .u64))) e_3) omQ ⟨rfl,rfl⟩ λh3 H3=>?_;rw[← List.map_set]at H3;refine qA (l:=zY cO) rfl (G4 (H3.aJ (P:=qv b1 (zY cO)) e_1) λh' H'=>⟨rfl,?_⟩);show HS g h' (qv p (KU S M wv lv sv)::qC _ 1 (M.w.set o.at_.toNat o.word).length wv ((M.w.set o.at_.toNat o.word).map (.int .u64))::_);rw[show o.at_.toNat=k by omega,List.length_set];exact H'.sub (.cons e_2 (.cons .here (.drop .refl)))
theorem qqB (hn:2≤n) (H:HS g h (kI p S M wv lv sv R)) :
  ba n 44 [.ptr p 0,.agg (xB o)] h λr h'=>r=.agg (zY (Xp M o).1)∧HS g h' (kI p S (Xp M o).2 wv lv sv R):=by
 (refine q8 (g:=W44) rfl omQ λk hk=>?_;show wp (S44 (callT tab qL k) _ _ _) _;unfold S44;try simp only[iI,uU,iZ])
 refine qh H rfl λb0 h1 H1=>?_;refine qh H1 (l:=zY cO) rfl λb1 h2 H2=>?_;clear H H1;unfold Xp;refine qQ (qZ H2 (b:=b0) e_1 (x:=.int .i64 o.at_) rfl ?_);by_cases c1:o.at_<0
 ·rw[iJ (Or.inl c1)];refine jO c1 (qG ?_)
  try dsimp only
  refine ql (qF (qK ?_));exact qA (l:=zY (ng 2)) rfl (G4 H2 λh' H'=>⟨rfl,H'.drop⟩)
 refine jM c1 (qG ?_)
 try dsimp only
 refine qP (qQ (qZ H2 (b:=b0) e_1 (x:=.int .i64 o.at_) rfl ?_));refine qX (qQ (qZ H2 (b:=p) e_2 (x:=lv) rfl ?_));refine qr H2 (n:=M.l.length) (v:=lv) e_4 ?_;by_cases c2:(M.l.length:Int)≤o.at_
 ·rw[iJ (Or.inr c2)];refine zK c2 (qy (qK ?_));exact qA (l:=zY (ng 2)) rfl (G4 H2 λh' H'=>⟨rfl,H'.drop⟩)
 rw[iQ omQ];refine jt c2 (qy (qJ ?_));refine qQ (qZ H2 (b:=b0) e_1 (x:=.int .i64 o.kind) rfl ?_);obtain⟨k,hk⟩:∃k:Nat,o.at_=k:=⟨o.at_.toNat,by omega⟩;by_cases c3:o.kind=3
 ·rw[iJ c3];refine qk c3 (qK ?_);refine qX (qQ (qZ H2 (b:=p) e_2 (x:=lv) rfl ?_));refine qQ (qZ H2 (b:=b0) e_1 (x:=.int .i64 (k:Int)) (by rw[← hk];rfl) ?_);refine xI (l:=yb (jj M.l k)) (H2.sl (v:=lv) (xs:=M.l.flatMap yb) e_4) omQ omQ (ZS omQ) ?_;exact qA (l:=zY ⟨0,jj M.l o.at_,false,0⟩) (by rw[hk];rfl) (G4 H2 λh' H'=>⟨rfl,H'.drop⟩)
 rw[iQ c3];refine qW c3 (qJ ?_);refine qQ (qo H2 (b:=b0) (off:=7) e_1 rfl omQ (l:=yb o.lk) rfl ?_);refine qY (qv9 (l:=o.lk) omQ H2) ?_;rintro _ h3 ⟨rfl,H3⟩;clear H2;have put:∀{h4:AH} {a:cB},HS g h4 (qC 44 3 M.l.length lv (QH (M.l.flatMap yb) (k*3) (yb o.lk))::qv b1 (zY cO)::qv b0 (xB o)::qv p (KU S M wv lv sv)::qC 22 1 M.w.length wv (M.w.map (.int .u64))::qC 22 1 M.s.length sv (M.s.map (.int .u64))::R)→
   wp (jw h4 (.ptr b1 0) (.agg (zY a)) 6 λh'=>jr h' (.ptr b1 0) 6 λv=>some (v,h')) λr h'=>r=.agg (zY a)∧HS g h' (kI p S { M with l:=M.l.set o.at_.toNat o.lk } wv lv sv R):=λ{h4 a} H4=>by
  rw[qg4 (sz:=3) (enc:=yb) (l:=M.l) (i:=k) (a:=o.lk) (λ_=>rfl) omQ]at H4;refine G4 (H4.aJ (P:=qv b1 (zY cO)) e_1) λh' H'=>⟨rfl,?_⟩;show HS g h' (qv p (KU S M wv lv sv)::_::qC _ 3 (M.l.set o.at_.toNat o.lk).length lv ((M.l.set o.at_.toNat o.lk).flatMap yb)::_);rw[show o.at_.toNat=k by omega,List.length_set];exact H'.sub (.cons e_2 (.cons e_2 (.cons .here (.drop .refl))))
 by_cases c4:kB o.lk
 rotate_left
 ·rw[iJ c4,iV c4];refine jo (qK ?_);exact qA (l:=zY (ng 1)) rfl (G4 H3 λh' H'=>⟨rfl,H'.drop⟩)
 rw[iQ (λh=>h c4),iG c4];refine jE (qJ ?_);refine qQ (qZ H3 (b:=b0) e_1 (x:=.int .i64 o.kind) rfl ?_);by_cases c5:o.kind=5
 ·rw[iJ c5];refine qk c5 (qK ?_);refine qX (qQ (qZ H3 (b:=p) e_2 (x:=lv) rfl ?_));refine qQ (qZ H3 (b:=b0) e_1 (x:=.int .i64 (k:Int)) (by rw[← hk];rfl) ?_);refine qQ (qo H3 (b:=b0) (off:=7) e_1 rfl omQ (l:=yb o.lk) rfl ?_);refine P2 (l:=yb o.lk) (i:=k) (H3.aJ (P:=qC 44 3 M.l.length lv (M.l.flatMap yb)) e_4) omQ rfl rfl λh4 H4=>?_;exact qA (l:=zY cO) rfl (put H4)
 rw[iQ c5];refine qW c5 (qJ ?_);refine qX (qQ (qZ H3 (b:=p) e_2 (x:=lv) rfl ?_));refine qQ (qZ H3 (b:=b0) e_1 (x:=.int .i64 (k:Int)) (by rw[← hk];rfl) ?_);refine xI (l:=yb (jj M.l k)) (H3.sl (v:=lv) (xs:=M.l.flatMap yb) e_4) omQ omQ (ZS omQ) ?_;refine qQ (qo H3 (b:=b0) (off:=4) e_1 rfl omQ (l:=yb o.aw) rfl ?_);rw[hk]at put ⊢;refine qWL (p:=jj M.l k=o.aw) (jQu _ _) (λc6=>?_) (λc6=>?_)
 ·rw[iQ (λh=>h c6)];refine qJ (qX (qQ (qZ H3 (b:=p) e_2 (x:=lv) rfl ?_)));refine qQ (qZ H3 (b:=b0) e_1 (x:=.int .i64 (k:Int)) (by rw[← hk];rfl) ?_);refine qQ (qo H3 (b:=b0) (off:=7) e_1 rfl omQ (l:=yb o.lk) rfl ?_);refine P2 (l:=yb o.lk) (i:=k) (H3.aJ (P:=qC 44 3 M.l.length lv (M.l.flatMap yb)) e_4) omQ rfl rfl λh4 H4=>?_;exact qA (l:=zY ⟨0,cC,true,0⟩) rfl (put H4)
 ·rw[iJ c6];refine qK ?_;exact qA (l:=zY cO) rfl (G4 H3 λh' H'=>⟨rfl,H'.drop⟩)
theorem qXt (hn:1≤n) (H:HS g h (kI p S M wv lv sv R)) :
  ba n 45 [.ptr p 0,.agg (xB o)] h λr h'=>r=.agg (zY (YA M o).1)∧HS g h' (kI p S (YA M o).2 wv lv sv R):=by
 refine cu (S:=S45) rfl omQ λk hk=>?_;unfold S45;try simp only[iZ]
 refine qh H rfl λb0 h1 H1=>?_;refine qh H1 (l:=zY cO) rfl λb1 h2 H2=>?_;clear H H1;unfold YA;refine qQ (qZ H2 (b:=b0) e_1 (x:=.int .i64 o.kind) rfl ?_);by_cases c1:o.kind=6
 ·rw[iJ c1];refine qk c1 (qK ?_);refine qX (qQ (qZ H2 (b:=p) e_2 (x:=.int .u64 M.n) rfl ?_));exact qA (l:=zY ⟨M.n,cC,false,0⟩) rfl (G4 H2 λh' H'=>⟨rfl,H'.drop⟩)
 rw[iQ c1];refine qW c1 (qJ ?_);refine qQ (qZ H2 (b:=b0) e_1 (x:=.int .u64 o.word) rfl ?_);refine qQ (qZ H2 (b:=b0) e_1 (x:=.int .u64 o.bU) rfl ?_);by_cases c2:o.word≤o.bU
 ·rw[iJ c2];refine ve c2 (qK ?_);exact qA (l:=zY (ng 1)) rfl (G4 H2 λh' H'=>⟨rfl,H'.drop⟩)
 rw[iQ c2];refine vj c2 (qJ ?_);refine qQ (qZ H2 (b:=b0) e_1 (x:=.int .u64 o.word) rfl ?_);by_cases c3:4611686018427387904≤o.word
 ·rw[iJ c3];refine zK c3 (qK ?_);exact qA (l:=zY (ng 7)) rfl (G4 H2 λh' H'=>⟨rfl,H'.drop⟩)
 rw[iQ c3];refine jt c3 (qJ ?_);refine qX (qQ (qZ H2 (b:=p) e_2 (x:=.int .u64 M.n) rfl ?_));refine qQ (qZ H2 (b:=b0) e_1 (x:=.int .u64 o.bU) rfl ?_);by_cases c4:M.n=o.bU
 ·rw[iQ (λh=>h c4)];refine jR c4 (qJ ?_);refine qQ (qZ H2 (b:=b0) e_1 (x:=.int .u64 o.word) rfl ?_);refine qX (qQ ?_);refine qx H2 (b:=p) e_2 ⟨rfl,rfl⟩ (by simp[KU]) λh3 H3=>?_;exact qA (l:=zY ⟨0,cC,true,0⟩) rfl (G4 (H3.aJ (P:=qv b1 (zY cO)) e_1) λh' H'=>⟨rfl,H'.sub (.cons .here (.drop .refl))⟩)
 ·rw[iJ c4];refine jb c4 (qK ?_);exact qA (l:=zY cO) rfl (G4 H2 λh' H'=>⟨rfl,H'.drop⟩)
def km (m:zG) (o:dj):cB×zG:=if o.kind=1∨o.kind=2 then Xm m o else if o.kind=3∨o.kind=4∨o.kind=5 then Xp m o else if o.kind=6∨o.kind=7 then YA m o else if o.kind=8∨o.kind=9 then VJ m o else(ng 1,m)
theorem qvr:(km M o).2.aN=M.aN:=by
 grind[km,Xm,Xp,YA,VJ]
theorem qy8 (hn:3≤n) (hc:0≤M.aN∧M.aN<1000000000) (H:HS g h (bQ p S M::R)) :
  ba n 25 [.ptr p 0,.agg (xB o)] h λr h'=>r=.agg (zY (qR M o).1)∧HS g h' (bQ p S (qR M o).2::R):=by
 refine cu (S:=S25) rfl omQ λk hk=>?_;unfold S25;try simp only[iZ]
 obtain⟨wv,lv,sv,H0⟩:=bQ.E H;refine qh H0 rfl λb0 h1 H1=>?_;refine qh H1 (l:=zY cO) rfl λb1 h2 H2=>?_;refine qA (l:=zY cO) rfl ?_;refine qh H2 (l:=zY cO) rfl λb2 h3 H3=>?_;refine zq H3 (b:=b2) .here rfl (by trivial) rfl λh4 H4=>?_;have H4:HS g h4 (qv b2 (zY cO)::qv b1 (zY cO)::qv b0 (xB o)::kI p S M wv lv sv R):=H4;clear H H0 H1 H2 H3;refine qQ (qZ H4 (b:=b0) e_2 (x:=.int .i64 o.kind) rfl ?_);have sE:=qvr (M:=M) (o:=o);refine jc [] (λz h'=>z=(.ptr b2 0,.ptr b1 0,.ptr p 0,())∧HS g h' (qv b2 (zY (km M o).1)::qv b1 (zY cO)::qv b0 (xB o)::kI p S (km M o).2 wv lv sv R)) (λj hj=>?_) ?_
 rotate_left
 ·rintro _ h5 ⟨rfl,H5⟩;dsimp only;have eD:qR M o=if(km M o).1.err=0 then((km M o).1,{ (km M o).2 with aN:=(km M o).2.aN+1 })else km M o:=rfl
  rw[eD];refine jc [] (λz h'=>z=(.ptr b2 0,.ptr b1 0,())∧HS g h' (qv b2 (zY (km M o).1)::qv b1 (zY cO)::qv b0 (xB o)::kI p S (if(km M o).1.err=0 then((km M o).1,{ (km M o).2 with aN:=(km M o).2.aN+1 })else km M o).2 wv lv sv R)) (λj hj=>?_) ?_
  ·refine qQ (qZ H5 (b:=b2) .here (x:=.int .i64 (km M o).1.err) rfl ?_);by_cases c:(km M o).1.err=0
   ·rw[iJ c]at hj ⊢;refine qk c (qK ?_);refine qX (qQ (qZ H5 (b:=p) e_3 (x:=.int .i64 (km M o).2.aN) rfl ?_));refine qE omQ ?_;refine qX (qQ ?_);refine qx H5 (b:=p) e_3 ⟨rfl,rfl⟩ (by simp[KU]) λh6 H6=>?_;exact hj _ _ ⟨rfl,H6.sub (.cons e_1 (.cons e_1 (.cons e_1 (.cons .here .refl))))⟩
   ·rw[iQ c]at hj ⊢;exact qW c (qJ (hj _ _ ⟨rfl,H5⟩))
  rintro _ h6 ⟨rfl,H6⟩;dsimp only;refine qo H6 (b:=b2) (off:=0) .here rfl omQ (l:=zY (km M o).1) rfl ?_;refine zq H6 (b:=b1) e_1 rfl (by trivial) rfl λh7 H7=>?_;refine qj (qo H7 (b:=b1) (off:=0) .here rfl omQ (l:=zY (km M o).1) rfl (qq ⟨by grind,?_⟩));exact bQ.I (H7.drop.drop.drop)
 have fin:∀{r:cB×zG} {h5:AH},km M o=r→HS g h5 (qv b2 (zY cO)::qv b1 (zY cO)::qv b0 (xB o)::kI p S r.2 wv lv sv R)→wp (jw h5 (.ptr b2 0) (.agg (zY r.1)) 6 λh'=>j (.ptr b2 0,.ptr b1 0,.ptr p 0,()) h' []) λr h'=>r=.agg (zY (qR M o).1)∧HS g h' (bQ p S (qR M o).2::R):=λ{r h5} e H5=>by
  refine zq H5 (b:=b2) .here rfl (by trivial) rfl λh6 H6=>hj _ _ ⟨rfl,?_⟩;rw[e];exact H6
 refine jc [] (λz g'=>z=(.bool (decide (o.kind=1∨o.kind=2)),.int .i64 o.kind,.ptr b2 0,.ptr b1 0,.ptr b0 0,.ptr p 0,())∧g'=h4) (λj hj=>?_) ?_
 ·by_cases c:o.kind=1
  ·exact qk c (qK (hj _ _ ⟨by grind,rfl⟩))
  refine qW c (qJ ?_);by_cases c2:o.kind=2
  ·exact qk c2 (hj _ _ ⟨by grind,rfl⟩)
  ·exact qW c2 (hj _ _ ⟨by grind,rfl⟩)
 rintro _ h4 ⟨rfl,rfl⟩;dsimp only;by_cases k1:o.kind=1∨o.kind=2
 ·rw[iG k1];refine qK (qo H4 (b:=b0) (off:=0) e_2 rfl omQ (l:=xB o) rfl ?_);refine qY (qYE (o:=o) omQ (H4.sub (.cons e_3 (.cons e_3 (.cons e_3 (.cons e_3 .refl)))))) ?_;rintro _ h5 ⟨rfl,H5⟩;exact fin (by simp_all[km]) (H5.sub (.cons e_4 (.cons e_4 (.cons e_4 .refl))))
 rw[iV k1];refine qJ (jc [] (λz g'=>z=(.bool (decide (o.kind=3∨o.kind=4∨o.kind=5)),.int .i64 o.kind,.ptr b2 0,.ptr b1 0,.ptr b0 0,.ptr p 0,())∧g'=h4) (λj hj=>?_) ?_)
 ·by_cases c:o.kind=3
  ·exact qk c (qK (hj _ _ ⟨by grind,rfl⟩))
  refine qW c (qJ ?_);by_cases c2:o.kind=4
  ·exact qk c2 (qK (hj _ _ ⟨by grind,rfl⟩))
  refine qW c2 (qJ ?_);by_cases c3:o.kind=5
  ·exact qk c3 (hj _ _ ⟨by grind,rfl⟩)
  ·exact qW c3 (hj _ _ ⟨by grind,rfl⟩)
 rintro _ h4 ⟨rfl,rfl⟩;dsimp only;by_cases k2:o.kind=3∨o.kind=4∨o.kind=5
 ·rw[iG k2];refine qK (qo H4 (b:=b0) (off:=0) e_2 rfl omQ (l:=xB o) rfl ?_);refine qY (qqB (o:=o) omQ (H4.sub (.cons e_3 (.cons e_3 (.cons e_3 (.cons e_3 .refl)))))) ?_;rintro _ h5 ⟨rfl,H5⟩;exact fin (by simp_all[km]) (H5.sub (.cons e_4 (.cons e_4 (.cons e_4 .refl))))
 rw[iV k2];refine qJ (jc [] (λz g'=>z=(.bool (decide (o.kind=6∨o.kind=7)),.int .i64 o.kind,.ptr b2 0,.ptr b1 0,.ptr b0 0,.ptr p 0,())∧g'=h4) (λj hj=>?_) ?_)
 ·by_cases c:o.kind=6
  ·exact qk c (qK (hj _ _ ⟨by grind,rfl⟩))
  refine qW c (qJ ?_);by_cases c2:o.kind=7
  ·exact qk c2 (hj _ _ ⟨by grind,rfl⟩)
  ·exact qW c2 (hj _ _ ⟨by grind,rfl⟩)
 rintro _ h4 ⟨rfl,rfl⟩;dsimp only;by_cases k3:o.kind=6∨o.kind=7
 ·rw[iG k3];refine qK (qo H4 (b:=b0) (off:=0) e_2 rfl omQ (l:=xB o) rfl ?_);refine qY (qXt (o:=o) omQ (H4.sub (.cons e_3 (.cons e_3 (.cons e_3 (.cons e_3 .refl)))))) ?_;rintro _ h5 ⟨rfl,H5⟩;exact fin (by simp_all[km]) (H5.sub (.cons e_4 (.cons e_4 (.cons e_4 .refl))))
 rw[iV k3];refine qJ (jc [] (λz g'=>z=(.bool (decide (o.kind=8∨o.kind=9)),.ptr b2 0,.ptr b1 0,.ptr b0 0,.ptr p 0,())∧g'=h4) (λj hj=>?_) ?_)
 ·by_cases c:o.kind=8
  ·exact qk c (qK (hj _ _ ⟨by grind,rfl⟩))
  refine qW c (qJ ?_);by_cases c2:o.kind=9
  ·exact qk c2 (hj _ _ ⟨by grind,rfl⟩)
  ·exact qW c2 (hj _ _ ⟨by grind,rfl⟩)
 rintro _ h4 ⟨rfl,rfl⟩;dsimp only;have eB:km M o=if o.kind=8∨o.kind=9 then VJ M o else(ng 1,M):=by simp_all[km]
 have Bf:∀{f:Nat} {x:AV} {r:cB×zG} {h5:AH},km M o=r→One x→f<6→(zY cO).set f x=zY r.1→HS g h5 (qv b2 (zY cO)::qv b1 (zY cO)::qv b0 (xB o)::kI p S r.2 wv lv sv R)→wp (qH (.ptr b2 0) f λq=>jw h5 q x 1 λh'=>j (.ptr b2 0,.ptr b1 0,.ptr p 0,()) h' []) λr h'=>r=.agg (zY (qR M o).1)∧HS g h' (bQ p S (qR M o).2::R):=λ{f x r h5} e h1 hf ex H5=>by
  refine qQ (qx H5 (b:=b2) .here h1 hf λh6 H6=>hj _ _ ⟨rfl,?_⟩);grind
 by_cases k4:o.kind=8∨o.kind=9
 rotate_left
 ·rw[iV k4];refine qJ ?_;rw[iQ k4]at eB;exact Bf eB ⟨rfl,rfl⟩ omQ rfl H4
 rw[iG k4];rw[iJ k4]at eB;unfold VJ at eB;refine qK (qQ (qZ H4 (b:=b0) e_2 (x:=.int .i64 o.at_) rfl ?_));by_cases c1:o.at_<0
 ·rw[iJ (Or.inl c1)]at eB;refine jO c1 (qG ?_)
  try dsimp only
  refine ql (qF (qK ?_));exact Bf eB ⟨rfl,rfl⟩ omQ rfl H4
 refine jM c1 (qG ?_)
 try dsimp only
 refine qP (qQ (qZ H4 (b:=b0) e_2 (x:=.int .i64 o.at_) rfl ?_));refine qX (qQ (qZ H4 (b:=p) e_3 (x:=sv) rfl ?_));refine qr H4 (n:=M.s.length) (v:=sv) e_6 ?_;by_cases c2:(M.s.length:Int)≤o.at_
 ·rw[iJ (Or.inr c2)]at eB;refine zK c2 (qy (qK ?_));exact Bf eB ⟨rfl,rfl⟩ omQ rfl H4
 rw[iQ omQ]at eB;refine jt c2 (qy (qJ ?_));refine qQ (qZ H4 (b:=b0) e_2 (x:=.int .i64 o.kind) rfl ?_);obtain⟨k,hk⟩:∃k:Nat,o.at_=k:=⟨o.at_.toNat,by omega⟩;by_cases c3:o.kind=8
 ·rw[iJ c3]at eB;refine qk c3 (qK ?_);refine qX (qQ (qZ H4 (b:=p) e_3 (x:=sv) rfl ?_));refine qQ (qZ H4 (b:=b0) e_2 (x:=.int .i64 (k:Int)) (by rw[← hk];rfl) ?_);refine zO (H4.sl (v:=sv) (xs:=M.s.map (.int .u64)) e_6) (x:=.int .u64 (qB M.s k)) (by rw[List.getElem?_map,JJ omQ];rfl) ?_;exact Bf eB ⟨rfl,rfl⟩ omQ (by rw[hk];rfl) H4
 ·rw[iQ c3]at eB;refine qW c3 (qJ ?_);refine qX (qQ (qZ H4 (b:=p) e_3 (x:=sv) rfl ?_));refine qQ (qZ H4 (b:=b0) e_2 (x:=.int .i64 (k:Int)) (by rw[← hk];rfl) ?_);refine qQ (qZ H4 (b:=b0) e_2 (x:=.int .u64 o.word) rfl ?_);refine Q9 (H4.aJ (P:=qC 22 1 M.s.length sv (M.s.map (.int .u64))) e_6) omQ ⟨rfl,rfl⟩ λh5 H5=>hj _ _ ⟨rfl,?_⟩;rw[← List.map_set]at H5;rw[eB];show HS g h5 (qv b2 (zY cO)::qv b1 (zY cO)::qv b0 (xB o)::qv p (KU S M wv lv sv)::_::_::qC _ 1 (M.s.set o.at_.toNat o.word).length sv ((M.s.set o.at_.toNat o.word).map (.int .u64))::R);rw[show o.at_.toNat=k by omega,List.length_set];exact H5.sub (.cons e_1 (.cons e_1 (.cons e_1 (.cons e_1 (.cons e_1 (.cons e_1 (.cons .here .refl)))))))
end
end
section
variable {g h:AH} {L R:List SP}
section
variable {n a b:Nat} {t:qu} {q:E0} {x:q9}
theorem xR.rl (O:xR t):t.af.length+t.ax.length≤63000:=O.b.len (by have:=O.fX;grind)
end
end
section
variable {g h:AH} {L R:List SP}
def rH (jss:List (List (List qO))) (v:AV):SP:=.ex λvs:List AV=>.all [.fk (vs.length=jss.length),qC 71 1 jss.length v vs,.all (List.zipWith (λv js=>ch js v) vs jss)]
theorem rH.E {jss:List (List (List qO))} {v:AV} (H:HS g h (rH jss v::R)):∃vs:List AV,vs.length=jss.length∧HS g h (qC 71 1 jss.length v vs:: .all (List.zipWith (λv js=>ch js v) vs jss)::R):=by obtain⟨vs,H⟩:=H.iq;exact⟨vs,H.cE.dT⟩
theorem rH.I {jss:List (List (List qO))} {v:AV} {vs:List AV} (hl:vs.length=jss.length) (H:HS g h (qC 71 1 jss.length v vs:: .all (List.zipWith (λv js=>ch js v) vs jss)::R)):HS g h (rH jss v::R) :=
 HS.iO vs (HS.allI (A:=[_,_,_]) (HS.dU hl H))
end
section
variable {g h:AH} {L R R':List SP}
theorem mW.own {e:TypeId} {sz n:Nat} {v:AV} {xs:List AV}:mW (qC e sz n v xs) sz n v xs:=λD h p=>by
 obtain⟨h1,⟨rfl,rfl,_⟩ |⟨b,cp,o,ys,rfl,_,A,h2,h3,_⟩⟩:=p
 ·obtain rfl:xs=[]:=iA (by grind);exact .aj
 ·exact .mk trivial A.lt A.rd h1 λi hi=>by rw[A.at,Nat.zero_add,← h3,List.getElem?_take_of_lt hi]
theorem qyC {A A':List SP} {P:SP} (s:bB A P A'):∀{D:Nat→Prop} {h:AH},na A D h→∃D1,P.p D1 h:=by
 induction s with
 |here=>intro D h ⟨D1,_,_,_,p,_⟩;grind
 |there _ ih=>intro D h ⟨_,D2,_,_,_,r⟩;grind
theorem mW.sx {A A':List SP} {P:SP} {sz n:Nat} {v:AV} {xs:List AV} (s:bB A P A') (r:mW P sz n v xs):mW (.all A) sz n v xs:=λD h p=>by
 obtain⟨D1,p1⟩:=qyC s p;exact r D1 h p1
theorem VD {A:List SP} {P:SP} {i:Nat} (h:A[i]? =some P):bB A P (A.eraseIdx i):=by
 have:=qwo (R:=[]) h
 grind
abbrev Fp:=List (List qO)×AV×List AV
def Ek (z:Fp):SP:=.all [qC 77 1 z.1.length z.2.1 z.2.2,.all (List.zipWith yh z.2.2 z.1)]
def bp (Z:List Fp):SP:=.all (Z.map Ek)
structure Fq (S:SP) (js:List (List qO)) (v:AV) (vl:List AV):Prop where
  len:vl.length=js.length
  one:∀w∈vl,One w
  s:mW S 1 js.length v vl
  i:∀(k:Nat) (l:List qO) (w:AV),js[k]? =some l→vl[k]? =some w→mW S 5 l.length w (l.flatMap ju)
theorem qGS:∀{vl:List AV} {js:List (List qO)} {R:List SP},vl.length=js.length→HS g h (List.zipWith yh vl js++R)→∀w∈vl,One w
 |[],_,_,_,_,w,hw=>by grind
 |v::vl,[],_,hl,_,w,_=>by grind
 |v::vl,j::js,R,hl,H,w,hw=>by
  have H:HS g h (qC 101 5 j.length v (j.flatMap ju)::(List.zipWith yh vl js++R)):=H;rcases List.mem_cons.1 hw with rfl |hw
  ·exact H.one .here
  ·exact qGS (Nat.succ.inj hl) H.drop w hw
theorem bp.open_:∀{vs:List AV} {jss:List (List (List qO))} {R:List SP},vs.length=jss.length→HS g h (.all (List.zipWith (λv js=>ch js v) vs jss)::R)→
  ∃Z:List Fp,Z.map (·.1)=jss∧Z.map (·.2.1)=vs∧(∀z∈Z,z.2.2.length=z.1.length∧∀w∈z.2.2,One w)∧HS g h (bp Z::R)
 |[],[],R,_,H=>⟨[],rfl,rfl,λz hz=>(by grind),H⟩
 |[],_::_,_,hl,_=>by grind
 |_::_,[],_,hl,_=>by grind
 |v::vs,j::jss,R,hl,H=>by
  have H:HS g h (ch j v::(List.zipWith (λv js=>ch js v) vs jss++R)):=H.cE;obtain⟨vl,Fs,H⟩:=ch.E H;have ho:=qGS Fs H.drop.cE;have H1:HS g h (List.zipWith (λv js=>ch js v) vs jss++(Ek (j,v,vl)::R)):=HS.mj Gw (HS.allI (A:=[_,_]) H);obtain⟨Z,e1,e2,e3,H2⟩:=bp.open_ (Nat.succ.inj hl) (HS.allI H1);refine⟨(j,v,vl)::Z,by grind,by grind,λz hz=>?_,?_⟩
  ·grind
  ·refine HS.allI (A:=Ek (j,v,vl)::Z.map Ek) ?_;exact(HS.cE H2).aJ Gw
theorem bp.aD {Z:List Fp} {i:Nat} {z:Fp} (e:∀z∈Z,z.2.2.length=z.1.length∧∀w∈z.2.2,One w) (hz:Z[i]? =some z):Fq (bp Z) z.1 z.2.1 z.2.2:=by obtain⟨h1,h2⟩:=e z (List.mem_of_getElem? hz);have s:bB (Z.map Ek) (Ek z) ((Z.map Ek).eraseIdx i):=VD (by grind);refine⟨h1,h2,.sx s (.sx .here .own),λk l w hl hw=>.sx s (.sx e_1 (.sx (VD (i:=k) (P:=yh w l) ?_) .own))⟩;grind
theorem Fq.nil {S:SP}:Fq S [] .aj []:=⟨rfl,λ_ h=>(by grind),λ_ _ _=>.aj,λk l w h=>by simp⟩
section
variable {n a b:Nat} {t:qu} {q:X0} {S:SP} {x:q9}
theorem jQB {s:je} (hn:3≤n) (SO:xo s) (H:HS g h R):ba n 19 [.agg (yB s)] h λv h'=>∃p,v=.ptr p 0∧HS g h' (bQ p s (xw s)::R):=by
 refine bw (S:=S19) rfl omQ λk hk=>?_;unfold S19;try simp only[iZ]
 have hw:=SO.words;have hl:=SO.ae;have ht:=SO.ad;refine qh H rfl λb0 h1 H1=>?_;refine qo H1 (b:=b0) (off:=0) .here rfl omQ (l:=yB s) rfl ?_;refine qY (ZX omQ H1) ?_;rintro _ h2 ⟨rfl,H2⟩;rw[Xa SO];refine qh H2 rfl λb1 h3 H3=>?_;refine zq H3 (b:=b1) .here rfl (by simp) rfl λh4 H4=>?_;have H4:HS g h4 (qv b1 (yB s)::qv b0 (yB s)::R):=H4;clear H H1 H2 H3;refine qo H4 (b:=b1) (off:=0) .here rfl omQ (l:=yB s) rfl ?_;refine qQ (qZ H4 (b:=b1) .here (x:=.int .i64 ((s.words.toNat:Nat):Int)) (by grind) ?_);refine Xy H4 omQ λwv h5 H5=>?_;refine qQ (qZ H5 (b:=b1) e_1 (x:=.int .i64 ((s.ae.toNat:Nat):Int)) (by grind) ?_);refine Ve (sz:=3) (ln:=s.ae.toNat) (cp:=s.ae.toNat) H5 rfl (Nat.le_refl _) omQ λlv h6 H6=>?_;rw[List.take_of_length_le (by simp[JF]),show gu [AV.int .u64 ((0:Nat):Int),.bool false,.int .i64 ((0:Nat):Int)] s.ae.toNat=(List.replicate s.ae.toNat cC).flatMap yb by rw[← qqO];rfl]at H6;refine qQ (qZ H6 (b:=b1) e_2 (x:=.int .u64 s.start) rfl ?_);refine qQ (qZ H6 (b:=b1) e_2 (x:=.int .i64 ((s.ad.toNat:Nat):Int)) (by grind) ?_);refine Xy H6 omQ λsv h7 H7=>?_;have o1:=H7.one (v:=wv) e_2;have o2:=H7.one (v:=lv) e_1;have o3:=H7.one (v:=sv) .here;refine qA (l:=KU s (xw s) wv lv sv) (by simp only[gn,o1.1,o2.1,o3.1];rfl) ?_;refine qh H7 (by show jW _=true;simp only[jW,KU,List.all_cons,o1.2,o2.2,o3.2];rfl) λp h8 H8=>qq ⟨p,rfl,?_⟩;refine bQ.I (wv:=wv) (lv:=lv) (sv:=sv) ?_;unfold kI xw;dsimp only;rw[List.length_replicate,List.length_replicate,List.length_replicate,List.map_replicate,List.map_replicate];exact H8.sub (.cons .here (.cons e_2 (.cons e_1 (.cons .here (.drop (.drop .refl))))))
theorem qKl {me:Int} {s:je} {js:List (List qO)} {v:AV} {vl:List AV} (hn:12≤n) (hs:0≤s.start) (hj:∀l∈js,(yn l).2=0∧bO l) (_:js.length≤1000000) (J:Fq S js v vl) (s':bB R S R') (H:HS g h R) :
  ba n 20 [.int .i64 me,.agg (yO s),v] h λr h'=>∃b,r=.ptr b 0∧HS g h' (aT S b (Vs me s js)::R):=by
 refine dV (S:=S20) rfl omQ λk hk=>?_;unfold S20;try simp only[iZ]
 refine qh H rfl λb0 h1 H1=>?_;refine qo H1 (b:=b0) (off:=0) .here rfl omQ (l:=yO s) rfl ?_;refine qY (Uk omQ H1) ?_;rintro _ h2 ⟨rfl,H2⟩;have SO:=wY hs;unfold Vs;generalize jT s=T0 at*;have h4:=SO.ad;refine qh H2 rfl λb1 h3 H3=>?_;refine zq H3 (b:=b1) .here rfl (by simp) rfl λh4 H4=>?_;have H4:HS g h4 (qv b1 (yO T0)::qv b0 (yO s)::R):=H4;clear H H1 H2 H3;refine qG ?_
 try dsimp only
 refine qQ (qI (qZ H4 (b:=b1) .here (x:=.int .i64 T0.ad) rfl ?_));refine qn omQ ?_;refine qY (vm omQ omQ) ?_;rintro _ h5 ⟨rfl,rfl⟩;refine qo H4 (b:=b1) (off:=0) .here rfl omQ (l:=yO T0) rfl ?_;have et:max ((0:Nat):Int) (min me (T0.ad-((1:Nat):Int)))=max 0 (min me (T0.ad-1)):=rfl;rw[et]
 let T:List (List qO)→qu:=λjs=>⟨max 0 (min me (T0.ad-1)),T0,js,-1,0,false,[],0,0,none,0,false,[],[],[],[],0,0,false,0⟩
 let Q:AV→List AV→X0:=λjv vl=>⟨jv,.aj,.aW,.aj,.aj,.aj,.aj,vl,[],0,false,0,0⟩
 refine qA (l:=ze (T []) (Q .aj [])) rfl ?_;refine qh H4 rfl λb h6 H6=>?_;refine JZ H4 .here rfl H4 .here rfl rfl omQ (HS.lt H4 .here) ?_;have H7:HS g h6 (qv b (ze (T (js.take 0)) (Q .aj (vl.take 0)))::qC 77 1 0 .aj (vl.take 0)::R) :=
  (H6.aj (e:=77) (sz:=1)).sub (.cons e_1 (.cons .here (.drop (.drop .refl))))
 clear H4 H6;have Fs:=J.len;have fin:∀{i:Nat} {jv:AV} {h':AH},js.take i=js.take 6→i≤js.length→HS g h' (qv b (ze (T (js.take i)) (Q jv (vl.take i)))::qC 77 1 i jv (vl.take i)::R)→
   wp (xS (callT tab qL k) (.fn 33 [] []) [.ptr b 0] h' λ_ IQ=>zT [] IQ λh36=>some (.ptr b 0,h36)) λr h'=>∃b,r=.ptr b 0∧HS g h' (aT S b (xX (T (js.take 6)))::R):=λ{i jv h'} e hi H'=>by
  have N2:=HS.dU (φ:=AV.aW=.aW) rfl (H'.aj (e:=22) (sz:=1));have N3:=(N2.drop).aj (e:=130) (sz:=2);have N4:=N3.aj (e:=166) (sz:=4);have N5:=bm.I (r:=[]) (v:=.aj) (zs:=[]) rfl ((HS.allI (A:=[]) N4).aj);have N6:=N5.aj (e:=130) (sz:=2);have eJ:(js.take i).length=i:=by grind
  have H8:HS g h' (qv b (ze (T (js.take i)) (Q jv (vl.take i)))::wb (T (js.take i)) (Q jv (vl.take i)) R):=by show HS g h' (_::qC _ 1 (js.take i).length jv (vl.take i)::_);rw[eJ];exact N6.sub (.cons e_5 (.cons e_5 (.cons .here (.cons .here (.cons .here (.cons .here (.cons .here .refl)))))))
  rw[← e];refine qY (Vv omQ ?_ ?_ s' H8) λ_ h9 H9=>qj (qq ⟨b,rfl,H9⟩)
  ·refine⟨SO,by grind,λl hl=>hj l (List.mem_of_mem_take hl),?_,by grind,Nat.zero_le _,Nat.zero_le _,by simp,by simp,λ_=>rfl⟩;grind
  ·refine⟨by grind,λk l w hl hw=>?_⟩;have hl:(js.take i)[k]? =some l:=hl;have hw:(vl.take i)[k]? =some w:=hw;rw[List.getElem?_take]at hl hw
   split at hl
   ·rename_i p8;rw[iJ p8]at hw;exact J.i k l w hl hw
   grind
 refine jB (λc z h'=>∃(i:Nat) (jv:AV),z=(.int .i64 (i:Int),.ptr b 0,v,())∧i≤js.length∧i≤6∧c=6-i∧HS g h' (qv b (ze (T (js.take i)) (Q jv (vl.take i)))::qC 77 1 i jv (vl.take i)::R))
  ?_ (m:=6) od ⟨0,.aj,rfl,Nat.zero_le _,Nat.zero_le _,rfl,H7⟩
 clear H7;rintro c ih z h7 bj ⟨i,jv,rfl,hi,hi6,rfl,H⟩;dsimp only;refine yH ((J.s.rd (.there (.there s'))).sl H) ?_;by_cases ap:i<js.length
 rotate_left
 ·refine jM omQ (qG ?_)
  try dsimp only
  refine qe (qy (qJ (fin ?_ hi H)));grind
 refine jO omQ (qG ?_)
 try dsimp only
 refine qf ?_;by_cases h6:i<6
 rotate_left
 ·obtain rfl:i=6:=by omega
  exact jM od (qF (qJ (fin rfl hi H)))
 refine jO omQ (qF (qK ?_));have hiv:i<vl.length:=by omega
 have o0:=J.one _ (List.getElem_mem hiv);have o1:jW [vl[i]]=true:=by show(vl[i].one&&true)=true;rw[o0.2];rfl
 refine qX (qQ (qZ H (b:=b) .here (x:=jv) rfl ?_));refine xI (l:=[vl[i]]) ((J.s.rd (.there (.there s'))).sl H) ap omQ (by rw[Nat.mul_one,List.drop_eq_getElem_cons hiv];rfl) ?_;refine jY (n:=1) (l:=[vl[i]]) (sz:=1) H rfl rfl (by rfl) o1 λv2 h8 H8=>?_;refine zA (H8.aJ (P:=qC 77 1 i jv (vl.take i)) e_2) (H8.sl .here) omQ omQ o1 λv3 h9 H9=>?_;have o3:=H9.one .here;refine qX (qQ (qx H9 (b:=b) e_2 o3 (by simp[ze]) λia dC=>?_));refine qE omQ ?_;refine bj (6-(i+1)) _ _ omQ ⟨i+1,v3,rfl,by omega,by omega,rfl,?_⟩;have ev:vl.take (i+1)=vl.take i++[vl[i]]:=by simp
 rw[ev];exact dC.sub (.cons .here (.cons .here (.drop .refl)))
end
end
section
variable {g h:AH} {L R:List SP}
def Xk (m:vY) (p:Nat) (tv:AV):List AV:=[.int .i64 m.s.words,.int .i64 m.s.ae,.int .i64 m.s.wide,.int .i64 m.s.ad,.int .u64 m.s.start,.int .i64 m.s.spins,.int .i64 m.s.writes,.int .i64 m.s.fuel,.ptr p 0,tv,.int .i64 m.az,
 .int .i64 m.last.kind,.int .i64 m.last.at_,.int .u64 m.last.bU,.int .u64 m.last.word,.int .u64 m.last.aw.1,.bool m.last.aw.2.1,.int .i64 m.last.aw.2.2,.int .u64 m.last.lk.1,.bool m.last.lk.2.1,.int .i64 m.last.lk.2.2,.bool m.did]
def JR (ps:List Nat):List AV:=ps.map λa=>.ptr a 0
theorem qV0 {ps:List Nat} {i a:Nat} (h:ps[i]? =some a):(JR ps)[i]? =some (.ptr a 0):=by grind[JR]
end
section
variable {g h:AH} {L R:List SP}
section
variable {n b p:Nat} {m:vY} {tv:AV} {ps:List Nat}
structure Qe (ts:List qu) (i:Nat) (s v:Int) (k:Nat) (us:List qu):Prop where
  len:us.length=ts.length
  lo:∀j,j<k→us[j]? =(yQ ts i s v)[j]?
  hi:∀j,k≤j→us[j]? =ts[j]?
theorem Qe.done {ts us:List qu} {i:Nat} {s v:Int} (W:Qe ts i s v ts.length us):us=yQ ts i s v:=by
 have hw:(yQ ts i s v).length=ts.length:=by simp[yQ]
 apply List.ext_getElem?;intro j;by_cases c:j<ts.length
 ·exact W.lo j c
 ·have h1:=W.len;grind
theorem Qe.same {ts us:List qu} {i:Nat} {s v:Int} (W:Qe ts i s v i us):Qe ts i s v (i+1) us :=
 ⟨W.len,λj hj=>by
  by_cases c:j<i
  ·exact W.lo j c
  ·obtain rfl:j=i:=by omega
   rw[W.hi j (Nat.le_refl _),YL];simp,λj hj=>W.hi j omQ⟩
theorem Qe.next {ts us:List qu} {i k:Nat} {s v:Int} {t:qu} (W:Qe ts i s v k us) (hk:k≠i) (ht:ts[k]? =some t):Qe ts i s v (k+1) (us.set k (zy t s v)):=by
 have h1:=W.len;have h2:=(List.getElem?_eq_some_iff.1 ht).1;refine⟨by grind,λj hj=>?_,λj hj=>?_⟩
 ·by_cases c:j=k
  ·subst c;rw[List.getElem?_set_self omQ,YL,ht];grind
  ·rw[List.getElem?_set_ne (λh=>c h.symm)];exact W.lo j omQ
 ·rw[List.getElem?_set_ne omQ];exact W.hi j omQ
end
end
section
variable {g h:AH} {L R R':List SP}
def gS (S:SP) (ps:List Nat) (ts:List qu):List SP:=List.zipWith (aT S) ps ts
abbrev Cn (S:SP) (b:Nat) (m:vY) (p:Nat) (tv:AV) (ps:List Nat) (c:Int) (R:List SP):List SP :=
 qv b (Xk m p tv)::qC 72 1 m.t.length tv (JR ps)::bQ p m.s { m.m with aN:=c }:: .all (gS S ps m.t)::R
def dx (S:SP) (b:Nat) (m:vY):SP:=.ex λq:Nat×AV×List Nat×Int=>.all (.fk (q.2.2.1.length=m.t.length∧0≤q.2.2.2∧q.2.2.2≤m.m.aN)::Cn S b m q.1 q.2.1 q.2.2.1 q.2.2.2 [])
section
variable {n b p:Nat} {m:vY} {tv:AV} {ps:List Nat} {S:SP} {c:Int}
theorem dx.E (H:HS g h (dx S b m::R)):∃p tv ps c,ps.length=m.t.length∧(0≤c∧c≤m.m.aN)∧HS g h (Cn S b m p tv ps c R):=by obtain⟨⟨p,tv,ps,c⟩,H⟩:=H.iq;obtain⟨h1,H⟩:=H.cE.dT;exact⟨p,tv,ps,c,h1.1,h1.2,H⟩
theorem dx.I (hl:ps.length=m.t.length) (hc:0≤c∧c≤m.m.aN) (H:HS g h (Cn S b m p tv ps c R)):HS g h (dx S b m::R) :=
 HS.iO (p,tv,ps,c) (HS.allI (A:=.fk (ps.length=m.t.length∧0≤c∧c≤m.m.aN)::Cn S b m p tv ps c []) (HS.dU ⟨hl,hc⟩ H))
theorem qGD {ts:List qu} {i a:Nat} {t:qu} (h1:ps[i]? =some a) (h2:ts[i]? =some t):(gS S ps ts)[i]? =some (aT S a t):=by grind[gS]
theorem qk4 {ts:List qu} {i a:Nat} {u:qu} (h1:ps[i]? =some a):gS S ps (ts.set i u)=(gS S ps ts).set i (aT S a u):=by
 unfold gS;apply List.ext_getElem?;grind
theorem qx6 {ts:List qu} {i a:Nat} {t:qu} (h1:ps[i]? =some a) (h2:ts[i]? =some t) (H:HS g h (.all (gS S ps ts)::R)):HS g h (aT S a t:: .all ((gS S ps ts).eraseIdx i)::R) :=
 HS.fS (VD (qGD h1 h2)) H
theorem ZN {ts:List qu} {i a:Nat} {u:qu} (h1:ps[i]? =some a) (h2:i<ts.length) (H:HS g h (aT S a u:: .all ((gS S ps ts).eraseIdx i)::R)):HS g h (.all (gS S ps (ts.set i u))::R):=by
 have e:(gS S ps ts).eraseIdx i=(gS S ps (ts.set i u)).eraseIdx i:=by rw[qk4 h1,List.eraseIdx_set_eq]
 rw[e]at H;exact HS.ot (VD (qGD h1 (List.getElem?_set_self h2))) H
theorem jZe {M:zG} {o:dj}:gX { M with aN:=c } o=((gX M o).1,{ (gX M o).2 with aN:=c }):=by
 grind[gX,Xm,Xp,YA,VJ]
theorem qwR {M:zG} {o:dj} (hc:0≤c∧c≤M.aN):∃c',qR { M with aN:=c } o=((qR M o).1,{ (qR M o).2 with aN:=c' })∧0≤c'∧c'≤(qR M o).2.aN:=by
 have h1:=qZ4 (M:=M) (o:=o);rw[gG,gG,jZe];dsimp only;by_cases he:(gX M o).1.err=0
 ·grind
 simp_all
theorem qve {i:Nat} {draw:Int} (hn:21≤n) (K:NJ m) (hi:i<m.t.length) (hb:m.t.length≤1000) (hp:m.az≤900000) (hd:0≤draw∧draw<256) (s:bB R S R') (H:HS g h (dx S b m::R)) :
  ba n 9 [.ptr b 0,.int .i64 (i:Int),.int .u8 draw] h λr h'=>r=.int .i64 0∧HS g h' (dx S b (xZ m i draw)::R):=by
 refine dV (S:=S9) rfl omQ λk hk=>?_;unfold S9;try simp only[iZ]
 obtain⟨p,tv,ps,c,hl,hc,H⟩:=dx.E H;have ht:m.t[i]? =some m.t[i]:=iW hi;have h1:ps[i]? =some (ps[i]'omQ):=iW omQ;obtain⟨O,W,hpa⟩:=K.t i _ ht;have Ce:=K.az;have mD:=K.aN;have MR:=K.r;have KT:=K.t;unfold xZ;rw[ht];dsimp only;generalize(ps[i]'omQ)=a at*;generalize hte:m.t[i]=t at*;refine jM omQ ?_;refine qG ?_
 try dsimp only
 refine qP (qX (qQ (qZ H (b:=b) .here (x:=tv) rfl ?_)));refine qr H (sz:=1) (n:=m.t.length) (v:=tv) e_1 ?_;refine jt omQ ?_
 try dsimp only
 refine qy (qJ ?_);refine qX (qQ (qZ H (b:=b) .here (x:=.int .i64 m.az) rfl ?_));refine qE omQ ?_;refine qX (qQ ?_);refine qx H (b:=b) .here ⟨rfl,rfl⟩ (by simp[Xk]) λh2 H2=>?_;refine qX (qQ (qZ H2 (b:=b) .here (x:=tv) rfl ?_));refine zO (H2.sl (v:=tv) (xs:=JR ps) e_1) (x:=.ptr a 0) (qV0 h1) ?_;have H3:=qx6 h1 ht (H2.aJ (P:=.all (gS S ps m.t)) e_3);refine qY (qWl omQ O H3) ?_;rintro _ h4 ⟨rfl,H4⟩;refine qi rfl (qi rfl ?_);clear H H2 H3;refine qX (qQ ?_);refine zq H4 (b:=b) e_2 rfl (by simp[Xk]) rfl λh5 H5=>?_;have H5:HS g h5 (qv b (Xk { m with az:=m.az+1,last:=(xW t).getD (bx 0 0 0) } p tv)::aT S a t:: .all ((gS S ps m.t).eraseIdx i)::qC 72 1 m.t.length tv (JR ps)::bQ p m.s { m.m with aN:=c }::R):=H5;refine qX (qQ ?_);refine qx H5 (b:=b) .here ⟨rfl,rfl⟩ (by simp[Xk]) λh6 H6=>?_;refine qX (qQ (qZ H6 (b:=b) .here (x:=.bool (xW t).isSome) rfl ?_));clear H4 H5;cases nC:xW t with
 |none=>rw[nC]at H6;refine jo (qK ?_);have H7:HS g h6 (qv b (Xk { m with az:=m.az+1,last:=bx 0 0 0,did:=false } p tv)::aT S a t:: .all ((gS S ps m.t).eraseIdx i)::qC 72 1 m.t.length tv (JR ps)::bQ p m.s { m.m with aN:=c }::R):=H6;refine qY (qXu omQ O (.there (.there (.there (.there s)))) (H7.aJ (P:=aT S a t) e_1)) λ_ h8 H8=>qq ⟨rfl,?_⟩;have H9:=ZN h1 hi (H8.sub (.cons .here (.cons e_1 .refl)));refine dx.I (p:=p) (tv:=tv) (ps:=ps) (c:=c) (by grind) hc ?_;unfold Cn;rw[show({ m with az:=m.az+1,last:=bx 0 0 0,did:=false,t:=m.t.set i (jC t) }:vY).t.length=m.t.length from List.length_set];exact H9.sub (.cons e_1 (.cons e_1 (.cons e_1 (.cons .here .refl))))
 |some o=>
  rw[nC]at H6;refine jE (qJ ?_);have ho:=kR O W nC;have rr:=Jn MR ho;obtain⟨c',ec,bA⟩:=qwR (o:=o) hc;have H7:HS g h6 (qv b (Xk { m with az:=m.az+1,last:=o,did:=true } p tv)::aT S a t:: .all ((gS S ps m.t).eraseIdx i)::qC 72 1 m.t.length tv (JR ps)::bQ p m.s { m.m with aN:=c }::R):=H6;clear H6;refine qG ?_
  try dsimp only
  refine qX (qQ (qZ H7 (b:=b) .here (x:=.ptr p 0) rfl ?_));refine qX (qQ (qo H7 (b:=b) (off:=11) .here rfl (by simp) (l:=xB o) rfl ?_));refine qY (qy8 (o:=o) omQ ⟨hc.1,by grind⟩ (H7.aJ (P:=bQ p m.s { m.m with aN:=c }) e_4)) ?_;rintro _ h8 ⟨rfl,H8⟩;rw[ec]at H8 ⊢;have H8:HS g h8 (bQ p m.s { (qR m.m o).2 with aN:=c' }::qv b (Xk { m with az:=m.az+1,last:=o,did:=true } p tv)::aT S a t:: .all ((gS S ps m.t).eraseIdx i)::qC 72 1 m.t.length tv (JR ps)::R):=H8;refine qX (qQ (qZ H8 (b:=b) e_1 (x:=.int .i64 (m.az+1)) rfl ?_));refine qY (qqN (an:=(qR m.m o).1) (draw:=draw) (pick:=m.az+1) omQ O rr.1 hd omQ (.there (.there (.there (.there s)))) (H8.aJ (P:=aT S a t) e_2)) λ_ h9 H9=>?_;refine jU H7 .here rfl H8 e_1 rfl (HS.lt H7 .here) ?_
  try dsimp only
  clear H7 H8;have HA:=ZN h1 hi (H9.sub (.cons .here (.cons e_2 .refl)));have O':=Ue O rr.1 hd.1 (pick:=m.az+1) (draw:=draw);have LY:∀k v,(m.t.set i (jg t (qR m.m o).1 draw (m.az+1)))[k]? =some v→xR v:=λk v hv=>by
   by_cases e:k=i
   ·subst e;rw[List.getElem?_set_self hi]at hv;grind
   grind
  generalize CW:m.t.set i (jg t (qR m.m o).1 draw (m.az+1))=ts at*;have LZ:ts.length=m.t.length:=by grind
  have HB:HS g h9 (qv b (Xk { m with az:=m.az+1,last:=o,did:=true } p tv)::qC 72 1 ts.length tv (JR ps)::bQ p m.s { (qR m.m o).2 with aN:=c' }:: .all (gS S ps ts)::R):=by rw[LZ];exact HA.sub (.cons e_2 (.cons e_2 (.cons e_1 (.cons .here .refl))))
  clear H9 HA;generalize qR m.m o=r at*;refine qG ?_
  try dsimp only
  refine qX (qQ (qI (qZ HB (b:=b) .here (x:=.int .i64 o.kind) rfl ?_)));by_cases c5:o.kind=5
  rotate_left
  ·rw[iQ c5];refine qW c5 (qJ (qj (qq ⟨rfl,?_⟩)));exact dx.I (m:={ m with az:=m.az+1,last:=o,did:=true,m:=r.2,t:=ts }) (p:=p) (tv:=tv) (ps:=ps) (c:=c') (by grind) bA HB
  rw[iJ c5];refine qk c5 (qK ?_)
  refine jB (λc z h'=>∃(k:Nat) (us:List qu),z=(.int .i64 (k:Int),.int .i64 (i:Int),.ptr b 0,())∧k≤ts.length∧c=ts.length-k∧Qe ts i o.at_ o.lk.1 k us∧
    HS g h' (qv b (Xk { m with az:=m.az+1,last:=o,did:=true } p tv)::qC 72 1 ts.length tv (JR ps)::bQ p m.s { r.2 with aN:=c' }:: .all (gS S ps us)::R))
   ?_ (m:=ts.length) (by grind) ⟨0,ts,rfl,Nat.zero_le _,rfl,⟨rfl,λj hj=>absurd hj omQ,λj _=>rfl⟩,HB⟩
  clear HB;rintro cc ih z h8 bj ⟨k,us,rfl,hk,rfl,WK,H⟩;dsimp only;refine qX (qQ (qZ H (b:=b) .here (x:=tv) rfl ?_));refine qr H (sz:=1) (n:=ts.length) (v:=tv) e_1 ?_;by_cases ap:k<ts.length
  rotate_left
  ·obtain rfl:k=ts.length:=by omega
   refine jM omQ (qJ (qj (qq ⟨rfl,?_⟩)));have e:=WK.done;subst e;have el:(yQ ts i o.at_ o.lk.1).length=ts.length:=WK.len;refine dx.I (m:={ m with az:=m.az+1,last:=o,did:=true,m:=r.2,t:=yQ ts i o.at_ o.lk.1 }) (p:=p) (tv:=tv) (ps:=ps) (c:=c') (by grind) bA ?_;unfold Cn;rw[show({ m with az:=m.az+1,last:=o,did:=true,m:=r.2,t:=yQ ts i o.at_ o.lk.1 }:vY).t.length=ts.length from el];exact H
  refine jO omQ (qK (qG ?_))
  try dsimp only
  have mg:ps[k]? =some (ps[k]'omQ):=iW omQ;by_cases ck:k=i
  ·subst ck;refine jR rfl (qJ (qE omQ ?_));exact bj (ts.length-(k+1)) _ _ omQ ⟨k+1,us,rfl,by omega,rfl,WK.same,H⟩
  ·refine jb omQ (qK ?_);have htk:ts[k]? =some ts[k]:=iW ap;have huk:us[k]? =some ts[k]:=by rw[WK.hi k (Nat.le_refl _)];simp
   have EZ:=WK.len;refine qX (qQ (qZ H (b:=b) .here (x:=tv) rfl ?_));refine zO (H.sl (v:=tv) (xs:=JR ps) e_1) (x:=.ptr (ps[k]'omQ) 0) (qV0 mg) ?_;refine qX (qQ (qI (qZ H (b:=b) .here (x:=.int .i64 o.at_) rfl ?_)));refine qX (qQ (qI (qI (qZ H (b:=b) .here (x:=.int .u64 o.lk.1) rfl ?_))));have H2:=qx6 mg huk (H.aJ (P:=.all (gS S ps us)) e_3);refine qY (qk1 omQ (LY k _ htk) (.there (.there (.there (.there s)))) H2) λ_ h3 H3=>?_;have H4:=ZN mg omQ H3;refine qE omQ ?_;exact bj (ts.length-(k+1)) _ _ omQ ⟨k+1,_,rfl,by omega,rfl,WK.next ck htk,H4.sub (.cons e_1 (.cons e_1 (.cons e_1 (.cons .here .refl))))⟩
end
end
section
variable {g h:AH} {L R R':List SP}
section
variable {n b p:Nat} {m:vY} {tv:AV} {ps:List Nat} {S:SP} {c:Int}
theorem qyE {A B:List zP} {v w:AV} {K:AV→AH→Go.Ae.R} {Q:AV→AH→Prop} (H:HS g h (bm A v::bm B w::R)) (hl:A.length+B.length≤1000000) (k:∀v' h',HS g h' (bm (A++B) v'::R)→wp (K v' h') Q) :
  wp (xH h 61 14 v w K) Q:=by
 obtain⟨zb,eb,ab,H1⟩:=bm.one (H.aJ (P:=bm B w) e_1);obtain⟨za,ea,H2⟩:=bm.E (H1.aJ (P:=bm A v) e_2);have la:za.length=A.length:=by grind
 have lb:zb.length=B.length:=by grind
 refine zA H2 (H2.sl e_2) omQ omQ ab λv' h' H3=>k v' h' ?_;have H4:=Gk (A:=za.flatMap λz=>vH z.1 z.2) (B:=zb.flatMap λz=>vH z.1 z.2) (R:=qC 61 14 (za.length+zb.length) v' ((za.flatMap λz=>gO z.1 z.2)++zb.flatMap λz=>gO z.1 z.2)::R)
  (HS.mj .here (HS.sub (L':=.all (za.flatMap λz=>vH z.1 z.2)::((zb.flatMap λz=>vH z.1 z.2)++(qC 61 14 (za.length+zb.length) v' ((za.flatMap λz=>gO z.1 z.2)++zb.flatMap λz=>gO z.1 z.2)::R))) (by
   have H5:=(H3.sub (L':=.all (zb.flatMap λz=>vH z.1 z.2):: .all (za.flatMap λz=>vH z.1 z.2)::qC 61 14 (za.length+zb.length) v' ((za.flatMap λz=>gO z.1 z.2)++zb.flatMap λz=>gO z.1 z.2)::R) (.cons e_3 (.cons e_1 (.cons .here (.drop .refl))))).cE
   exact H5.aJ Gw) .refl))
 refine bm.I (zs:=za++zb) (by grind) ?_;rw[List.length_append,List.flatMap_append,List.flatMap_append];exact H4.sub (.cons e_1 (.cons .here .refl))
theorem qzP (hn:11≤n) (K:∀t∈m.t,xR t∧t.ah.length≤1000) (hb:m.t.length≤4) (H:HS g h (dx S b m::R)) :
  ba n 10 [.ptr b 0] h λv h'=>HS g h' (bm (xz m) v::R):=by
 refine bw (S:=S10) rfl omQ λk hk=>?_;unfold S10;try simp only[iZ]
 obtain⟨p,tv,ps,c,hl,hc,H⟩:=dx.E H;have q0:HS g h (bm ((m.t.take 0).flatMap qg) .aj::qv b (Xk m p tv)::qC 72 1 m.t.length tv (JR ps):: .all (gS S (ps.drop 0) (m.t.drop 0))::R):=by have N:=(HS.allI (A:=[]) H).aj (e:=61) (sz:=14);exact bm.I (r:=[]) (v:=.aj) (zs:=[]) rfl (N.sub (.cons .here (.cons .here (.cons .here (.cons .here (.drop .refl))))))
 refine jB (λc z h'=>∃(i:Nat) (lv:AV),z=(.int .i64 (i:Int),lv,.ptr b 0,())∧i≤m.t.length∧c=m.t.length-i∧((m.t.take i).flatMap qg).length≤1001*i∧
   HS g h' (bm ((m.t.take i).flatMap qg) lv::qv b (Xk m p tv)::qC 72 1 m.t.length tv (JR ps):: .all (gS S (ps.drop i) (m.t.drop i))::R))
  ?_ (m:=m.t.length) (by grind) ⟨0,.aj,rfl,Nat.zero_le _,rfl,Nat.le_refl _,q0⟩
 clear q0 H;rintro cc ih z h1 bj ⟨i,lv,rfl,hi,rfl,PC,H⟩;dsimp only;refine qX (qQ (qZ H (b:=b) e_1 (x:=tv) rfl ?_));refine qr H (sz:=1) (n:=m.t.length) (v:=tv) e_2 ?_;by_cases ap:i<m.t.length
 rotate_left
 ·obtain rfl:i=m.t.length:=by omega
  refine jM omQ (qJ (qj (qq ?_)));rw[List.take_length]at H;exact H.sub (.cons .here (.drop (.drop (.drop .refl))))
 refine jO omQ (qK ?_);have hip:i<ps.length:=by omega
 have mg:ps[i]? =some ps[i]:=iW hip;refine qX (qQ (qZ H (b:=b) e_1 (x:=tv) rfl ?_));refine zO (H.sl (v:=tv) (xs:=JR ps) e_2) (x:=.ptr ps[i] 0) (qV0 mg) ?_;have eb:gS S (ps.drop i) (m.t.drop i)=aT S ps[i] m.t[i]::gS S (ps.drop (i+1)) (m.t.drop (i+1)):=by rw[List.drop_eq_getElem_cons hip,List.drop_eq_getElem_cons ap];rfl
 rw[eb]at H;have H2:=(H.aJ (P:=.all (aT S ps[i] m.t[i]::gS S (ps.drop (i+1)) (m.t.drop (i+1)))) e_3).cE;have H3:HS g h1 (aT S ps[i] m.t[i]:: .all (gS S (ps.drop (i+1)) (m.t.drop (i+1)))::bm ((m.t.take i).flatMap qg) lv::qv b (Xk m p tv)::qC 72 1 m.t.length tv (JR ps)::R):=by have H2:HS g h1 (aT S ps[i] m.t[i]::(gS S (ps.drop (i+1)) (m.t.drop (i+1))++(bm ((m.t.take i).flatMap qg) lv::qv b (Xk m p tv)::qC 72 1 m.t.length tv (JR ps)::R))):=H2;grind[HS.mj,e_1,HS.allI,Gw,gS]
 obtain⟨O,hp⟩:=K _ (List.getElem_mem ap);refine qY (ZP omQ O omQ H3) λw h4 H4=>?_;have hta:(qg m.t[i]).length≤1001:=by
  grind[qg,List.length_append,List.length_singleton,List.length_nil]
 refine qyE (H4.sub (.cons e_2 (.cons .here .refl))) omQ λv' h5 H5=>?_;refine qE omQ ?_;have et:(m.t.take (i+1)).flatMap qg=(m.t.take i).flatMap qg++qg m.t[i]:=by rw[List.take_add_one,iW ap,List.flatMap_append];simp
 refine bj (m.t.length-(i+1)) _ _ omQ ⟨i+1,v',rfl,by omega,rfl,by grind,?_⟩;rw[et];exact H5.sub (.cons .here (.cons e_1 (.cons e_1 (.cons .here .refl))))
theorem mem5 {T:je} (O:xo T):{ xw T with w:=(xw T).w.set 5 14 }={ (qR (xw T) (bx 2 5 14)).2 with aN:=0 }∧(qR (xw T) (bx 2 5 14)).2.aN=1:=by
 have q1:=O.words;have e:qR (xw T) (bx 2 5 14)=(cO,{ xw T with w:=(xw T).w.set 5 14,aN:=1 }):=by refine(Uy (M:=xw T) (N:={ xw T with w:=(xw T).w.set 5 14 }) (a:=cO) (.inr rfl) ?_ rfl);unfold Xm;rw[iQ (by show¬((5:Int)<1∨((List.replicate T.words.toNat (0:Int)).length:Int)≤5);grind)];rfl
 rw[e];trivial
def jQ9 (T:je):List AV:=yO T++[.aW,.aj,.int .i64 0]++xB (bx 0 0 0)++[.bool false]
theorem qx4 {s:je} {Z:List Fp} {v:AV} {jss:List (List (List qO))} (hn:14≤n) (hs:0≤s.start) (hZ:Z.map (·.1)=jss) (hz:∀z∈Z,z.2.2.length=z.1.length∧∀w∈z.2.2,One w) (hj:∀js∈jss,js.length≤1000000∧∀l∈js,(yn l).2=0∧bO l) (_:jss.length≤1000)
  (H:HS g h (qC 71 1 Z.length v (Z.map (·.2.1))::bp Z::R)) :
  ba n 5 [.agg (yO s),v] h λr h'=>∃b,r=.ptr b 0∧HS g h' (dx (bp Z) b (wu s jss)::qC 71 1 Z.length v (Z.map (·.2.1))::bp Z::R):=by
 refine cu (S:=S5) rfl omQ λk hk=>?_;unfold S5;try simp only[iZ]
 have lM:Z.length=jss.length:=by grind
 refine qh H rfl λb0 h1 H1=>?_;clear H;refine qr H1 (n:=Z.length) (v:=v) e_1 ?_;refine qY (vm omQ omQ) ?_;rintro _ h1 ⟨rfl,rfl⟩;refine qQ (qI (qx H1 (b:=b0) .here ⟨rfl,rfl⟩ (by simp) λh2 H2=>?_));generalize hnt:max ((1:Nat):Int) (min ((Z.length:Nat):Int) ((4:Nat):Int))=nt at*;have H2:HS g h2 (qv b0 (yO { s with ad:=nt })::qC 71 1 Z.length v (Z.map (·.2.1))::bp Z::R):=H2;refine qo H2 (b:=b0) (off:=0) .here rfl omQ (l:=yO { s with ad:=nt }) rfl ?_;refine qY (Uk omQ H2) ?_;rintro _ h3 ⟨rfl,H3⟩;have eS:jT { s with ad:=nt }=jT { s with ad:=((jss.take 4).length:Int) }:=by
  grind[gJ,List.length_take,jT]
 have SO:xo (jT { s with ad:=((jss.take 4).length:Int) }):=wY hs;have enT:(jT { s with ad:=((jss.take 4).length:Int) }).ad=nt:=by show gJ ((jss.take 4).length:Int) 1 4=nt;grind[gJ,List.length_take]
 unfold wu;dsimp only;rw[eS]at*;generalize jT { s with ad:=((jss.take 4).length:Int) }=T at*;clear eS H1 H2;have ht4:=SO.ad;have hw:=SO.words;refine qA (l:=jQ9 T) rfl ?_;refine qh H3 rfl λb h4 H4=>?_;have H4:HS g h4 (qv b (jQ9 T)::qC 71 1 Z.length v (Z.map (·.2.1))::bp Z::R):=H4.sub (.cons .here (.drop .refl));refine qX (qQ (qI (qo H4 (b:=b) (off:=0) .here rfl omQ (l:=yB T) rfl ?_)));refine qY (jQB omQ SO H4) ?_;rintro _ h5 ⟨p,rfl,H5⟩;refine qX (qQ (qx H5 (b:=b) e_1 (x:=.ptr p 0) ⟨rfl,rfl⟩ (by show 8<22;omega) λh6 H6=>?_))
 let M0:vY:=⟨T,xw T,[],0,bx 0 0 0,false⟩
 have H6:HS g h6 (qv b (Xk M0 p .aj)::bQ p T (xw T)::qC 71 1 Z.length v (Z.map (·.2.1))::bp Z::R):=H6;clear H3 H4 H5;refine qX (qQ (qZ H6 (b:=b) .here (x:=.ptr p 0) rfl ?_));obtain⟨wv,lv,sv,H7⟩:=bQ.E (H6.aJ (P:=bQ p T (xw T)) e_1);refine qX (qQ (qZ H7 (b:=p) .here (x:=wv) rfl ?_));refine Q9 (i:=5) (H7.aJ (P:=qC 22 1 (xw T).w.length wv ((xw T).w.map (.int .u64))) e_1) (by show 5<(List.replicate T.words.toNat (0:Int)).length;grind) ⟨rfl,rfl⟩ λh8 H8=>?_;have H9:HS g h8 (bQ p T { xw T with w:=(xw T).w.set 5 14 }::qv b (Xk M0 p .aj)::qC 71 1 Z.length v (Z.map (·.2.1))::bp Z::R):=by refine bQ.I (wv:=wv) (lv:=lv) (sv:=sv) ?_;unfold kI;dsimp only;rw[List.length_set,List.map_set];exact H8.sub (.cons e_1 (.cons .here .refl))
 obtain⟨e5,ec⟩:=mem5 SO;rw[e5]at H9;clear H6 H7 H8 e5;generalize(qR (xw T) (bx 2 5 14)).2=M5 at*
 let TT:Nat→List qu:=λk=>(List.range k).map λi:Nat=>Vs i T (((jss.take 4)[i]?).getD [])
 have Ft:∀k,(TT k).length=k:=λk=>by grind
 have q0:HS g h8 (dx (bp Z) b ⟨T,M5,TT 0,0,bx 0 0 0,false⟩::qC 71 1 Z.length v (Z.map (·.2.1))::bp Z::R):=by have N1:=HS.allI (A:=[]) H9;have N2:=N1.aj (e:=72) (sz:=1);exact dx.I (m:=⟨T,M5,TT 0,0,bx 0 0 0,false⟩) (p:=p) (tv:=.aj) (ps:=[]) (c:=0) rfl ⟨Int.le_refl _,by grind⟩ (N2.sub (.cons e_3 (.cons .here (.cons e_1 (.cons .here .refl)))))
 clear H9;have entN:nt=((T.ad.toNat:Nat):Int):=by omega
 rw[entN];refine jB (λc q h'=>∃i:Nat,q=(.int .i64 (i:Int),.ptr b 0,.int .i64 ((T.ad.toNat:Nat):Int),v,())∧i≤T.ad.toNat∧c=T.ad.toNat-i∧HS g h' (dx (bp Z) b ⟨T,M5,TT i,0,bx 0 0 0,false⟩::qC 71 1 Z.length v (Z.map (·.2.1))::bp Z::R))
  ?_ (m:=T.ad.toNat) (by grind) ⟨0,rfl,Nat.zero_le _,rfl,q0⟩
 clear q0;rintro cc ih q ia bj ⟨i,rfl,hi,rfl,H⟩;dsimp only;by_cases ap:i<T.ad.toNat
 rotate_left
 ·obtain rfl:i=T.ad.toNat:=by omega
  exact jM omQ (qJ (qj (qq ⟨b,rfl,H⟩)))
 refine jO omQ (qK ?_);refine jc [] (λz h'=>∃(jv:AV) (vl:List AV),z=(jv,.int .i64 (i:Int),.ptr b 0,.int .i64 ((T.ad.toNat:Nat):Int),v,())∧Fq (bp Z) (((jss.take 4)[i]?).getD []) jv vl∧h'=ia) (λj rC=>?_) ?_
 ·refine qr H (sz:=1) (n:=Z.length) (v:=v) e_1 ?_;by_cases him:i<Z.length
  ·refine jO omQ (qK ?_);have Ld:Z[i]? =some Z[i]:=iW him;have ej:((jss.take 4)[i]?).getD []=Z[i].1:=by
    grind
   refine zO (H.sl (v:=v) (xs:=Z.map (·.2.1)) e_1) (x:=Z[i].2.1) (by grind) ?_;rw[ej]at rC;exact rC _ _ ⟨_,_,rfl,bp.aD hz Ld,rfl⟩
  ·refine jM omQ (qJ ?_);have ej:((jss.take 4)[i]?).getD []=[]:=by
    grind
   rw[ej]at rC;exact rC _ _ ⟨_,_,rfl,Fq.nil,rfl⟩
 rintro _ ia ⟨jv,vl,rfl,J,rfl⟩;dsimp only;refine qG ?_
 try dsimp only
 have hjj:∀l∈(((jss.take 4)[i]?).getD []),(yn l).2=0∧bO l:=λl hl=>by
  cases hx:(jss.take 4)[i]? with
  |none=>grind
  |some js=>grind
 have hjl':(((jss.take 4)[i]?).getD []).length≤1000000:=by
  grind
 have eT:TT (i+1)=TT i++[Vs i T (((jss.take 4)[i]?).getD [])]:=by grind[List.range,List.range_succ]
 generalize((jss.take 4)[i]?).getD []=js at*;obtain⟨p',tv,ps,c,nR,hc,HU⟩:=dx.E H;have nR:ps.length=i:=by grind
 have HU:HS g ia (qv b (Xk ⟨T,M5,TT i,0,bx 0 0 0,false⟩ p' tv)::qC 72 1 i tv (JR ps)::bQ p' T { M5 with aN:=c }:: .all (gS (bp Z) ps (TT i))::qC 71 1 Z.length v (Z.map (·.2.1))::bp Z::R):=by grind
 refine qX (qQ (qZ HU (b:=b) .here (x:=tv) rfl ?_));refine qX (qQ (qo HU (b:=b) (off:=0) .here rfl omQ (l:=yO T) rfl ?_));refine qY (qKl (me:=(i:Int)) (s:=T) (js:=js) omQ SO.start.1 hjj hjl' J e_5 HU) ?_;rintro _ iP ⟨tb,rfl,HW⟩;refine jY (n:=1) (l:=[.ptr tb 0]) (sz:=1) HW rfl rfl rfl rfl λv2 RD HX=>?_;refine zA (HX.aJ (P:=qC 72 1 i tv (JR ps)) e_3) (HX.sl .here) omQ omQ rfl λv3 B5 HY=>?_;have o3:=HY.one .here;refine qX (qQ (qx HY (b:=b) e_3 o3 (by simp[Xk]) λLK HZ=>?_));refine jU HU .here rfl HW e_1 rfl (HS.lt HU .here) ?_
 try dsimp only
 refine qE omQ ?_;refine bj (T.ad.toNat-(i+1)) _ _ omQ ⟨i+1,rfl,by omega,rfl,?_⟩;have eb:gS (bp Z) (ps++[tb]) (TT (i+1))=gS (bp Z) ps (TT i)++[aT (bp Z) tb (Vs i T js)]:=by unfold gS;rw[eT,List.zipWith_append (by grind)];rfl
 have ep:JR (ps++[tb])=JR ps++[.ptr tb 0]:=by simp[JR,List.map_append]
 have B1:=Gk (A:=gS (bp Z) ps (TT i)) (B:=[aT (bp Z) tb (Vs i T js)]) (HZ.sub (.cons e_5 (.cons e_3 .refl)));refine dx.I (b:=b) (p:=p') (tv:=v3) (m:=⟨T,M5,TT (i+1),0,bx 0 0 0,false⟩) (ps:=ps++[tb]) (c:=c) (by grind) hc ?_;unfold Cn;rw[show(⟨T,M5,TT (i+1),0,bx 0 0 0,false⟩:vY).t=TT (i+1)from rfl,eb,ep,Ft (i+1)];exact B1.sub (.cons e_1 (.cons e_1 (.cons e_2 (.cons .here (.drop .refl)))))
end
end
section
variable {g h:AH} {L R R':List SP}
section
variable {n:Nat} {zs:List iz} {l:AV}
theorem Nu (hn:24≤n) (H:HS g h R) (S:Rd g R 14 zs.length l (zs.flatMap dK)) (cH:∀z∈zs,U8 z) (nI:zs.length≤4000) :
  ba n 15 [l] h λv h'=>∃ys:List Nat,ys.Perm (List.range zs.length)∧ys.Pairwise (λx y=>¬AF zs y x)∧∃e,HS g h' (qC e 1 ys.length v (ys.map aF)::R):=by
 obtain⟨v,h',er,ys,b,e,rfl,hb,p1,p2,A,O⟩:=qX3 hn (S.sl H) cH nI;have hl:ys.length=zs.length:=by rw[p1.length_eq,List.length_range]
 refine⟨_,h',er,ys,p1,p2,e,?_⟩;refine H.add (D':=λa=>a=b) O ⟨by simp,.inr ⟨b,zs.length,false,_,by rw[hl],λa=>Iff.rfl,A,by simp,by rw[List.take_of_length_le aM],?_⟩⟩ ?_
 ·grind
 ·rintro a rfl;exact⟨hb,A.lt⟩
theorem qjr (hn:25≤n) (H:HS g h R) (S:Rd g R 14 zs.length l (zs.flatMap dK)) (cH:∀z∈zs,U8 z) (nI:zs.length≤4000) (K:∀z∈zs,∀w∈zs,0<z.1.ended→z.1.ended<w.1.born→vP z.1 w.1=true) :
  ba n 11 [l] h λv h'=>v=.bool true∧HS g h' R:=by
 refine bw (S:=S11) rfl omQ λk hk=>?_;unfold S11;try simp only[iZ]
 refine yH (S.sl H) ?_;refine Xy H omQ λav h1 H1=>?_;refine qY (Nu omQ H1 S.more cH nI) ?_;rintro ov h2 ⟨ys,p1,p2,e,H2⟩;have eF:ys.length=zs.length:=by rw[p1.length_eq,List.length_range]
 have dG:∀j (hj:j<ys.length),ys[j]<zs.length:=λj hj=>List.mem_range.1 (p1.mem_iff.1 (List.getElem_mem hj));have hnd:ys.Nodup:=p1.nodup_iff.2 List.nodup_range;refine qr H2 (n:=ys.length) (v:=ov) .here ?_;refine jB (λc z h'=>∃(i:Nat) (A:List Nat),z=(aF i,aF ys.length,ov,av,l,())∧i≤ys.length∧c=ys.length-i∧A.length=zs.length∧(∀(j:Nat) (hj:j<ys.length),j<i→A[ys[j]]? =some j)∧HS g h' (qC e 1 ys.length ov (ys.map aF)::qC 3 1 zs.length av (A.map aF)::R))
  ?_ (m:=ys.length) (by grind) ⟨0,List.replicate zs.length 0,rfl,Nat.zero_le _,rfl,by simp,λj _ hj=>absurd hj omQ,by simp;omega⟩
 clear H H1 H2;rintro c ih z h3 bj ⟨i,A,rfl,hi,rfl,hA,cx,H⟩;dsimp only;refine j8 (λhc=>qK ?_) λhc=>qJ ?_
 ·have ap:i<ys.length:=by omega
  have hy:=dG i ap;refine zO (H.sl (v:=ov) (xs:=ys.map aF) .here) (x:=aF ys[i]) (by grind) ?_;refine Q9 (H.aJ (P:=qC 3 1 zs.length av (A.map aF)) e_1) hy ⟨rfl,rfl⟩ λh4 H4=>?_;refine qE omQ ?_;refine bj (ys.length-(i+1)) _ _ omQ ⟨i+1,A.set ys[i] i,rfl,by omega,rfl,by grind,λj hj Tq=>?_,?_⟩
  ·by_cases e:j=i
   ·grind
   ·rw[List.getElem?_set_ne (λh=>List.pairwise_iff_getElem.1 hnd j i hj ap omQ h.symm)];grind
  ·rw[List.map_set];exact H4.sub (.cons e_1 (.cons .here .refl))
 obtain rfl:i=ys.length:=by omega
 clear bj ih;have H:=H.drop;have hord:∀(i k:Nat) (hi:i<zs.length) (hk:k<zs.length),0<zs[i].1.ended→zs[i].1.ended<zs[k].1.born→∃p q:Nat,A[i]? =some p∧A[k]? =some q∧p≤q:=λi k hi hk h1 h2=>by
  obtain⟨p,hp,ep⟩:=List.mem_iff_getElem.1 (p1.mem_iff.2 (List.mem_range.2 hi));obtain⟨q,hq,eq⟩:=List.mem_iff_getElem.1 (p1.mem_iff.2 (List.mem_range.2 hk));refine⟨p,q,by grind,by grind,Nat.le_of_not_lt λhqp=>?_⟩;have:=List.pairwise_iff_getElem.1 p2 q p hq hp hqp;rw[ep,eq]at this;exact this ⟨_,_,iW hi,iW hk,K _ (List.getElem_mem hi) _ (List.getElem_mem hk) h1 h2⟩
 refine yH (S.more.sl H) ?_;refine jB (λc z h'=>∃(i:Nat),z=(aF i,aF zs.length,l,av,l,())∧i≤zs.length∧c=zs.length-i∧HS g h' (qC 3 1 zs.length av (A.map aF)::R))
  ?_ (m:=zs.length) (by grind) ⟨0,rfl,Nat.zero_le _,rfl,H⟩
 clear H cx hi;rintro c ih z h3 bj ⟨i,rfl,hi,rfl,H⟩;dsimp only;refine j8 (λhc=>qK ?_) λhc=>qJ (qj (qq ⟨rfl,H.drop⟩));have ap:i<zs.length:=by omega
 have hX:∀{k:Nat} (hk:k<zs.length),((zs.flatMap dK).drop (k*14)).take 14=dK zs[k]:=λhk=>Xr zs hk;refine xI (l:=dK zs[i]) (S.more.sl H) ap omQ (hX ap) ?_;refine qh H rfl λb1 h4 H4=>?_;refine zq H4 (b:=b1) .here rfl (by simp) (UQ (cH _ (List.getElem_mem ap))) λh5 H5=>?_;have H5:HS g h5 (qv b1 (dK zs[i])::qC 3 1 zs.length av (A.map aF)::R):=H5;refine yH (S.more.more.sl H5) ?_;refine jB (λc z h'=>∃(k:Nat),z=(aF k,aF zs.length,l,aF i,aF zs.length,l,.ptr b1 0,aF i,av,l,())∧k≤zs.length∧c=zs.length-k∧HS g h' (qv b1 (dK zs[i])::qC 3 1 zs.length av (A.map aF)::R))
  ?_ (m:=zs.length) (by grind) ⟨0,rfl,Nat.zero_le _,rfl,H5⟩
 clear H H4 H5;rintro c2 ih2 z h6 lD ⟨k,rfl,hk,rfl,H⟩;dsimp only;refine j8 (λlN=>qK ?_) λlN=>qJ (qE omQ ?_)
 rotate_left
 ·exact bj (zs.length-(i+1)) _ _ omQ ⟨i+1,rfl,by omega,rfl,H.drop⟩
 have oL:k<zs.length:=by omega
 refine xI (l:=dK zs[k]) (S.more.more.sl H) oL omQ (hX oL) ?_;refine qh H rfl λb2 h7 H7=>?_;refine zq H7 (b:=b2) .here rfl (by simp) (UQ (cH _ (List.getElem_mem oL))) λh8 H8=>?_;have H8:HS g h8 (qv b2 (dK zs[k])::qv b1 (dK zs[i])::qC 3 1 zs.length av (A.map aF)::R):=H8;have on:wp (ih2 (.int .i64 ((k:Int)+((1:Nat):Int)),aF zs.length,l,aF i,aF zs.length,l,.ptr b1 0,aF i,av,l,()) h8 []) λv h'=>v=.bool true∧HS g h' R :=
  lD (zs.length-(k+1)) _ _ omQ ⟨k+1,rfl,by omega,rfl,H8.drop⟩
 refine qQ (qZ H8 (b:=b1) e_1 (x:=.int .i64 zs[i].1.ended) rfl ?_);by_cases d1:0<zs[i].1.ended
 rotate_left
 ·refine xJ omQ (qG ?_)
  try dsimp only
  refine qe (qy (qG ?_))
  try dsimp only
  exact qe (qy (qJ (qE omQ on)))
 refine xL omQ (qG ?_)
 try dsimp only
 refine qf (qQ (qZ H8 (b:=b1) e_1 (x:=.int .i64 zs[i].1.ended) rfl ?_));refine qQ (qZ H8 (b:=b2) .here (x:=.int .i64 zs[k].1.born) rfl ?_);by_cases d2:zs[i].1.ended<zs[k].1.born
 rotate_left
 ·refine jM d2 (qF (qG ?_))
  try dsimp only
  exact qe (qy (qJ (qE omQ on)))
 refine jO d2 (qF (qG ?_))
 try dsimp only
 obtain⟨p,q,ep,eq,hpq⟩:=hord i k ap oL d1 d2;refine qf (zO (H8.sl (v:=av) (xs:=A.map aF) e_2) (x:=aF p) (by grind) ?_);refine zO (H8.sl (v:=av) (xs:=A.map aF) e_2) (x:=aF q) (by grind) ?_;exact xJ omQ (qF (qJ (qE omQ on)))
theorem qZn {ws:List Int} {wv:AV} {Sx:SP} (hn:25≤n) (H:HS g h R) (Sw:Rd g R 1 ws.length wv (ws.map (.int .u64))) (cw:AI g R wv ws) (hws:ws.length<100000) (S:Rd g R 14 zs.length l (zs.flatMap dK)) (cH:∀z∈zs,U8 z) (nI:zs.length≤4000) (s:bB R Sx R')
  (rd:∀z∈zs,mW Sx 2 z.1.reads.length z.2.rv (z.1.reads.flatMap jH)∧mW Sx 2 z.1.cells.length z.2.cv (z.1.cells.flatMap jH)) (hb:∀z∈zs,z.1.reads.length≤256∧z.1.cells.length≤96) :
  ba n 12 [wv,l] h λv h'=>∃ys:List Nat,ys.Perm (List.range zs.length)∧ys.Pairwise (λx y=>¬AF zs y x)∧v=.bool (Js (vA ws []) (ys.map (yx zs)))∧HS g h' R:=by
 refine cu (S:=S12) rfl omQ λk hk=>?_;unfold S12;try simp only[iZ]
 refine qY (Mg (zs:=ws) (cs:=[]) omQ H Sw cw (λ_ _=>.aj) hws od) ?_;rintro mK h1 ⟨e0,L3,H1⟩;refine qY (Nu omQ H1 S.more cH nI) ?_;rintro ov h2 ⟨ys,p1,p2,e,H2⟩;have eF:ys.length=zs.length:=by rw[p1.length_eq,List.length_range]
 have dG:∀j (hj:j<ys.length),ys[j]<zs.length:=λj hj=>List.mem_range.1 (p1.mem_iff.1 (List.getElem_mem hj));have fY:=IT ws.length;rw[← XP ws []]at fY;generalize vA ws []=R8 at*;refine qr H2 (n:=ys.length) (v:=ov) .here ?_;refine jB (λc z h'=>∃(i:Nat) (hz:List Int) (hv:AV) (eh:TypeId),z=(aF i,aF ys.length,ov,hv,l,())∧i≤ys.length∧c=ys.length-i∧(shut hv=true∧Ih hv)∧(32≤hz.length∧hz.length≤256)∧Js R8 (ys.map (yx zs))=Js hz ((ys.map (yx zs)).drop i)∧HS g h' (qC eh 1 hz.length hv (hz.map (.int .u64))::qC e 1 ys.length ov (ys.map aF)::R))
  ?_ (m:=ys.length) (by grind) ⟨0,R8,mK,e0,rfl,Nat.zero_le _,rfl,L3,fY,rfl,H2.sub (.cons e_1 (.cons .here .refl))⟩
 clear H H1 H2 fY L3;rintro c ih z h3 bj ⟨i,hz,hv,eh,rfl,hi,rfl,E9,hl,hT,H⟩;dsimp only;refine j8 (λhc=>qK (qG ?_)) λhc=>qJ (qj (qq ⟨ys,p1,p2,?_,H.drop.drop⟩))
 rotate_left
 ·rw[hT,List.drop_eq_nil_of_le (by grind)];rfl
 try dsimp only
 have ap:i<ys.length:=by omega
 have hy:=dG i ap;refine zO (H.sl (v:=ov) (xs:=ys.map aF) e_1) (x:=aF ys[i]) (by grind) ?_;have eD:(ys.map (yx zs)).drop i=zs[ys[i]].1::(ys.map (yx zs)).drop (i+1):=by rw[List.drop_eq_getElem_cons (by grind),List.getElem_map,JX (iW hy)]
 rw[eD]at hT;have hX:∀f,f<14→(zs.flatMap dK)[ys[i]*14+f]? =(dK zs[ys[i]])[f]?:=λf hf=>by
  rw[← Xr zs hy,List.getElem?_take_of_lt hf,List.getElem?_drop]
 obtain⟨rd1,rd2⟩:=rd _ (List.getElem_mem hy);obtain⟨FV,oN⟩:=hb _ (List.getElem_mem hy);generalize zs[ys[i]]=zz at*;generalize ys[i]=j at*;refine jn (S.more.more.sl H) omQ hy (x:=zz.2.rv) (by rw[hX 10 omQ];rfl) ?_;have Sr:Rd g (qC eh 1 hz.length hv (hz.map (.int .u64))::qC e 1 ys.length ov (ys.map aF)::R) 2 zz.1.reads.length zz.2.rv (zz.1.reads.flatMap jH):=rd1.rd (.there (.there s));refine yH (Sr.sl H) ?_;have hR0:kZ hz zz.1=(zz.1.reads.drop 0).all λc=>decide (1≤c.1∧c.1<hz.length∧qB hz c.1=c.2):=rfl;refine jB (λc z h'=>∃k:Nat,z=(aF k,aF zz.1.reads.length,zz.2.rv,aF i,aF ys.length,ov,aF j,hv,l,())∧k≤zz.1.reads.length∧c=zz.1.reads.length-k∧(kZ hz zz.1=(zz.1.reads.drop k).all λc=>decide (1≤c.1∧c.1<hz.length∧qB hz c.1=c.2))∧HS g h' (qC eh 1 hz.length hv (hz.map (.int .u64))::qC e 1 ys.length ov (ys.map aF)::R))
  ?_ (m:=zz.1.reads.length) (by grind) ⟨0,rfl,Nat.zero_le _,rfl,hR0,H⟩
 clear H hR0;rintro c2 ih2 z h4 lD ⟨k,rfl,hk,rfl,hR,H⟩;dsimp only;refine j8 (λlN=>qK ?_) λlN=>qJ ?_
 rotate_left
 ·rw[List.drop_eq_nil_of_le omQ]at hR;have hR:kZ hz zz.1=true:=hR;rw[show Js hz (zz.1::(ys.map (yx zs)).drop (i+1))=(kZ hz zz.1&&Js (kF hz zz.1) ((ys.map (yx zs)).drop (i+1)))from rfl,hR,Bool.true_and]at hT;refine jn (S.more.more.sl H) omQ hy (x:=.int .i64 zz.1.kind) (by rw[hX 4 omQ];rfl) ?_;by_cases iN:zz.1.kind=2
  ·have eN:kF hz zz.1=vA hz zz.1.cells:=iJ iN;rw[eN]at hT;refine qk iN (qK ?_);refine jn (S.more.more.sl H) omQ hy (x:=zz.2.cv) (by rw[hX 11 omQ];rfl) ?_;refine qY (Mg (zs:=hz) (cs:=zz.1.cells) omQ H (H.rd .here) (qxR (H.rd .here) E9.1 E9.2) (rd2.rd (.there (.there s))) omQ omQ) ?_;rintro Sy h5 ⟨e5,hsr5,H5⟩;refine qE omQ ?_;exact bj (ys.length-(i+1)) _ _ omQ ⟨i+1,_,Sy,e5,rfl,by omega,rfl,hsr5,by simp[XP,IT],hT,H5.sub (.cons .here (.drop .refl))⟩
  ·have eN:kF hz zz.1=hz:=iQ iN;rw[eN]at hT;refine qW iN (qJ (qE omQ ?_));exact bj (ys.length-(i+1)) _ _ omQ ⟨i+1,hz,hv,eh,rfl,by omega,rfl,E9,hl,hT,H⟩
 have oL:k<zz.1.reads.length:=by omega
 rw[List.drop_eq_getElem_cons oL,List.all_cons]at hR;refine xI (l:=jH zz.1.reads[k]) (Sr.sl H) oL omQ (w5 (sz:=2) (enc:=jH) (λ_=>rfl) (iW oL)) ?_;refine qh H rfl λb2 h7 H7=>?_;refine zq H7 (b:=b2) .here rfl (by simp) rfl λh8 H8=>?_;have H8:HS g h8 (qv b2 (jH zz.1.reads[k])::qC eh 1 hz.length hv (hz.map (.int .u64))::qC e 1 ys.length ov (ys.map aF)::R):=H8;generalize zz.1.reads[k]=cc at*;have bad:¬(1≤cc.1∧cc.1<hz.length∧qB hz cc.1=cc.2)→Js R8 (ys.map (yx zs))=false:=λbY=>by
  rw[hT];show(kZ hz zz.1&&_)=false;grind
 have no:¬(1≤cc.1∧cc.1<hz.length∧qB hz cc.1=cc.2)→wp (zT [] h8 λT3=>some (.bool false,T3)) λv h'=>∃ys:List Nat,ys.Perm (List.range zs.length)∧ys.Pairwise (λx y=>¬AF zs y x)∧v=.bool (Js R8 (ys.map (yx zs)))∧HS g h' R:=λbY=>qj (qq ⟨ys,p1,p2,by grind,H8.drop.drop.drop⟩)
 have on:(1≤cc.1∧cc.1<hz.length∧qB hz cc.1=cc.2)→wp (ih2 (.int .i64 ((k:Int)+((1:Nat):Int)),aF zz.1.reads.length,zz.2.rv,aF i,aF ys.length,ov,aF j,hv,l,()) h8 []) _:=λhyes=>by
  rw[iG hyes,Bool.true_and]at hR;exact lD (zz.1.reads.length-(k+1)) _ _ omQ ⟨k+1,rfl,by omega,rfl,hR,H8.drop⟩
 refine qQ (qZ H8 (b:=b2) .here (x:=.int .i64 cc.1) rfl ?_);by_cases d1:cc.1<1
 ·refine jO d1 (qG ?_)
  try dsimp only
  refine ql (qF (qG ?_))
  try dsimp only
  exact ql (qF (qK (no λh=>by omega)))
 refine jM d1 (qG ?_)
 try dsimp only
 refine qP (qQ (qZ H8 (b:=b2) .here (x:=.int .i64 cc.1) rfl ?_));refine qr H8 (n:=hz.length) (v:=hv) e_1 ?_;by_cases d2:cc.1<hz.length
 rotate_left
 ·refine zK omQ (qy (qG ?_))
  try dsimp only
  exact ql (qF (qK (no λh=>by omega)))
 refine jt omQ (qy (qG ?_))
 try dsimp only
 refine qP (qQ (qZ H8 (b:=b2) .here (x:=.int .i64 ((cc.1.toNat:Nat):Int)) (by show some (AV.int .i64 cc.1)=_;grind) ?_))
 refine zO (H8.sl (v:=hv) (xs:=hz.map (.int .u64)) e_1) (x:=.int .u64 (qB hz cc.1)) (by
  unfold qB;grind) ?_
 refine qQ (qZ H8 (b:=b2) .here (x:=.int .u64 cc.2) rfl ?_);by_cases d3:qB hz cc.1=cc.2
 ·exact jR d3 (qy (qJ (qE omQ (on ⟨by omega,d2,d3⟩))))
 ·exact jb d3 (qy (qK (no λh=>d3 h.2.2)))
end
end
section
variable {w0:List Int} {G:wB} {m:vY} {zs:List iz} {ys:List Nat}
structure YW (w0:List Int) (m:vY) (G:wB):Prop where
  a:U4 w0 m G
  p:∀(k:Nat) (t:qu),m.t[k]? =some t→fw m.s t
  w:(w0.length:Int)=m.s.words
theorem qkI {s:je} {jobs:List (List (List qO))} (hs:0≤s.start) (hj:∀js∈jobs,∀l∈js,(yn l).2=0∧bO l):YW (wu s jobs).m.w (wu s jobs) λ_=>[] :=
 ⟨jQM hs hj,qWi,(qWb hs hj).w⟩
theorem qqF (A:YW w0 m G) {i:Nat} {d:Int} (hi:i<m.t.length) (hd:0≤d):∃G',YW w0 (xZ m i d) G':=by obtain⟨G',A'⟩:=qx8 A.a hi hd;exact⟨G',A',qVl A.a.k hi hd A.p,by rw[(YI A.a.k hi hd).2.1];exact A.w⟩
theorem YW.len (A:YW w0 m G):32≤w0.length∧w0.length≤256:=by have:=A.a.k.so.words;have:=A.w;omega
theorem YW.len0 (A:YW w0 m G):(vA w0 []).length=w0.length:=by have:=A.len;grind[XP,iR]
theorem MW (A:YW w0 m G) {L P Q:List zP} {r:zP} (hp:L.Perm (xz m)) (hs:L.Pairwise λa b=>¬YY b a) (e:L=P++r::Q):∀c∈r.reads,1≤c.1∧c.1<(P.foldl kF (vA w0 [])).length∧qB (P.foldl kF (vA w0 [])) c.1=c.2:=by
 intro c hc;have hl:=A.len;have h0:=A.len0;have hw:=A.w;have hB:∀q∈L,LA m.s q:=λq hq=>qzL A.a.k A.p (hp.mem_iff.1 hq);have hr:r∈L:=by grind
 obtain⟨i1,i2⟩:=(hB r hr).ins c hc;have fY:32≤(vA w0 []).length∧(vA w0 []).length≤256:=by grind
 refine⟨i1,by grind[M7],?_⟩;rw[MB (f:=qB w0) fY (λq hq=>(hB q (by grind)).un) i1 (by grind) (by rw[Md hl (by simp[lQ,List.nodup_nil]) i1 omQ];rfl)];exact(A.a.reads hp hs e c hc).symm
theorem qjp {h:List Int} {r:zP} (H:∀c∈r.reads,1≤c.1∧c.1<h.length∧qB h c.1=c.2):kZ h r=true:=List.all_eq_true.2 λc hc=>iG (H c hc)
theorem qqI (A:YW w0 m G) (e1:zs.map (·.1)=xz m) (p1:ys.Perm (List.range zs.length)) (p2:ys.Pairwise λx y=>¬AF zs y x):Js (vA w0 []) (ys.map (yx zs))=true :=
 qJ8 λ_ _ _ e=>qjp (MW A (e1▸NQ p1) (VL p1 p2) e)
def L4 (r:zP) (k:Nat) (c:Cl):zP:={ r with reads:=r.reads.set k (c.1,zu .u64 (c.2+1)) }
theorem qVP (A:YW w0 m G) {U V:List iz} {z:iz} {k:Nat} {c:Cl} (e1:(U++z::V).map (·.1)=xz m) (hk:z.1.reads[k]? =some c) (sf:zs=U++(L4 z.1 k c,z.2)::V)
  (p1:ys.Perm (List.range zs.length)) (p2:ys.Pairwise λx y=>¬AF zs y x):Js (vA w0 []) (ys.map (yx zs))=false:=by
 have hlen:zs.length=(U++z::V).length:=by grind
 have at_:∀j,yx zs j=if j=U.length then L4 z.1 k c else yx (U++z::V) j:=λj=>by
  unfold yx;grind
 have R9:yx (U++z::V) U.length=z.1:=JX (by simp);have Bh:∀x y,YY (yx zs x) (yx zs y)↔YY (yx (U++z::V) x) (yx (U++z::V) y):=λx y=>by
  have hx:=at_ x;have hy:=at_ y;rw[hx,hy];by_cases h1:x=U.length<;>by_cases h2:y=U.length
  ·rw[iJ h1,iJ h2,h1,h2,R9];rfl
  ·rw[iJ h1,iQ h2,h1,R9];rfl
  ·rw[iQ h1,iJ h2,h2,R9];rfl
  grind
 have s1:(ys.map (yx (U++z::V))).Pairwise λa b=>¬YY b a:=by have:=VL p1 p2;grind
 have p1':=p1;rw[hlen]at p1';have hm:U.length∈ys:=p1'.mem_iff.2 (List.mem_range.2 aM);obtain⟨C,D,eY⟩:=List.append_of_mem hm;have hnd:ys.Nodup:=p1.nodup_iff.2 List.nodup_range;have hC:U.length∉C:=λh=>by
  grind
 have eL:ys.map (yx (U++z::V))=C.map (yx (U++z::V))++z.1::D.map (yx (U++z::V)):=by grind
 have R0:=MW A (e1▸NQ p1') s1 eL;have eC:C.map (yx zs)=C.map (yx (U++z::V)):=List.map_congr_left λj hj=>by grind
 have eL':ys.map (yx zs)=C.map (yx zs)++L4 z.1 k c::D.map (yx zs):=by grind
 rw[eL',eC];refine qJd ?_;generalize(C.map (yx (U++z::V))).foldl kF (vA w0 [])=hh at*;have Fu:=List.mem_of_getElem? hk;obtain⟨_,_,h3⟩:=R0 c Fu;have hB:=(qzL A.a.k A.p (r:=z.1) (by grind)).wd c Fu;unfold kZ;rw[List.all_eq_false];refine⟨(c.1,zu .u64 (c.2+1)),?_,?_⟩
 ·have ap:=(List.getElem?_eq_some_iff.1 hk).1;exact List.mem_of_getElem? (List.getElem?_set_self ap)
 ·rw[decide_eq_true_iff];rintro⟨_,_,h4⟩;have h4:qB hh c.1=zu .u64 (c.2+1):=h4;rw[h3]at h4;by_cases hb:c.2=18446744073709551615
  ·rw[hb]at h4;trivial
  ·rw[MY omQ]at h4;omega
theorem qyA (hp:∀t∈m.t,t.ah.length≤600):(xz m).length≤601*m.t.length:=by
 unfold xz;generalize m.t=l at*
 induction l with
 |nil=>simp
 |cons t l ih=>
  have h1:=hp t aM;grind[qg,List.length_append,List.length_singleton,List.length_nil]
end
section
variable {g h:AH} {L R:List SP}
structure El (s:je):Prop where
  words:32≤s.words∧s.words≤80
  ae:1≤s.ae∧s.ae≤16
  wide:1≤s.wide∧s.wide≤4
  ad:s.ad=0
  start:0≤s.start∧s.start<1000
  spins:0≤s.spins∧s.spins≤4
  writes:4≤s.writes∧s.writes≤40
  fuel:20≤s.fuel∧s.fuel≤120
theorem El.held {s:je} (K:El s):jT s={ s with ad:=1 }:=by obtain⟨a,b,c,d,e,f,g,i⟩:=K;simp[jT,min,gJ];omega
theorem qw6 {n:Nat} (hn:2≤n) {w st wi sp wr fu t:Int} (ht:0≤t∧t<18446744073709551616) (H:HS g h R) :
  ba n 6 [.agg [.int .i64 w,.int .i64 st,.int .i64 wi,.int .i64 sp,.int .i64 wr,.int .i64 fu,.int .u64 t]] h λr h'=>∃s,r=.agg (yO s)∧El s∧HS g h' R:=by
 refine bw (S:=S6) rfl omQ λk hk=>?_;unfold S6;try simp only[iZ]
 refine qh H rfl λb0 h1 H1=>?_;refine qh H1 rfl λb1 h2 H2=>?_;have e1:=Qy (x:=sp) (lo:=((0:Nat):Int)) (hi:=((4:Nat):Int)) omQ;have e2:=Qy (x:=wr) (lo:=((4:Nat):Int)) (hi:=((40:Nat):Int)) omQ;have e3:=Qy (x:=fu) (lo:=((20:Nat):Int)) (hi:=((120:Nat):Int)) omQ;have e4:=Qy (x:=w) (lo:=((32:Nat):Int)) (hi:=((80:Nat):Int)) omQ;have e5:=Qy (x:=st) (lo:=((1:Nat):Int)) (hi:=((16:Nat):Int)) omQ;have e6:=Qy (x:=wi) (lo:=((1:Nat):Int)) (hi:=((4:Nat):Int)) omQ;refine qG ?_
 try dsimp only
 refine qQ (qZ H2 (b:=b0) e_1 rfl ?_);refine qY (xp omQ omQ omQ omQ) ?_;rintro _ _ ⟨rfl,rfl⟩;refine qQ (qZ H2 (b:=b0) e_1 rfl ?_);refine qY (xp omQ omQ omQ omQ) ?_;rintro _ _ ⟨rfl,rfl⟩;refine qQ (qZ H2 (b:=b0) e_1 rfl ?_);refine qY (xp omQ omQ omQ omQ) ?_;rintro _ _ ⟨rfl,rfl⟩;generalize zx sp ((0:Nat):Int) ((4:Nat):Int)=fL at*;generalize zx wr ((4:Nat):Int) ((40:Nat):Int)=L5 at*;generalize zx fu ((20:Nat):Int) ((120:Nat):Int)=L6 at*;refine qA (l:=[.int .i64 0,.int .i64 0,.int .i64 0,.int .i64 0,.int .u64 0,.int .i64 fL,.int .i64 L5,.int .i64 L6]) rfl ?_;refine qh H2 rfl λb2 h3 H3=>?_;refine zq H3 (b:=b2) .here rfl (by simp) rfl λh4 H4=>?_
 have H4:HS g h4 (qv b2 [.int .i64 0,.int .i64 0,.int .i64 0,.int .i64 0,.int .u64 0,.int .i64 fL,.int .i64 L5,.int .i64 L6]::qv b1 [.int .i64 0,.int .i64 0,.int .i64 0,.int .i64 0,.int .u64 0,.int .i64 0,.int .i64 0,.int .i64 0]::
  qv b0 [.int .i64 w,.int .i64 st,.int .i64 wi,.int .i64 sp,.int .i64 wr,.int .i64 fu,.int .u64 t]::R):=H4
 refine jU H2 e_1 rfl H2 e_1 rfl (HS.lt H2 e_1) ?_;refine jU H2 e_1 rfl H2 e_1 rfl (HS.lt H2 e_1) ?_;refine jU H2 e_1 rfl H2 e_1 rfl (HS.lt H2 e_1) ?_;refine qG ?_
 try dsimp only
 refine qQ (qZ H4 (b:=b0) e_2 rfl ?_);refine qY (xp omQ omQ omQ omQ) ?_;rintro _ _ ⟨rfl,rfl⟩;refine qQ (qZ H4 (b:=b0) e_2 rfl ?_);refine qY (xp omQ omQ omQ omQ) ?_;rintro _ _ ⟨rfl,rfl⟩;refine qQ (qZ H4 (b:=b0) e_2 rfl ?_);refine qY (xp omQ omQ omQ omQ) ?_;rintro _ _ ⟨rfl,rfl⟩;refine qQ (qZ H4 (b:=b0) e_2 rfl ?_);refine Xb od ?_;generalize zx w ((32:Nat):Int) ((80:Nat):Int)=w' at*;generalize zx st ((1:Nat):Int) ((16:Nat):Int)=st' at*;generalize zx wi ((1:Nat):Int) ((4:Nat):Int)=Sa at*;have ht2:0≤t.tmod ((1000:Nat):Int)∧t.tmod ((1000:Nat):Int)<1000:=by grind
 generalize t.tmod ((1000:Nat):Int)=t' at*;refine qA (l:=[.int .i64 w',.int .i64 st',.int .i64 Sa,.int .i64 0,.int .u64 t']) rfl ?_;refine qQ (zq H4 (b:=b2) .here rfl (by simp) rfl λh5 H5=>?_)
 have H5:HS g h5 (qv b2 (yO ⟨w',st',Sa,0,t',fL,L5,L6⟩)::qv b1 [.int .i64 0,.int .i64 0,.int .i64 0,.int .i64 0,.int .u64 0,.int .i64 0,.int .i64 0,.int .i64 0]::
  qv b0 [.int .i64 w,.int .i64 st,.int .i64 wi,.int .i64 sp,.int .i64 wr,.int .i64 fu,.int .u64 t]::R):=H5
 refine jU H4 e_2 rfl H4 e_2 rfl (HS.lt H4 e_2) ?_;refine jU H4 e_2 rfl H4 e_2 rfl (HS.lt H4 e_2) ?_;refine jU H4 e_2 rfl H4 e_2 rfl (HS.lt H4 e_2) ?_;refine jU H4 e_2 rfl H4 e_2 rfl (HS.lt H4 e_2) ?_;refine jU H4 e_2 rfl H4 e_2 rfl (HS.lt H4 e_2) ?_;refine jU H4 e_2 rfl H4 e_2 rfl (HS.lt H4 e_2) ?_;refine qo H5 (b:=b2) (off:=0) .here rfl omQ (l:=yO ⟨w',st',Sa,0,t',fL,L5,L6⟩) rfl ?_;refine zq H5 (b:=b1) e_1 rfl (by simp) rfl λh6 H6=>?_;refine qo H6 (b:=b1) (off:=0) .here rfl omQ (l:=yO ⟨w',st',Sa,0,t',fL,L5,L6⟩) rfl ?_;exact qq ⟨_,rfl,⟨by omega,by omega,by omega,rfl,ht2,by omega,by omega,by omega⟩,H6.drop.drop.drop⟩
end
section
theorem jQL {h:AH} {d:Nat} {v:AV} (H:WT Tryz.prog h (d+3) 79 [v]):∃ks:List qO,Sl (λb=>b<h.nx) h 5 ks.length v (ks.flatMap ju)∧∀x∈ks,0≤x.2.2.2.2∧x.2.2.2.2<18446744073709551616:=by
 obtain⟨q,xs,S,_,H2⟩:=KM (sz:=5) Tryz.underlying79 (by rfl) omQ H
 obtain⟨ks,g1,g3,rfl⟩:=qZm (α:=qO) (Pr:=λx=>0≤x.2.2.2.2∧x.2.2.2.2<18446744073709551616) ju S.len (λi hi=>by
  have:=H2 i hi;generalize(xs.drop (i*5)).take 5=row at this;unfold WT at this;simp only[Tryz.underlying99]at this;obtain⟨g1,g2⟩:=this;rw[show Tryz.prog.cellsOf 99=5 by rfl]at g1
  match row,g1 with
  |[x,y,z,u,t],_=>
   have f1:=g2 _ (iK ..);have f2:=g2 _ (iX _ (iK ..));have f3:=g2 _ (iX _ (iX _ (iK ..)));have f4:=g2 _ (iX _ (iX _ (iX _ (iK ..))));have f5:=g2 _ (iX _ (iX _ (iX _ (iX _ (iK ..)))));rw[show Tryz.prog.cellsOf 3=1 by rfl]at f1 f2 f3 f4;rw[show Tryz.prog.cellsOf 22=1 by rfl]at f5;unfold WT at f1 f2 f3 f4 f5;simp only[Tryz.underlying3,List.drop_zero,List.take_succ_cons,List.take_zero,List.drop_succ_cons]at f1 f2 f3 f4;simp only[Tryz.underlying22,List.drop_succ_cons,List.drop_zero,List.take_succ_cons,List.take_zero]at f5;obtain⟨a,ha,_⟩:=f1;obtain⟨b,hb,_⟩:=f2;obtain⟨c,hc,_⟩:=f3;obtain⟨d,hd,_⟩:=f4;obtain⟨e,he,c5⟩:=f5;cases ha;cases hb;cases hc;cases hd;cases he
   exact⟨(a,b,c,d,e),⟨c5.1,Int.lt_of_le_of_lt c5.2 od⟩,rfl⟩)
 grind
end
section
def JV (k:Nat) (x:qO):qO:=if x.1=12∨x.1=13 then(x.1,x.2.1,x.2.2.1,x.2.2.2.1+k,x.2.2.2.2)else x
theorem XG {k:Nat} {x:qO}:(JV k x).1=x.1:=by grind[JV]
theorem qGE (x:qO):JV 0 x=x:=by simp[JV]
structure Co (l L:List qO) (k:Nat) (hJ:List Int):Prop where
  le:k+l.length≤L.length
  ins:∀i:Nat,i<l.length→qM L ((k+i:Nat):Int)=JV k (qM l i)
  st:qw L k=hJ
theorem qX6 {hJ s:List Int} {k i:Nat} {op:Int} (h:0<zr op→s≠[]):jN (hJ++s.map (· +(k:Int))) ((k+i:Nat):Int) op=hJ++(jN s i op).map (· +(k:Int)):=by
 have hd:0<zr op→(hJ++s.map (· +(k:Int))).dropLast=hJ++s.dropLast.map (· +(k:Int)):=by simp_all
 have e:[((k+i:Nat):Int)]=[(i:Int)].map (· +(k:Int)):=by grind
 unfold jN;by_cases c1:xc op=true∨op=18
 ·rw[iJ c1,iJ c1];split<;>simp_all
 ·rw[iQ c1,iQ c1];split<;>simp_all
section
variable {l L:List qO} {k:Nat} {hJ:List Int}
theorem Co.stack (E:Co l L k hJ) (hw:∀j,j<l.length→xr l (qw l j) (qM l j)=0):∀i,i≤l.length→qw L (k+i)=hJ++(qw l i).map (· +(k:Int)):=by
 intro i
 induction i with
 |zero=>intro _;rw[Nat.add_zero,E.st];simp[qw]
 |succ i ih=>intro hi;rw[← Nat.add_assoc,ji,ih omQ,E.ins i omQ,XG,qX6 λh=>(x8 (hw i omQ)).2.1 (.inl h),ji]
theorem qK5 {s:List Int} (h:s≠[]):jD (hJ++s.map (· +(k:Int)))=jD s+k:=by grind[jD,List.getLast?_append,List.getLast?_map,List.getLast?_eq_some_getLast]
theorem qxI (F:Fit l) {p e:Nat} (hp:p<l.length) (ho:(qM l p).1=14∨(qM l p).1=17∨(qM l p).1=18) (he:e<l.length) (h1:0<zr (qM l e).1) (h2:jD (qw l e)=p):qB (qT l) (p:Int)=e:=by
 obtain⟨e0,_,_,_,_,_,hu⟩:=VB F hp ho;obtain⟨e1,g1,g2,g3,g4,g5⟩:=wN F hp ho;have dY:jD (qw l (p+1))=p:=by rw[ji];unfold jN;rw[iJ (by grind[xc])];simp[jD]
 grind
theorem jQo (F:Fit l) {u e:Nat} (hu:u<l.length) (ho:(qM l u).1=16) (he:e<l.length) (h1:0<zr (qM l e).1) (h2:jD (qw l e)=jD (qw l u)):qB (qT l) (u:Int)=e:=by obtain⟨e1,g1,g2,g3,g4,g5⟩:=Jz F hu ho;obtain⟨q,q1,q2,_,q3⟩:=vM g5;have hq:=(yy (F.ok u hu)).2.2.1 ho;rw[NH g5 q1]at hq;obtain⟨e0,_,_,_,_,_,hU⟩:=VB F (p:=q) omQ (.inl hq);have a:=hU e he h1 (h2.trans q1);have b:=hU e1 g2 (by rw[g3];decide) (by grind);grind
theorem Co.mt (E:Co l L k hJ) (F:Fit l) (FL:Fit L) {i:Nat} (hi:i<l.length) (ho:(qM l i).1=14∨(qM l i).1=17∨(qM l i).1=18∨(qM l i).1=16):qB (qT L) ((k+i:Nat):Int)=qB (qT l) (i:Int)+k:=by
 have hle:=E.le;by_cases h:(qM l i).1=16
 ·obtain⟨e1,g1,g2,g3,g4,g5⟩:=Jz F hi h;rw[g1,jQo FL (u:=k+i) (e:=k+e1) omQ (by rw[E.ins i hi,XG];grind) omQ (by rw[E.ins e1 g2,XG,g3];decide) (by rw[E.stack F.ok _ omQ,E.stack F.ok _ omQ,g4])];omega
 ·obtain⟨e1,g1,g2,g3,g4,g5⟩:=wN F hi omQ;have dY:jD (qw l (i+1))=i:=by
   rw[ji];unfold jN;rw[iJ (by grind[xc])];simp[jD]
  have bW:qw l e1≠[]:=by grind[G5]
  rw[g1,qxI FL (p:=k+i) (e:=k+e1) omQ (by rw[E.ins i hi,XG];omega) omQ (by rw[E.ins e1 g3,XG,g4];omega) (by rw[E.stack F.ok _ omQ,qK5 bW,g5,dY];omega)];omega
end
def Gr (k:Nat) (p:cZ):cZ:={ p with pc:=p.pc+k }
structure Cp (k:Nat) (o0:List cZ) (s S:IM):Prop where
  ao:S.ao=s.ao
  out:S.out=s.out
  pc:S.pc=s.pc+k
  aO:S.aO=s.aO.map (Gr k)++o0
structure Em (k:Nat) (o0:List cZ) (d D:SM):Prop where
  e:D.e=d.e
  bR:D.bR=d.bR
  v:D.v=d.v
  nx:D.nx=d.nx+k
  ao:D.s.ao=d.s.ao
  out:D.s.out=d.s.out
  aO:D.s.aO=d.s.aO.map (Gr k)++o0
section
variable {l L:List qO} {k:Nat} {hJ:List Int} {o0:List cZ} {s S:IM} {V:VM}
theorem qqe {x:qO} (h:Cp k o0 s S):(zB S V x).1=(zB s V x).1∧(zB S V x).2.2=(zB s V x).2.2∧(zB S V x).2.1.ao=(zB s V x).2.1.ao∧(zB S V x).2.1.out=(zB s V x).2.1.out∧(zB S V x).2.1.aO=(zB s V x).2.1.aO.map (Gr k)++o0:=by
 unfold zB cN;rw[h.ao];by_cases c1:x.1=8
 ·rw[iJ c1,iJ c1]
  split
  ·split
   ·exact⟨rfl,rfl,rfl,h.out,h.aO⟩
   ·exact⟨rfl,rfl,h.ao,h.out,h.aO⟩
  ·exact⟨rfl,rfl,h.ao,h.out,h.aO⟩
 rw[iQ c1,iQ c1];by_cases c2:x.1=9
 ·rw[iJ c2,iJ c2]
  split
  ·exact⟨rfl,rfl,h.ao,h.out,h.aO⟩
  ·exact⟨rfl,rfl,h.ao,h.out,h.aO⟩
 rw[iQ c2,iQ c2];by_cases c3:x.1=10
 ·rw[iJ c3,iJ c3]
  split
  ·exact⟨rfl,rfl,h.ao,h.out,h.aO⟩
  ·split
   ·exact⟨rfl,rfl,rfl,h.out,h.aO⟩
   ·exact⟨rfl,rfl,h.ao,h.out,h.aO⟩
 rw[iQ c3,iQ c3]
 split
 ·exact⟨rfl,rfl,h.ao,h.out,h.aO⟩
 ·exact⟨rfl,rfl,h.ao,h.out,h.aO⟩
theorem qYe {op:Int} (h:Cp k o0 s S):Em k o0 (xE op s.pc (s.pc+1) s V) (xE op S.pc (S.pc+1) S V):=by
 unfold xE;have hp:=h.pc
 split
 ·refine⟨rfl,rfl,rfl,by grind,h.ao,h.out,?_⟩;show _::S.aO=_::(s.aO.map (Gr k))++o0;rw[h.aO,List.cons_append];unfold Gr;rw[h.ao,h.out,hp]
 ·exact⟨rfl,rfl,rfl,by grind,h.ao,h.out,h.aO⟩
theorem jJr {mt MT:List Int} {x:qO} (h:Cp k o0 s S) (hx:1≤x.1∧x.1≤22) (nI:x.1≠20) (hm:x.1=16∨x.1=18→qB MT S.pc=qB mt s.pc+k) (ho:x.1=15∨x.1=16∨x.1=18∨x.1=19→s.aO≠[]) :
  Em k o0 (bG mt s V x) (bG MT S V (JV k x)):=by
 have hp:=h.pc;have hr:=h.ao;have nC:S.pc+1=s.pc+1+k:=by omega
 by_cases cj:x.1=12∨x.1=13
 ·have ex:JV k x=(x.1,x.2.1,x.2.2.1,x.2.2.2.1+k,x.2.2.2.2):=iJ cj;rw[ex];unfold bG;rcases cj with cj |cj
  ·simp only[cj];exact⟨rfl,rfl,rfl,rfl,h.ao,h.out,h.aO⟩
  ·simp only[cj];refine⟨rfl,rfl,rfl,?_,h.ao,h.out,h.aO⟩;grind
 have ex:JV k x=x:=iQ cj;rw[ex];unfold bG;by_cases c1:x.1=1
 ·rw[iJ c1,iJ c1];unfold cN;rw[hr];exact⟨rfl,rfl,rfl,nC,rfl,h.out,h.aO⟩
 rw[iQ c1,iQ c1];by_cases c2:x.1=2
 ·rw[iJ c2,iJ c2];unfold cN;rw[hr];exact⟨rfl,rfl,rfl,nC,rfl,h.out,h.aO⟩
 rw[iQ c2,iQ c2];by_cases c3:x.1=3
 ·rw[iJ c3,iJ c3];unfold cN;rw[hr];exact⟨rfl,rfl,rfl,nC,rfl,h.out,h.aO⟩
 rw[iQ c3,iQ c3];by_cases c4:x.1=4
 ·rw[iJ c4,iJ c4];unfold cN;rw[hr];exact⟨rfl,rfl,rfl,nC,rfl,h.out,h.aO⟩
 rw[iQ c4,iQ c4];by_cases c5:x.1=5
 ·rw[iJ c5,iJ c5];unfold cN;rw[hr];exact⟨rfl,rfl,rfl,nC,rfl,h.out,h.aO⟩
 rw[iQ c5,iQ c5];by_cases c6:x.1=6
 ·rw[iJ c6,iJ c6];unfold cN;rw[hr];exact⟨rfl,rfl,rfl,nC,rfl,h.out,h.aO⟩
 rw[iQ c6,iQ c6];by_cases c7:x.1=7
 ·rw[iJ c7,iJ c7];unfold cN;rw[hr];exact⟨rfl,rfl,rfl,nC,rfl,h.out,h.aO⟩
 rw[iQ c7,iQ c7];rw[iQ (λh=>cj (.inl h)),iQ (λh=>cj (.inl h)),iQ (λh=>cj (.inr h)),iQ (λh=>cj (.inr h))];by_cases nF:x.1=21
 ·rw[iJ nF,iJ nF,h.out,hr]
  split
  ·exact⟨rfl,rfl,rfl,nC,h.ao,h.out,h.aO⟩
  ·exact⟨rfl,rfl,rfl,nC,rfl,rfl,h.aO⟩
 rw[iQ nF,iQ nF];by_cases oS:x.1=22
 ·rw[iJ oS,iJ oS];exact⟨rfl,rfl,rfl,nC,h.ao,h.out,h.aO⟩
 rw[iQ oS,iQ oS];by_cases c8:x.1=8∨x.1=9∨x.1=10∨x.1=11
 ·rw[iJ c8,iJ c8];obtain⟨a,b,c,d,e⟩:=qqe (V:=V) (x:=x) h;exact⟨a,rfl,b,nC,c,d,e⟩
 rw[iQ c8,iQ c8];unfold gY;by_cases t1:x.1=14∨x.1=17
 ·rw[iJ t1,iJ t1];exact qYe h
 rw[iQ t1,iQ t1];have tl:x.1=15∨x.1=16∨x.1=18∨x.1=19→S.aO.tail=s.aO.tail.map (Gr k)++o0:=by
  intro hh;have:=ho hh;rw[h.aO];simp_all
 by_cases t2:x.1=15∨x.1=19
 ·rw[iJ t2,iJ t2];exact⟨rfl,rfl,rfl,nC,h.ao,h.out,tl omQ⟩
 rw[iQ t2,iQ t2];by_cases t3:x.1=18
 ·rw[iJ t3,iJ t3];have:=hm (.inr t3);exact⟨rfl,rfl,rfl,by grind,h.ao,h.out,tl omQ⟩
 rw[iQ t3,iQ t3];by_cases t4:x.1=16
 ·rw[iJ t4,iJ t4];have:=hm (.inl t4);have hh:MP S.aO=Gr k (MP s.aO):=by
   have:=ho (.inr (.inl t4));rw[h.aO];cases hs:s.aO with
   |nil=>grind
   |cons p o=>rfl
  refine⟨rfl,rfl,rfl,by grind,?_,?_,tl omQ⟩
  ·show(MP S.aO).ao=(MP s.aO).ao;rw[hh];rfl
  ·show S.out.take (MP S.aO).told=s.out.take (MP s.aO).told;rw[hh,h.out];rfl
 omega
end
end
section
theorem L7 {l:List qO} (F:Fit l) {s:IM} {V:VM} {i:Nat} (hi:s.pc=i) (ap:i<l.length) (nI:(qM l i).1≠20) (rA:(qM l i).1≠23):∃j:Nat,(bG (qT l) s V (qM l i)).nx=j∧j≤l.length:=by
 have hm:=Ru (yy (F.ok i ap)).1 rA;have hj:=F.jump i ap;have h1:∃j:Nat,s.pc+1=j∧j≤l.length:=⟨i+1,by omega,by omega⟩;have pJ:(qM l i).1=16∨(qM l i).1=18→∃j:Nat,qB (qT l) s.pc+1=j∧j≤l.length:=by
  intro h;rw[hi];rcases h with h |h
  ·obtain⟨e,e1,e2,_⟩:=Jz F ap h;exact⟨e+1,by omega,by omega⟩
  ·obtain⟨e,e1,_,e2,_⟩:=wN F ap (.inr (.inr h));exact⟨e+1,by omega,by omega⟩
 have hc:(qM l i).1=12∨(qM l i).1=13→∃j:Nat,(qM l i).2.2.2.1=j∧j≤l.length:=by
  intro h;refine⟨(qM l i).2.2.2.1.toNat,by omega,?_⟩;by_cases hc:(l.length:Int)<(qM l i).2.2.2.1
  ·exact absurd ⟨h,.inl hc⟩ hj
  grind
 generalize qM l i=x at*;unfold bG;by_cases c1:x.1=1
 ·grind
 rw[iQ c1];by_cases c2:x.1=2
 ·grind
 rw[iQ c2];by_cases c3:x.1=3
 ·grind
 rw[iQ c3];by_cases c4:x.1=4
 ·grind
 rw[iQ c4];by_cases c5:x.1=5
 ·grind
 rw[iQ c5];by_cases c6:x.1=6
 ·grind
 rw[iQ c6];by_cases c7:x.1=7
 ·grind
 rw[iQ c7];by_cases pG:x.1=12
 ·grind
 rw[iQ pG];by_cases rE:x.1=13
 ·grind
 rw[iQ rE];by_cases nF:x.1=21
 ·grind
 rw[iQ nF];by_cases oS:x.1=22
 ·grind
 rw[iQ oS];by_cases c8:x.1=8∨x.1=9∨x.1=10∨x.1=11
 ·grind
 rw[iQ c8];unfold gY;by_cases t1:x.1=14∨x.1=17
 ·rw[iJ t1];grind[xE]
 grind
section
variable {l L:List qO} {k:Nat} {hJ:List Int} {o0:List cZ}
theorem qyI (E:Co l L k hJ) (F:Fit l) {s S:IM} {V:VM} (h:Cp k o0 s S) (G:GI L S V) {i:Nat} (hi:s.pc=i) (oQ:i≤l.length) (h0:o0.length=hJ.length):s.aO.length=(qw l i).length:=by have e:=congrArg List.length G.DB;rw[h.pc,hi,show((i:Int)+(k:Int)).toNat=k+i by omega,E.stack F.ok i oQ,h.aO]at e;grind
theorem qvM (E:Co l L k hJ) (F:Fit l) (FL:Fit L) (QL:bO L) (Cl:Calm l) (h0:o0.length=hJ.length) {s S:IM} {V:VM} (h:Cp k o0 s S) (G:GI L S V) {i:Nat} (hi:s.pc=i) (ap:i<l.length) :
  Em k o0 (bG (qT l) s V (qM l i)) (bG (qT L) S V (qM L ((k+i:Nat):Int)))∧(bG (qT l) s V (qM l i)).bR=false∧∃j:Nat,(bG (qT l) s V (qM l i)).nx=j∧j≤l.length:=by
 have hle:=E.le;have hq:(qM l i).1≠23:=by
  have:=(QL.at (i:=k+i) omQ).1
  rwa [E.ins i ap,XG]at this
 have nI:(qM l i).1≠20:=by rw[yw ap];exact Cl _ (List.getElem_mem ap)
 have hw:=F.ok i ap;have hb:=Ru (yy hw).1 hq;have hlen:=qyI E F h G hi omQ h0;have Rz:S.pc=((k+i:Nat):Int):=by have:=h.pc;omega
 rw[E.ins i ap];refine⟨jJr h omQ nI (λho=>?_) (λho hn=>?_),qXP omQ nI hq,L7 F hi ap nI hq⟩
 ·rw[Rz,hi,E.mt F FL ap omQ]
 ·rw[hn]at hlen
  have:qw l i≠[]:=(x8 hw).2.1 (by
   rcases ho with ho |ho |ho |ho
   ·exact .inl (by rw[ho];decide)
   ·grind
   ·exact .inl (by rw[ho];decide)
   ·exact .inl (by rw[ho];decide))
  grind
theorem jQT (E:Co l L k hJ) (F:Fit l) (FL:Fit L) (QL:bO L) (Cl:Calm l) (h0:o0.length=hJ.length):∀(n:Nat) {s S:IM} {V:VM},Cp k o0 s S→GI L S V→(∃i:Nat,s.pc=i∧i≤l.length)→bE V.lv+n<9000→
  ((zh l (qT l) n s V).kind=2→∃S',zh L (qT L) n S V=zh L (qT L) (zh l (qT l) n s V).left S' (zh l (qT l) n s V).v∧Cp k o0 (zh l (qT l) n s V).s S'∧GI L S' (zh l (qT l) n s V).v∧
   bE (zh l (qT l) n s V).v.lv+(zh l (qT l) n s V).left<9000∧(zh l (qT l) n s V).s.pc=l.length∧(zh l (qT l) n s V).left≤n)∧
  ((zh l (qT l) n s V).kind≠2→(zh L (qT L) n S V).kind=(zh l (qT l) n s V).kind∧(zh L (qT L) n S V).err=(zh l (qT l) n s V).err):=by
 have hle:=E.le;intro n
 induction n with
 |zero=>
  rintro s S V h G ⟨i,hi,oQ⟩ hf;have hp:=h.pc;rw[QD];by_cases c:s.pc=l.length
  ·grind
  ·rw[iQ c,QD,iQ omQ];simp
 |succ n ih=>
  rintro s S V h G ⟨i,hi,oQ⟩ hf;have hp:=h.pc;rw[QR];by_cases c:s.pc=l.length
  ·grind
  ·have ap:i<l.length:=by omega
   have hSp:S.pc=((k+i:Nat):Int):=by omega
   obtain⟨D,hb,j,hj,mi⟩:=qvM E F FL QL Cl h0 h G hi ap;have St:=Uz FL G hSp omQ omQ (QL.at (i:=k+i) omQ).2 (QL.at (i:=k+i) omQ).1;have e1:=QR (l:=L) (mt:=qT L) (n:=n) (s:=S) (V:=V);rw[iQ (show¬S.pc=L.length by omega),hSp]at e1;rw[iQ c,e1,hi];clear e1;generalize bG (qT l) s V (qM l i)=d at*;generalize bG (qT L) S V (qM L ((k+i:Nat):Int))=D' at*;have hB:D'.bR=false:=D.bR.trans hb;by_cases c0:d.e=0
   ·rw[iJ c0,iQ (by grind),iJ (D.e.trans c0),iQ (by grind)];have BX:=St.fr;have G2:=St.next (D.e.trans c0) hB;have S2:Cp k o0 { d.s with pc:=d.nx } { D'.s with pc:=D'.nx }:=⟨D.ao,D.out,D.nx,D.aO⟩;rw[D.v]at BX G2 ⊢;obtain⟨a,b⟩:=ih S2 G2 ⟨j,hj,mi⟩ omQ;grind
   ·have c0':¬D'.e=0:=by rw[D.e];grind
    rw[iQ c0,iQ c0'];by_cases Be:d.e=11
    ·rw[iJ Be,iJ (D.e.trans Be)];simp
    ·have c11':¬D'.e=11:=by rw[D.e];grind
     rw[iQ Be,iQ c11'];exact⟨λhk=>(by grind),λ_=>⟨rfl,D.e⟩⟩
end
end
section
variable {g h:AH} {L R:List SP}
def OW (p l:List qO):List qO:=p++l.map (JV p.length)
def L8 (ls:List (List qO)):List qO:=ls.foldl OW []
end
section
theorem dk.mJ {l:List qO} {st:List Int} (B:dk true l st):dk false l st :=
 ⟨λx hx=>⟨(B.ok x hx).may,(B.ok x hx).no,(B.ok x hx).n,λh=>(by grind)⟩,B.wr,B.top,λj hj ho=>(by
  obtain⟨c,c1,c2,c3,_⟩:=B.jp j hj ho
  grind),B.pL⟩
theorem qVt (p:List qO):p.map (JV 0)=p:=by
 induction p with
 |nil=>rfl
 |cons x p ih=>rw[List.map_cons,qGE,ih]
theorem join_one {p:List qO} {op:Int} (h:op=20∨op=22):L8 [p,[one op]]=p++[one op]:=by
 have e:JV p.length (one op)=one op:=iQ (by grind);show OW (OW [] p) [one op]=_;grind[OW,List.length_nil,qVt,List.map_singleton]
theorem qy5 (p t:List qO):Co p (p++t) 0 []:=⟨by simp,λi hi=>by rw[qGE,Nat.zero_add,Y5 hi],rfl⟩
section
variable {p:List qO} {op:Int}
theorem qkS (B:dk true p []) (h:op=20∨op=22):dk false (p++[one op]) [] :=
 B.mJ.flat ⟨by rcases h with rfl |rfl<;>decide,by grind,by simp,λh=>(by grind)⟩ (by rcases h with rfl |rfl<;>(trivial)) (by grind)
theorem UE {calm:Bool} {l:List qO} (B:dk calm l []):bO l:=λx hx=>⟨(B.ok x hx).no,(B.ok x hx).n⟩
theorem qzu {l:List qO} (B:dk true l []):Calm l:=λx hx=>((B.ok x hx).cal rfl).1
theorem fails (B:dk true p []) (h0:0<p.length) (Ds:p.length≤39) (h:op=20∨op=22) {zs:List Int} (hz:EY zs) :
  (K4 (p++[one op]) 400 zs 96).kind≠2∧
  ((K4 p 400 zs 96).kind≠2→(K4 p 400 zs 96).kind=4∧(K4 (p++[one op]) 400 zs 96).kind=4∧(K4 (p++[one op]) 400 zs 96).err=(K4 p 400 zs 96).err)∧
  ((K4 p 400 zs 96).kind=2→op=20∧(K4 (p++[one op]) 400 zs 96).kind=3∧(K4 (p++[one op]) 400 zs 96).err=0∨op=22∧(K4 (p++[one op]) 400 zs 96).kind=4∧(K4 (p++[one op]) 400 zs 96).err=13∨
   (K4 (p++[one op]) 400 zs 96).kind=4∧(K4 (p++[one op]) 400 zs 96).err=6):=by
 have BL:=qkS B h;have F:Fit p:=Z6 (by rw[B.fit h0 omQ]);have FL:Fit (p++[one op]):=Z6 (by rw[BL.fit aM (by grind)]);have Q:=UE B;have QL:=UE BL;have C:=qzu B;have G:=qGl (l:=p) (m:=96) hz;have GL:=qGl (l:=p++[one op]) (m:=96) hz;have f0:=qjd zs 96;have n3:=qgN F Q C 400 G omQ;have n1:=@qYt _ F Q zs 96 400 _ _ G rfl rfl omQ;have rk:=(Wv F Q 400 G omQ).2.2.2.2;obtain⟨a,b⟩:=jQT (qy5 p [one op]) F FL QL C (o0:=[]) rfl 400 (s:=KO) (S:=KO) (V:=QP zs 96) ⟨rfl,rfl,rfl,rfl⟩ GL ⟨0,rfl,Nat.zero_le _⟩ omQ;unfold K4;generalize zh p (qT p) 400 KO (QP zs 96)=A at*;by_cases k2:A.kind=2
 ·obtain⟨S',x1,x2,x3,x4,x5,x6⟩:=a k2;have hp:S'.pc=((p.length:Nat):Int):=by have:=x2.pc;omega
  have bW:¬S'.pc=(p++[one op]).length:=by grind
  have Ad:qM (p++[one op]) S'.pc=one op:=by have e:=XS (l:=p) (t:=[one op]) (k:=0) (x:=one op) rfl;grind
  have ho:S'.aO=[]:=by have e:=x3.DB;rw[hp,Int.toNat_natCast,kO _ (Nat.le_refl _),F.nil]at e;simp_all
  have key:op=20∧(zh (p++[one op]) (qT (p++[one op])) A.left S' A.v).kind=3∧(zh (p++[one op]) (qT (p++[one op])) A.left S' A.v).err=0∨op=22∧(zh (p++[one op]) (qT (p++[one op])) A.left S' A.v).kind=4∧(zh (p++[one op]) (qT (p++[one op])) A.left S' A.v).err=13∨
    (zh (p++[one op]) (qT (p++[one op])) A.left S' A.v).kind=4∧(zh (p++[one op]) (qT (p++[one op])) A.left S' A.v).err=6:=by
   cases A.left with
   |zero=>rw[QD,iQ bW];simp
   |succ m=>
    rw[QR,iQ bW,Ad];rcases h with rfl |rfl
    ·have e:bG (qT (p++[one 20])) S' A.v (one 20)=⟨0,S'.pc,true,{ S' with aO:=[] },A.v⟩:=by
      show yl _ S'.aO S' A.v=_;rw[ho];rfl
     grind
    ·exact .inr (.inl ⟨rfl,rfl,rfl⟩)
  grind
 grind
end
end
section
variable {g h:AH} {L R:List SP}
structure En (h:AH) (x:AV) (Bi:List (List qO)) (vs:List AV):Prop where
  len:vs.length=Bi.length
  s:Sl (λb=>b<h.nx) h 1 vs.length x vs
  i:∀(i:Nat) (y:AV) (ks:List qO),vs[i]? =some y→Bi[i]? =some ks→Sl (λb=>b<h.nx) h 5 ks.length y (ks.flatMap ju)
  n:∀ks∈Bi,∀x∈ks,0≤x.2.2.2.2∧x.2.2.2.2<18446744073709551616
structure Eo (h:AH) (x:AV) (T:List (List (List qO)×List AV)) (vs:List AV):Prop where
  len:vs.length=T.length
  s:Sl (λb=>b<h.nx) h 1 vs.length x vs
  i:∀(i:Nat) (y:AV) (p:List (List qO)×List AV),vs[i]? =some y→T[i]? =some p→En h y p.1 p.2
structure L9 (calm:Bool) (most:Int) (l:List qO):Prop where
  b:dk calm l []
  pos:0<l.length
  le:(l.length:Int)≤most
theorem L9.Ez {calm:Bool} {most:Int} {l:List qO} (J:L9 calm most l) (h:most≤40):(yn l).2=0∧bO l:=by have h1:=J.le;exact⟨by rw[J.b.fit J.pos omQ],UE J.b⟩
theorem qJp {n:Nat} {calm:Bool} {most:Int} {a0:AV} {T:List (List (List qO)×List AV)} {vs:List AV} (hn:6≤n) (hm:1≤most∧most≤40) (A:Eo g a0 T vs) (H:HS g h R) :
  ba n 7 [a0,.int .i64 most,.bool calm] h λr h'=>∃jss:List (List (List qO)),jss.length≤3∧(vs=[]→jss=[])∧(∀js∈jss,js.length≤2∧∀l∈js,L9 calm most l)∧HS g h' (rH jss r::R):=by
 refine dV (S:=S7) rfl omQ λk hk=>?_;unfold S7;try simp only[iZ]
 have q0:HS g h (rH [] .aj::R):=rH.I (jss:=[]) (v:=.aj) (vs:=[]) rfl ((HS.allI (A:=[]) H).aj)
 refine jB (λc q h'=>∃(jss:List (List (List qO))) (lv:AV),q=(.int .i64 (jss.length:Int),lv,.bool calm,.int .i64 most,a0,())∧jss.length≤vs.length∧jss.length≤3∧c=3-jss.length∧(∀js∈jss,js.length≤2∧∀l∈js,L9 calm most l)∧
   HS g h' (rH jss lv::R))
  ?_ (m:=3) od ⟨[],.aj,rfl,Nat.zero_le _,Nat.zero_le _,rfl,λ_ h=>(by grind),q0⟩
 clear H q0;rintro c ih q h6 bj ⟨jss,lv,rfl,mi,RC,rfl,Pa,H⟩;dsimp only;have S0:=A.s;refine yH (S0.bU H.bU) ?_;refine QB (wW (λz g'=>g'=h6∧∃u:AV,z=(u,.bool (decide ((jss.length:Int)<(vs.length:Int))),.int .i64 (jss.length:Int),lv,.bool calm,.int .i64 most,a0,())∧(jss.length<vs.length→u=.bool (decide (jss.length<3)))) (λj hj=>?_) ?_)
 ·refine Xd (λc1=>?_) (λc1=>?_)
  ·refine QB (hj _ _ ⟨rfl,_,rfl,λ_=>?_⟩)
   simp;omega
  ·exact hj _ _ ⟨rfl,_,rfl,λh=>absurd h omQ⟩
 rintro _ _ ⟨rfl,u,rfl,hu⟩;dsimp only;have hp:∀{K:AV→Go.Ae.R} {Q:AV→AH→Prop},(∀b:Bool,(b=true↔(jss.length<vs.length∧jss.length<3))→wp (K (.bool b)) Q)→wp (w4 (.bool (decide ((jss.length:Int)<(vs.length:Int)))) u (.bool false) K) Q:=λ{K Q} hw=>by
  by_cases c1:jss.length<vs.length
  ·rw[iG (show(jss.length:Int)<(vs.length:Int) by omega),hu c1];exact qF (hw _ ⟨λh=>⟨c1,of_decide_eq_true h⟩,λh=>iG h.2⟩)
  ·rw[iV (show¬(jss.length:Int)<(vs.length:Int) by omega)];exact qy (hw _ ⟨λh=>(by grind),λh=>absurd h.1 c1⟩)
 refine hp λbb si=>?_;clear hp hu;cases bb with
 |false=>refine qJ (qj (qq ⟨jss,RC,λhv=>?_,Pa,H⟩));grind
 |true=>
  obtain⟨c1,c2⟩:=si.1 rfl;have Ft:=A.len;have CQ:vs[jss.length]? =some vs[jss.length]:=iW c1;obtain⟨p,hp⟩:∃p,T[jss.length]? =some p:=⟨T[jss.length]'omQ,iW omQ⟩;have P:=A.i _ _ _ CQ hp;obtain⟨Bi,ws⟩:=p;dsimp only at P;refine qK ?_;have q1:HS g _ (ch [] .aj::rH jss lv::R):=ch.I (js:=[]) (v:=.aj) (vs:=[]) rfl ((HS.allI (A:=[]) H).aj);generalize hx:vs[jss.length]=x at*
  refine jB (λc q h'=>∃(js:List (List qO)) (jv:AV),q=(.int .i64 (js.length:Int),jv,.int .i64 (jss.length:Int),lv,.bool calm,.int .i64 most,a0,())∧js.length≤ws.length∧js.length≤2∧c=2-js.length∧(∀l∈js,L9 calm most l)∧
    HS g h' (ch js jv::rH jss lv::R))
   ?_ (m:=2) od ⟨[],.aj,rfl,Nat.zero_le _,Nat.zero_le _,rfl,λ_ h=>(by grind),q1⟩
  clear q1 H;rintro c ih2 q h6 lD ⟨js,jv,rfl,oQ,Rr,rfl,hik,H⟩;dsimp only;refine zO (S0.bU H.bU) (x:=x) CQ ?_;have S1:=P.s;refine yH (S1.bU H.bU) ?_;refine QB (wW (λz g'=>g'=h6∧∃u:AV,z=(u,.bool (decide ((js.length:Int)<(ws.length:Int))),.int .i64 (js.length:Int),jv,.int .i64 (jss.length:Int),lv,.bool calm,.int .i64 most,a0,())∧(js.length<ws.length→u=.bool (decide (js.length<2)))) (λj hj=>?_) ?_)
  ·refine Xd (λc1=>?_) (λc1=>?_)
   ·refine QB (hj _ _ ⟨rfl,_,rfl,λ_=>?_⟩)
    simp;omega
   ·exact hj _ _ ⟨rfl,_,rfl,λh=>absurd h omQ⟩
  rintro _ _ ⟨rfl,u,rfl,hu⟩;dsimp only;have hp:∀{K:AV→Go.Ae.R} {Q:AV→AH→Prop},(∀b:Bool,(b=true↔(js.length<ws.length∧js.length<2))→wp (K (.bool b)) Q)→wp (w4 (.bool (decide ((js.length:Int)<(ws.length:Int)))) u (.bool false) K) Q:=λ{K Q} hw=>by
   by_cases c1:js.length<ws.length
   ·rw[iG (show(js.length:Int)<(ws.length:Int) by omega),hu c1];exact qF (hw _ ⟨λh=>⟨c1,of_decide_eq_true h⟩,λh=>iG h.2⟩)
   ·rw[iV (show¬(js.length:Int)<(ws.length:Int) by omega)];exact qy (hw _ ⟨λh=>(by grind),λh=>absurd h.1 c1⟩)
  refine hp λbb si=>?_;clear hp hu;cases bb with
  |false=>
   refine qJ ?_;obtain⟨us,EZ,H8⟩:=ch.E H;have oj:=H8.one .here;have H7:=ch.I EZ H8;refine jY (n:=1) (l:=[jv]) (sz:=1) H7 rfl rfl (by simp only[gu,gn,oj.1];rfl) (by simp[jW,oj.2]) λv2 h8 H9=>?_;obtain⟨zs,lM,HA⟩:=rH.E (H9.aJ (P:=rH jss lv) e_2);refine zA HA (HA.sl e_2) omQ omQ (by simp[jW,oj.2]) λv3 h9 HB=>?_;refine qE omQ ?_;have ez:List.zipWith (λv js=>ch js v) (zs++[jv]) (jss++[js])=List.zipWith (λv js=>ch js v) zs jss++[ch js jv]:=by rw[List.zipWith_append lM];rfl
   have HC:=Gk (A:=List.zipWith (λv js=>ch js v) zs jss) (B:=[ch js jv]) (HB.sub (.cons e_1 (.cons e_2 .refl)));have HD:=rH.I (v:=v3) (jss:=jss++[js]) (vs:=zs++[jv]) (by grind) (by rw[ez,List.length_append];exact HC.sub (.cons e_1 (.cons .here .refl)));have lL:(jss++[js]).length=jss.length+1:=by simp
   refine bj (3-(jss.length+1)) _ _ omQ ⟨jss++[js],v3,?_,by omega,by omega,by simp,λy hy=>?_,HD.sub (.cons .here (.drop .refl))⟩
   all_goals grind
  |true=>
   obtain⟨d1,d2⟩:=si.1 rfl;have AG:=P.len;have fV:ws[js.length]? =some ws[js.length]:=iW d1;have mg:Bi[js.length]? =some (Bi[js.length]'omQ):=iW omQ;refine qK (zO (S0.bU H.bU) (x:=x) CQ ?_);refine zO (S1.bU H.bU) (x:=ws[js.length]) fV ?_;refine qY (qxs (ks:=Bi[js.length]'omQ) (calm:=calm) (most:=most) omQ (P.n _ (List.getElem_mem _)) hm H (Rd.arg (P.i _ _ _ fV mg))) ?_;rintro _ h7 ⟨pv,l,rfl,B,fY,hl40,H7⟩;have op:=H7.one (e:=101) (sz:=5) (n:=l.length) .here;refine jY (n:=1) (l:=[pv]) (sz:=1) H7 rfl rfl (by rfl) (by simp[jW,op.2]) λv2 h8 H8=>?_;obtain⟨us,EZ,H9⟩:=ch.E (H8.aJ (P:=ch js jv) e_2);refine zA H9 (H9.sl e_2) omQ omQ (by simp[jW,op.2]) λv3 h9 HA=>?_;refine qE omQ ?_;have ez:List.zipWith yh (us++[pv]) (js++[l])=List.zipWith yh us js++[yh pv l]:=by rw[List.zipWith_append EZ];rfl
   have HB:=Gk (A:=List.zipWith yh us js) (B:=[yh pv l]) (HA.sub (.cons e_1 (.cons e_2 .refl)));have HC:=ch.I (v:=v3) (js:=js++[l]) (vs:=us++[pv]) (by grind) (by rw[ez,List.length_append];exact HB.sub (.cons e_1 (.cons .here .refl)));have lL:(js++[l]).length=js.length+1:=by simp
   refine lD (2-(js.length+1)) _ _ omQ ⟨js++[l],v3,?_,by omega,by omega,by simp,λy hy=>?_,HC.sub (.cons .here (.drop .refl))⟩
   ·simp
   ·rcases List.mem_append.1 hy with hy |hy
    ·grind
    ·rcases List.mem_cons.1 hy with rfl |hy
     ·exact⟨B,fY,hl40⟩
     grind
theorem qGF {α β:Type} {P:α→β→Prop}:∀{xs:List α},(∀x∈xs,∃k,P x k)→∃ks:List β,xs.length=ks.length∧(∀(i:Nat) (x:α) (k:β),xs[i]? =some x→ks[i]? =some k→P x k)∧∀k∈ks,∃x∈xs,P x k:=by
 intro xs
 induction xs with
 |nil=>intro _;exact⟨[],rfl,λi x k h=>(by simp),λk h=>(by grind)⟩
 |cons y r ih=>
  intro H;obtain⟨k,hk⟩:=H y (iK ..);obtain⟨ks,h1,h2,h3⟩:=ih λx hx=>H x (iX _ hx);refine⟨k::ks,by grind,λi x z hx hz=>?_,λz hz=>?_⟩
  all_goals grind
theorem jZ0 {h:AH} {d:Nat} {v:AV} (H:WT Tryz.prog h (d+4) 74 [v]):∃p:List (List qO)×List AV,En h v p.1 p.2:=by
 obtain⟨q,xs,S1,_,H1⟩:=KM (sz:=1) Tryz.underlying74 (by rfl) omQ H;have hl:=S1.len;obtain rfl:q=xs.length:=by omega
 obtain⟨Bi,h1,h2,h3⟩:=qGF (xs:=xs) (P:=λ(x:AV) (ks:List qO)=>Sl (λb=>b<h.nx) h 5 ks.length x (ks.flatMap ju)∧∀y∈ks,0≤y.2.2.2.2∧y.2.2.2.2<18446744073709551616) λx hx=>by
  obtain⟨i,hi,rfl⟩:=List.mem_iff_getElem.1 hx;have:=H1 i omQ;rw[Nat.mul_one,List.drop_eq_getElem_cons hi]at this;obtain⟨ks,a,b⟩:=jQL (show WT Tryz.prog h (d+3) 79 [xs[i]]from this);grind
 exact⟨(Bi,xs),h1,S1,λi x ks hx hk=>(h2 i x ks hx hk).1,λks hk=>(h3 ks hk).elim λ_ z=>z.2.2⟩
theorem qV7 {h:AH} {d:Nat} {v:AV} (H:WT Tryz.prog h (d+5) 25 [v]):∃(T:List (List (List qO)×List AV)) (vs:List AV),Eo h v T vs:=by
 obtain⟨q,xs,S1,_,H1⟩:=KM (sz:=1) Tryz.underlying25 (by rfl) omQ H;have hl:=S1.len;obtain rfl:q=xs.length:=by omega
 obtain⟨T,h1,h2,_⟩:=qGF (xs:=xs) (P:=λ(x:AV) (p:List (List qO)×List AV)=>En h x p.1 p.2) λx hx=>by
  obtain⟨i,hi,rfl⟩:=List.mem_iff_getElem.1 hx;have:=H1 i omQ;rw[Nat.mul_one,List.drop_eq_getElem_cons hi]at this;exact jZ0 (show WT Tryz.prog h (d+4) 74 [xs[i]]from this)
 exact⟨T,xs,h1,S1,h2⟩
end
namespace historyMade
variable {g h:AH} {L R:List SP}
abbrev Sc:Type:=Int×Int×Int
def DC (x:Sc):List AV:=[.int .i64 x.1,.int .u8 x.2.1,.int .i64 x.2.2]
theorem Sd {α:Type} {sz:Nat} {enc:α→List AV} (he:∀a,(enc a).length=sz) {l:List α} {i f:Nat} {a:α} (h:l[i]? =some a) (hf:f<sz):(l.flatMap enc)[i*sz+f]? =(enc a)[f]?:=by rw[← w5 he h,List.getElem?_take_of_lt hf,List.getElem?_drop]
theorem qKD (l:List Int):jW (l.map (AV.int .u64))=true:=by
 induction l with
 |nil=>rfl
 |cons a l ih=>exact ih
theorem Zc:∀{zs:List iz} {R:List SP},HS g h ((zs.flatMap λz=>vH z.1 z.2)++R)→∀z∈zs,U8 z
 |[],_,_,z,hz=>by grind
 |z0::zs,R,H,z,hz=>by
  have H:HS g h (qC 63 2 z0.1.reads.length z0.2.rv (z0.1.reads.flatMap jH)::qC 63 2 z0.1.cells.length z0.2.cv (z0.1.cells.flatMap jH)::qC z0.2.fe 1 z0.1.dJ.length z0.2.fv (z0.1.dJ.map (.int .i64))::((zs.flatMap λz=>vH z.1 z.2)++R)):=H;rcases List.mem_cons.1 hz with rfl |hz
  ·exact⟨(H.one .here).2,(H.sl (v:=z.2.cv) e_1).Ij,(H.one (v:=z.2.fv) e_2).2⟩
  ·exact Zc H.drop.drop.drop z hz
theorem qWd:∀{zs:List iz} {z:iz},z∈zs→(∃A,bB (zs.flatMap λz=>vH z.1 z.2) (qC 63 2 z.1.reads.length z.2.rv (z.1.reads.flatMap jH)) A)∧(∃A,bB (zs.flatMap λz=>vH z.1 z.2) (qC 63 2 z.1.cells.length z.2.cv (z.1.cells.flatMap jH)) A)
 |[],_,hz=>by grind
 |z0::zs,z,hz=>by
  rcases List.mem_cons.1 hz with rfl |hz
  ·exact⟨⟨_,.here⟩,⟨_,.there .here⟩⟩
  ·obtain⟨⟨A,h1⟩,⟨B,h2⟩⟩:=qWd hz;exact⟨⟨_,.there (.there (.there h1))⟩,⟨_,.there (.there (.there h2))⟩⟩
theorem qKN {zs:List iz}:∀z∈zs,mW (.all (zs.flatMap λz=>vH z.1 z.2)) 2 z.1.reads.length z.2.rv (z.1.reads.flatMap jH)∧mW (.all (zs.flatMap λz=>vH z.1 z.2)) 2 z.1.cells.length z.2.cv (z.1.cells.flatMap jH):=λz hz=>by
 obtain⟨⟨A,h1⟩,⟨B,h2⟩⟩:=qWd hz;exact⟨.sx h1 .own,.sx h2 .own⟩
theorem qj0 {U V:List iz} {z:iz} (H:HS g h (.all ((U++z::V).flatMap λz=>vH z.1 z.2)::R)):HS g h (qC 63 2 z.1.reads.length z.2.rv (z.1.reads.flatMap jH)::((U.flatMap λz=>vH z.1 z.2)++(qC 63 2 z.1.cells.length z.2.cv (z.1.cells.flatMap jH)::qC z.2.fe 1 z.1.dJ.length z.2.fv (z.1.dJ.map (.int .i64))::((V.flatMap λz=>vH z.1 z.2)++R)))):=by have H:=H.cE;rw[List.flatMap_append,List.append_assoc]at H;exact H.aJ Gw
theorem qkM {U V:List iz} {z:iz} (H:HS g h (qC 63 2 z.1.reads.length z.2.rv (z.1.reads.flatMap jH)::((U.flatMap λz=>vH z.1 z.2)++(qC 63 2 z.1.cells.length z.2.cv (z.1.cells.flatMap jH)::qC z.2.fe 1 z.1.dJ.length z.2.fv (z.1.dJ.map (.int .i64))::((V.flatMap λz=>vH z.1 z.2)++R))))):HS g h (.all ((U++z::V).flatMap λz=>vH z.1 z.2)::R):=by refine HS.allI ?_;rw[List.flatMap_append,List.append_assoc];exact HS.mj Gw H
theorem qws {cs:List Cl} {k:Nat} {c:Cl} {w:Int} (h:cs[k]? =some c):(cs.flatMap jH).set (k*2+1) (.int .u64 w)=(cs.set k (c.1,w)).flatMap jH:=by
 induction cs generalizing k with
 |nil=>rfl
 |cons a cs ih=>
  cases k with
  |zero=>cases h;rfl
  |succ k=>have:=ih (k:=k) h;rw[List.flatMap_cons,List.set_cons_succ,List.flatMap_cons,← this,show(k+1)*2+1=(k*2+1)+2 by omega];rfl
theorem law {k0:Nat} (hk:40≤k0) {w st wi sp wr fu t ta:Int} {a1 a2:AV} {T:List (List (List qO)×List AV)} {vs:List AV} {pk:List Sc} (ht:0≤t∧t<18446744073709551616) (A:Eo h a1 T vs)
  (SK:Sl (λb=>b<h.nx) h 3 pk.length a2 (pk.flatMap DC)) (Ce:∀x∈pk,0≤x.2.1∧x.2.1<256) (hta:0≤ta∧ta<256) :
  wp ((uB S3) (QX 4 (callT tab qL k0)) [.agg [.int .i64 w,.int .i64 st,.int .i64 wi,.int .i64 sp,.int .i64 wr,.int .i64 fu,.int .u64 t],a1,a2,.int .u8 ta] h) λv _=>v=.bool true:=by
 show wp (S3 (QX _ (callT tab qL _)) _ _ _ _ _).1 _;unfold S3
 try simp only[ iZ]
 refine qh (HS.nil h) rfl λb0 h1 H1=>?_;refine jJ5 (jE (qJ ?_));refine qo H1 (b:=b0) (off:=0) .here rfl omQ (l:=[.int .i64 w,.int .i64 st,.int .i64 wi,.int .i64 sp,.int .i64 wr,.int .i64 fu,.int .u64 t]) rfl ?_;refine wQ od (qw6 omQ ht H1) ?_;rintro _ h2 ⟨s,rfl,K,H2⟩;refine wQ od (qJp (calm:=false) (most:=((14:Nat):Int)) omQ omQ A H2) ?_;rintro lv h3 ⟨jss,mR,Bq,Pa,H3⟩;have pu:∀js∈jss,∀l∈js,(yn l).2=0∧bO l:=λjs ug l hl=>((Pa js ug).2 l hl).Ez omQ;obtain⟨CS,Fs,H3⟩:=rH.E H3;obtain⟨Z,eZ,eV,hZ,H4⟩:=bp.open_ Fs (H3.aJ (P:=.all (List.zipWith (λv js=>ch js v) CS jss)) e_1);have eZl:jss.length=Z.length:=by grind
 rw[← eV,eZl]at H4;refine wQ od (qx4 (s:=s) (Z:=Z) (v:=lv) omQ K.start.1 eZ hZ (λjs ug=>⟨by grind,pu js ug⟩) omQ (H4.sub (.cons e_1 (.cons .here .refl)))) ?_;rintro _ h5 ⟨mb,rfl,H5⟩;have MH:=qkI (s:=s) (jobs:=jss) K.start.1 pu;have MO:=qWb (s:=s) (jobs:=jss) K.start.1 pu;have hp0:(wu s jss).az=0:=rfl;generalize eG:(λ_=>[]:wB)=G0 at MH;clear eG;generalize wu s jss=m0 at*;have hT:=MH.a.k.so.ad;have hL:=MH.a.k.len;obtain⟨p,tv,ps,c,nR,hc,H6⟩:=dx.E (H5.sub (L':=dx (bp Z) mb m0::bp Z::[]) (.cons .here (.cons e_1 (.drop (.drop .refl)))));clear H1 H2 H3 H4 H5;refine qX (qQ (qZ H6 (b:=mb) .here (x:=.ptr p 0) rfl ?_));obtain⟨wv,lkv,sv,H7⟩:=bQ.E (H6.aJ (P:=bQ p m0.s { m0.m with aN:=c }) e_2);refine qX (qQ (qZ H7 (b:=p) .here (x:=wv) rfl ?_));have ly:=MH.len;refine QZ H7 (H7.sl (n:=m0.m.w.length) (v:=wv) (xs:=m0.m.w.map (.int .u64)) e_1) omQ omQ (qKD _) λww h8 H8=>?_;have H9:=bQ.I (S:=m0.s) (M:={ m0.m with aN:=c }) (wv:=wv) (lv:=lkv) (sv:=sv) (H8.sub (.cons e_1 (.cons e_1 (.cons e_1 (.cons e_1 (.cons .here .refl))))));have HN:HS h h8 [dx (bp Z) mb m0,qC 22 1 m0.m.w.length ww (m0.m.w.map (.int .u64)),bp Z]:=dx.I (p:=p) (tv:=tv) (ps:=ps) (c:=c) nR hc (H9.sub (.cons e_2 (.cons e_2 (.cons .here (.cons e_1 (.cons .here .refl))))));clear H6 H7 H8 H9 hc nR;generalize ew:m0.m.w=w0 at*;have hw:=MH.len;generalize hn:m0.t.length=n at*;have hn4:1≤n∧n≤4:=by omega
 refine jB (λc q h'=>∃(i:Nat) (m:vY) (G:wB),q=(.int .i64 (i:Int),ww,.ptr mb 0,.int .u8 ta,a2,())∧i≤pk.length∧i≤60∧c=60-i∧YW w0 m G∧NJ m∧m.t.length=n∧m.az≤10*i∧HS h h' [dx (bp Z) mb m,qC 22 1 w0.length ww (w0.map (.int .u64)),bp Z])
  ?_ (m:=60) od ⟨0,m0,G0,rfl,Nat.zero_le _,Nat.zero_le _,rfl,MH,MO,hn,by omega,HN⟩
 clear HN MH MO hp0 hL hT hn;rintro c ih q h6 bj ⟨i,m,G,rfl,oQ,hi60,rfl,MH,MO,hn,PA,H⟩;dsimp only;refine yH (SK.bU H.bU) ?_;refine QB (wW (λz g'=>g'=h6∧∃u:AV,z=(u,.bool (decide ((i:Int)<(pk.length:Int))),.int .i64 (i:Int),ww,.ptr mb 0,.int .u8 ta,a2,())∧(i<pk.length→u=.bool (decide (i<60)))) (λj hj=>?_) ?_)
 ·refine Xd (λc1=>?_) (λc1=>?_)
  ·refine QB (hj _ _ ⟨rfl,_,rfl,λ_=>?_⟩)
   simp;omega
  ·exact hj _ _ ⟨rfl,_,rfl,λh=>absurd h omQ⟩
 rintro _ _ ⟨rfl,u,rfl,hu⟩;dsimp only;have hp:∀{K:AV→Go.Ae.R} {Q:AV→AH→Prop},(∀b:Bool,(b=true↔(i<pk.length∧i<60))→wp (K (.bool b)) Q)→wp (w4 (.bool (decide ((i:Int)<(pk.length:Int)))) u (.bool false) K) Q:=λ{K Q} hw=>by
  by_cases c1:i<pk.length
  ·rw[iG (show(i:Int)<(pk.length:Int) by omega),hu c1];exact qF (hw _ ⟨λh=>⟨c1,of_decide_eq_true h⟩,λh=>iG h.2⟩)
  ·rw[iV (show¬(i:Int)<(pk.length:Int) by omega)];exact qy (hw _ ⟨λh=>(by grind),λh=>absurd h.1 c1⟩)
 refine hp λbb si=>?_;clear hp hu;cases bb with
 |false=>
  refine qJ ?_;clear bj ih si;have uz:∀t∈m.t,xR t∧t.ah.length≤600:=λt ht=>by
   obtain⟨k,hk,rfl⟩:=List.mem_iff_getElem.1 ht;obtain⟨O,_,q⟩:=MO.t k _ (iW hk);grind
  refine wQ od (qzP omQ (λt ht=>⟨(uz t ht).1,by grind⟩) omQ H) λav h7 H7=>?_;clear H;obtain⟨zs,e1,_,H8⟩:=bm.one H7;clear H7;have lM:zs.length≤4000:=by grind[qyA,List.length_map]
  have cH:∀z∈zs,U8 z:=Zc H8.drop.cE;have H8:HS h h7 [qC 61 14 zs.length av (zs.flatMap dK),.all (zs.flatMap λz=>vH z.1 z.2),qC 22 1 w0.length ww (w0.map (.int .u64)),bp Z]:=H8;have lx:∀z∈zs,z.1∈xz m:=λz hz=>by grind
  have Pb:∀z∈zs,z.1.reads.length≤256∧z.1.cells.length≤96:=λz hz=>by
   have:=qzL MH.a.k MH.p (lx z hz);exact⟨this.le,this.lc⟩
  refine wQ od (qjr omQ H8 (H8.rd .here) cH lM λz hz w hw h1 h2=>Vt.2 (MH.a.keeps (lx z hz) (lx w hw) h1 h2)) ?_;rintro _ h9 ⟨rfl,H9⟩;refine jE (qG ?_)
  try dsimp only
  refine qP (wQ od (qZn (ws:=w0) omQ H9 (H9.rd e_2) (qG0 e_2 omQ) omQ (H9.rd .here) cH lM e_1 qKN Pb) ?_);rintro _ ia ⟨ys,p1,p2,rfl,dC⟩;rw[qqI MH e1 p1 p2];refine jE (qy (qJ ?_));clear H8 H9 p1 p2;refine jB (λc q h'=>∃i:Nat,q=(.int .i64 (i:Int),av,ww,.int .u8 ta,())∧i≤zs.length∧c=zs.length-i∧HS h h' [qC 61 14 zs.length av (zs.flatMap dK),.all (zs.flatMap λz=>vH z.1 z.2),qC 22 1 w0.length ww (w0.map (.int .u64)),bp Z])
   ?_ (m:=zs.length) (by grind) ⟨0,rfl,Nat.zero_le _,rfl,dC⟩
  clear dC;rintro c ih q dO bj ⟨i,rfl,hi,rfl,H⟩;dsimp only;refine qr H (n:=zs.length) (v:=av) .here ?_;refine j8 (λhc=>qK ?_) λhc=>qJ (qj (qq rfl));have ap:i<zs.length:=by omega
  have hX:(zs.flatMap dK)[i*14+10]? =some zs[i].2.rv:=by have:((zs.flatMap dK).drop (i*14)).take 14=dK zs[i]:=Xr zs ap;have:=congrArg (·[10]?) this;simp only[List.getElem?_take_of_lt (show 10<14 by omega),List.getElem?_drop]at this;trivial
  have rdi:=(qKN zs[i] (List.getElem_mem ap)).1.rd (g:=h) (R:=[qC 61 14 zs.length av (zs.flatMap dK),.all (zs.flatMap λz=>vH z.1 z.2),qC 22 1 w0.length ww (w0.map (.int .u64)),bp Z]) e_1;have ED:=(Pb _ (List.getElem_mem ap)).1;have toR:∀{K:AV→Go.Ae.R} {Q:AV→AH→Prop},wp (K zs[i].2.rv) Q→wp (yt av (.int .i64 (i:Int)) 14 λp=>qH p 10 λq=>jK dO q K) Q:=λw=>jn (H.sl (n:=zs.length) (v:=av) (xs:=zs.flatMap dK) .here) omQ ap (x:=zs[i].2.rv) hX w;refine toR (yH (rdi.sl H) ?_);by_cases hr0:0<zs[i].1.reads.length
  rotate_left
  ·refine xJ omQ (qJ (qE omQ ?_));exact bj (zs.length-(i+1)) _ _ omQ ⟨i+1,rfl,by omega,rfl,H⟩
  refine xL omQ (qK ?_);refine yP omQ ?_;refine toR (yH (rdi.sl H) ?_);refine Xb omQ ?_;obtain⟨k,hk⟩:∃k:Nat,ta.tmod (zs[i].1.reads.length:Int)=(k:Int)∧k<zs[i].1.reads.length:=by have h1:=Int.tmod_nonneg (zs[i].1.reads.length:Int) hta.1;have h2:=Int.tmod_lt_of_pos ta (show(0:Int)<(zs[i].1.reads.length:Int) by omega);exact⟨(ta.tmod (zs[i].1.reads.length:Int)).toNat,by omega,by omega⟩
  obtain⟨mg,iN⟩:=hk;rw[mg];have Fu:zs[i].1.reads[k]? =some zs[i].1.reads[k]:=iW iN;refine toR (jn (rdi.sl H) omQ iN (x:=.int .u64 zs[i].1.reads[k].2) (Sd (sz:=2) (enc:=jH) (λ_=>rfl) Fu omQ) ?_);refine KD ?_;have Pc:zs=zs.take i++zs[i]::zs.drop (i+1):=by simp
  generalize zs[i].1.reads[k]=cc at*;generalize zs[i]=zz at*;generalize zs.take i=U at*;generalize zs.drop (i+1)=V at*;have HU:=H.aJ (P:=.all (zs.flatMap λz=>vH z.1 z.2)) e_1;rw[Pc]at HU e1;refine NM (qj0 HU) iN omQ ⟨rfl,rfl⟩ λiP fK=>?_;rw[qws Fu]at fK
  have r6:=qkM (z:=(L4 zz.1 k cc,zz.2)) (by
   show HS h iP (qC _ 2 (zz.1.reads.set k _).length _ _::_);rw[List.length_set]
   exact fK)
  obtain⟨r9,e2⟩:∃r9,r9=U++(L4 zz.1 k cc,zz.2)::V:=⟨_,rfl⟩;have Pd:r9.length=(U++zz::V).length:=by grind
  have eX:r9.flatMap dK=(U++zz::V).flatMap dK:=by rw[e2,List.flatMap_append,List.flatMap_append];rfl
  rw[← e2]at r6;have uP:HS h iP [qC 61 14 r9.length av (r9.flatMap dK),.all (r9.flatMap λz=>vH z.1 z.2),qC 22 1 w0.length ww (w0.map (.int .u64)),bp Z]:=by rw[Pd,eX];exact r6.sub (.cons e_1 (.cons .here .refl))
  have hok2:∀z∈r9,U8 z:=Zc uP.drop.cE;have hbd2:∀z∈r9,z.1.reads.length≤256∧z.1.cells.length≤96:=λz hz=>by
   rw[e2]at hz;rcases List.mem_append.1 hz with hz |hz
   ·grind
   ·rcases List.mem_cons.1 hz with rfl |hz
    ·have:=Pb zz (by grind);exact⟨by show(zz.1.reads.set k _).length≤_;grind,this.2⟩
    grind
  refine wQ od (qZn (ws:=w0) omQ uP (uP.rd e_2) (qG0 e_2 omQ) omQ (uP.rd .here) hok2 (by grind) e_1 qKN hbd2) ?_;rintro _ LK ⟨ys,p1,p2,rfl,_⟩;rw[qVP MH e1 Fu e2 p1 p2];exact jo (qj (qq rfl))
 |true=>
  obtain⟨c1,c2⟩:=si.1 rfl;clear si;refine qK ?_;have su:pk[i]? =some pk[i]:=iW c1;have hw9:=Qy (x:=pk[i].2.2) (lo:=((0:Nat):Int)) (hi:=((9:Nat):Int)) omQ;have RF:=Ce _ (List.getElem_mem c1);have e0:(pk.flatMap DC)[i*3+0]? =some (.int .i64 pk[i].1):=Sd (sz:=3) (λ_=>rfl) su omQ;have e1:(pk.flatMap DC)[i*3+1]? =some (.int .u8 pk[i].2.1):=Sd (sz:=3) (λ_=>rfl) su omQ;have e2:(pk.flatMap DC)[i*3+2]? =some (.int .i64 pk[i].2.2):=Sd (sz:=3) (λ_=>rfl) su omQ;generalize pk[i]=x at*;obtain⟨xT,xD,xN⟩:=x;dsimp only at*;refine jB (λc q h'=>∃(k:Nat) (m:vY) (G:wB),q=(.int .i64 (k:Int),.int .i64 (i:Int),ww,.ptr mb 0,.int .u8 ta,a2,())∧(k:Int)≤zx xN ((0:Nat):Int) ((9:Nat):Int)+1∧c=10-k∧YW w0 m G∧NJ m∧m.t.length=n∧m.az≤10*i+k∧HS h h' [dx (bp Z) mb m,qC 22 1 w0.length ww (w0.map (.int .u64)),bp Z])
   ?_ (m:=10) od ⟨0,m,G,rfl,by omega,rfl,MH,MO,hn,by omega,H⟩
  clear H MH MO hn PA;rintro c ih2 q h6 lD ⟨k,m,G,rfl,hk9,rfl,MH,MO,hn,PA,H⟩;dsimp only;refine jn (SK.bU H.bU) omQ c1 e2 ?_;refine wQ od (xp omQ omQ omQ omQ) ?_;rintro _ _ ⟨rfl,rfl⟩;by_cases ap:(k:Int)≤zx xN ((0:Nat):Int) ((9:Nat):Int)
  ·refine ve ap (qK ?_);refine qG ?_
   try dsimp only
   refine jn (SK.bU H.bU) omQ c1 e0 ?_;obtain⟨p,tv,ps,cc,nR,fZ,HU⟩:=dx.E H;refine qX (qQ (qZ HU (b:=mb) .here (x:=tv) rfl ?_));refine qr HU (sz:=1) (n:=m.t.length) (v:=tv) e_1 ?_;clear HU;rw[hn];refine qn omQ ?_;have hwT:=Qy (x:=xT) (lo:=((0:Nat):Int)) (hi:=(n:Int)-((1:Nat):Int)) omQ;refine wQ od (xp omQ omQ omQ omQ) ?_;rintro _ _ ⟨rfl,rfl⟩;refine PX (SK.bU H.bU) c1 λbb off SE _ cx=>?_;refine qI (vn ((cx 1 omQ).trans e1) ?_);obtain⟨ti,hti⟩:∃ti:Nat,zx xT ((0:Nat):Int) ((n:Int)-((1:Nat):Int))=(ti:Int):=⟨(zx xT ((0:Nat):Int) ((n:Int)-((1:Nat):Int))).toNat,by omega⟩;rw[hti]at hwT ⊢;have LZ:ti<m.t.length:=by omega
   refine wQ od (qve (i:=ti) (draw:=xD) omQ MO LZ omQ omQ RF e_1 H) ?_;rintro _ h7 ⟨rfl,H7⟩;refine TQ ((cx 1 omQ).trans e1) ((cx 1 omQ).trans e1) SE ?_;clear cx;obtain⟨G2,MH2⟩:=qqF MH LZ RF.1;obtain⟨MO2,EC,hpp⟩:=qVM MO LZ RF.1;have PC:(xZ m ti xD).t.length=n:=by have h1:=MO2.len;have h2:=MO.len;grind
   generalize xZ m ti xD=m2 at*;refine qE omQ ?_;exact lD (10-(k+1)) _ _ omQ ⟨k+1,m2,G2,rfl,by omega,rfl,MH2,MO2,PC,by omega,H7⟩
  ·refine vj ap (qJ ?_);refine qE omQ ?_;exact bj (60-(i+1)) _ _ omQ ⟨i+1,m,G,rfl,by omega,by omega,rfl,MH,MO,hn,by omega,H⟩
theorem qj4 {h:AH} {d:Nat} {v:AV} (H:WT Tryz.prog h (d+3) 26 [v]):∃pk:List Sc,Sl (λb=>b<h.nx) h 3 pk.length v (pk.flatMap DC)∧∀x∈pk,0≤x.2.1∧x.2.1<256:=by
 obtain⟨q,xs,S,_,H2⟩:=KM (sz:=3) Tryz.underlying26 (by rfl) omQ H
 obtain⟨ks,g1,g3,rfl⟩:=qZm (α:=Sc) (Pr:=λx=>0≤x.2.1∧x.2.1<256) DC S.len (λi hi=>by
  have:=H2 i hi;generalize(xs.drop (i*3)).take 3=row at this;unfold WT at this;simp only[Tryz.underlying51]at this;obtain⟨g1,g2⟩:=this;rw[show Tryz.prog.cellsOf 51=3 by rfl]at g1
  match row,g1 with
  |[x,y,z],_=>
   have f1:=g2 _ (iK ..);have f2:=g2 _ (iX _ (iK ..));have f3:=g2 _ (iX _ (iX _ (iK ..)));rw[show Tryz.prog.cellsOf 3=1 by rfl]at f1 f3;rw[show Tryz.prog.cellsOf 5=1 by rfl]at f2;unfold WT at f1 f2 f3;simp only[Tryz.underlying3,List.drop_zero,List.take_succ_cons,List.take_zero,List.drop_succ_cons]at f1 f3;simp only[Tryz.underlying5,List.drop_succ_cons,List.drop_zero,List.take_succ_cons,List.take_zero]at f2;obtain⟨a,ha,_⟩:=f1;obtain⟨b,hb,c5⟩:=f2;obtain⟨c,hc,_⟩:=f3;cases ha;cases hb;cases hc
   exact⟨(a,b,c),⟨c5.1,Int.lt_of_le_of_lt c5.2 od⟩,rfl⟩)
 grind
theorem told {h:AH} {l:List AV} (H:PV Tryz.prog h 8 Tryz.f3.params.toList l):wp ((uB S3) (QX 4 (callT tab qL 60)) l h) λv _=>v=.bool true:=by
 have e:Tryz.f3.params.toList=[24,25,26,5]:=by rfl
 rw[e]at H;obtain⟨a0,a1,a2,a3,rfl,H0,H1,H2,H3⟩:=TL H;simp only[BK,Tryz.underlying5,Tryz.underlying24,Tryz.underlying25,Tryz.underlying26]at H0 H1 H2 H3;obtain⟨T,vs,A⟩:=qV7 H1;obtain⟨pk,SK,Ce⟩:=qj4 H2;obtain⟨ya,ea,ca⟩:=H3;cases ea;obtain⟨xs,rfl,H0⟩:=H0;unfold WT at H0;simp only[Tryz.underlying24]at H0;obtain⟨g1,g2⟩:=H0;rw[show Tryz.prog.cellsOf 24=7 by rfl]at g1
 match xs,g1 with
 |[x0,x1,x2,x3,x4,x5,x6],_=>have f0:=g2 _ (iK ..);have f1:=g2 _ (iX _ (iK ..));have f2:=g2 _ (iX _ (iX _ (iK ..)));have f3:=g2 _ (iX _ (iX _ (iX _ (iK ..))));have f4:=g2 _ (iX _ (iX _ (iX _ (iX _ (iK ..)))));have f5:=g2 _ (iX _ (iX _ (iX _ (iX _ (iX _ (iK ..))))));have f6:=g2 _ (iX _ (iX _ (iX _ (iX _ (iX _ (iX _ (iK ..)))))));rw[show Tryz.prog.cellsOf 3=1 by rfl]at f0 f1 f2 f3 f4 f5;rw[show Tryz.prog.cellsOf 22=1 by rfl]at f6;simp only[List.drop_succ_cons,List.drop_zero,List.take_succ_cons,List.take_zero]at f0 f1 f2 f3 f4 f5 f6;unfold WT at f0 f1 f2 f3 f4 f5 f6;simp only[Tryz.underlying3]at f0 f1 f2 f3 f4 f5;simp only[Tryz.underlying22]at f6;obtain⟨y0,e0,_⟩:=f0;obtain⟨y1,e1,_⟩:=f1;obtain⟨y2,e2,_⟩:=f2;obtain⟨y3,e3,_⟩:=f3;obtain⟨y4,e4,_⟩:=f4;obtain⟨y5,e5,_⟩:=f5;obtain⟨y6,e6,e6'⟩:=f6;cases e0;cases e1;cases e2;cases e3;cases e4;cases e5;cases e6;exact law omQ ⟨e6'.1,Int.lt_of_le_of_lt e6'.2 od⟩ A SK Ce ⟨ca.1,Int.lt_of_le_of_lt ca.2 od⟩
end historyMade
end Go.Proofs.YtaljafbgbfmcbaaGreat
