/- Lemmas for 'quietus/quietuslaw28.MachineGoes': A program within a greater one: it runs there as it runs alone. The plain law;A program within a greater one: its run. The plain law;Programs joined;a ... No condition. -/
import Derived.Test.YtemjbhdofokbhaaGreatDoorMachineGoesM4
import Derived.Test.YtemjbhdofokbhaaGreatDoorMachineGoesM5
import Derived.Test.YtemjbhdofokbhaaGreatDoorMachineGoesM7
import Derived.Test.YtemjbhdofokbhaaGreatDoorMachineGoesM2
namespace Go.Proofs.YtemjbhdofokbhaaGreatDoor
open Go Go.Ae
set_option maxRecDepth 100000
variable {T:List (List (List qR)×List AV)} {aD:List (List (List qR))} {calm:Bool} {d i n:Nat} {fu most sp st wi wr:Int} {h:AH} {l:List qR} {rs:List yr} {s:jz} {v:AV} {vs:List AV} {α:Type}
section
def YA (k:Nat) (x:qR):qR:=if x.1=12∨x.1=13 then(x.1,x.2.1,x.2.2.1,x.2.2.2.1+k,x.2.2.2.2)else x
theorem XG {k:Nat} {x:qR}:(YA k x).1=x.1:=by grind[YA]
structure Bh (l L:List qR) (k:Nat) (hY:List Int):Prop where
  le:k+l.length≤L.length
  ins:∀i:Nat,i<l.length→qO L ((k+i:Nat):Int)=YA k (qO l i)
  st:qE L k=hY
theorem qKp {hY s:List Int} {k:Nat} {op:Int} (h:0<zA op→s≠[]):jE (hY++s.map (· +(k:Int))) ((k+i:Nat):Int) op=hY++(jE s i op).map (· +(k:Int)):=by
 have hd:0<zA op→(hY++s.map (· +(k:Int))).dropLast=hY++s.dropLast.map (· +(k:Int)):=by simp_all
 have e:[((k+i:Nat):Int)]=[(i:Int)].map (· +(k:Int)):=by grind
 unfold jE;by_cases c1:xf op=true∨op=18
 ·rw[iJ c1,iJ c1];split<;>simp_all
 ·rw[iQ c1,iQ c1];split<;>simp_all
section
variable {L:List qR} {k:Nat} {hY:List Int}
theorem Bh.stack (E:Bh l L k hY) (hw:∀j,j<l.length→xW l (qE l j) (qO l j)=0):∀i,i≤l.length→qE L (k+i)=hY++(qE l i).map (· +(k:Int)):=by
 intro i
 induction i with
 |zero=>intro _;rw[Nat.add_zero,E.st];simp[qE]
 |succ i ih=>intro hi;rw[← Nat.add_assoc,jU,ih omQ,E.ins i omQ,XG,qKp λh=>(x9 (hw i omQ)).2.1 (.inl h),jU]
theorem qVo {s:List Int} (h:s≠[]):jq (hY++s.map (· +(k:Int)))=jq s+k:=by grind[jq,List.getLast?_append,List.getLast?_map,List.getLast?_eq_some_getLast]
theorem qkp (F:Fit l) {p e:Nat} (hp:p<l.length) (ho:(qO l p).1=14∨(qO l p).1=17∨(qO l p).1=18) (he:e<l.length) (h1:0<zA (qO l e).1) (h2:jq (qE l e)=p):qg (qU l) (p:Int)=e:=by
 obtain⟨e0,_,_,_,_,_,hu⟩:=Vu F hp ho;obtain⟨e1,g1,g2,g3,g4,g5⟩:=wU F hp ho;have dY:jq (qE l (p+1))=p:=by rw[jU];unfold jE;rw[iJ (by grind[xf])];simp[jq]
 grind
theorem jXb (F:Fit l) {u e:Nat} (hu:u<l.length) (ho:(qO l u).1=16) (he:e<l.length) (h1:0<zA (qO l e).1) (h2:jq (qE l e)=jq (qE l u)):qg (qU l) (u:Int)=e:=by obtain⟨e1,g1,g2,g3,g4,g5⟩:=Jx F hu ho;obtain⟨q,q1,q2,_,q3⟩:=gF g5;have hq:=(y9 (F.ok u hu)).2.2.1 ho;rw[Ni g5 q1]at hq;obtain⟨e0,_,_,_,_,_,hU⟩:=Vu F (p:=q) omQ (.inl hq);have a:=hU e he h1 (h2.trans q1);have b:=hU e1 g2 (by rw[g3];decide) (by grind);grind
theorem Bh.mt (E:Bh l L k hY) (F:Fit l) (FL:Fit L) (hi:i<l.length) (ho:(qO l i).1=14∨(qO l i).1=17∨(qO l i).1=18∨(qO l i).1=16):qg (qU L) ((k+i:Nat):Int)=qg (qU l) (i:Int)+k:=by
 have hle:=E.le;by_cases h:(qO l i).1=16
 ·obtain⟨e1,g1,g2,g3,g4,g5⟩:=Jx F hi h;rw[g1,jXb FL (u:=k+i) (e:=k+e1) omQ (by rw[E.ins i hi,XG];grind) omQ (by rw[E.ins e1 g2,XG,g3];decide) (by rw[E.stack F.ok _ omQ,E.stack F.ok _ omQ,g4])];omega
 ·obtain⟨e1,g1,g2,g3,g4,g5⟩:=wU F hi omQ;have dY:jq (qE l (i+1))=i:=by
   rw[jU];unfold jE;rw[iJ (by grind[xf])];simp[jq]
  have bJ:qE l e1≠[]:=by grind[KW]
  rw[g1,qkp FL (p:=k+i) (e:=k+e1) omQ (by rw[E.ins i hi,XG];omega) omQ (by rw[E.ins e1 g3,XG,g4];omega) (by rw[E.stack F.ok _ omQ,qVo bJ,g5,dY];omega)];omega
end
end
section
section
variable {p:List qR} {op:Int}
theorem UT (B:dC calm l []):Quiet l:=λx hx=>⟨(B.ok x hx).no,(B.ok x hx).n⟩
end
end
section
variable {g:AH} {L R:List SP}
structure CG (h:AH) (x:AV) (Am:List (List qR)) (vs:List AV):Prop where
  len:vs.length=Am.length
  s:Sl (λb=>b<h.nx) h 1 vs.length x vs
  i:∀(i:Nat) (y:AV) (ks:List qR),vs[i]? =some y→Am[i]? =some ks→Sl (λb=>b<h.nx) h 5 ks.length y (ks.flatMap jM)
  n:∀ks∈Am,∀x∈ks,0≤x.2.2.2.2∧x.2.2.2.2<18446744073709551616
structure CH (h:AH) (x:AV) (T:List (List (List qR)×List AV)) (vs:List AV):Prop where
  len:vs.length=T.length
  s:Sl (λb=>b<h.nx) h 1 vs.length x vs
  i:∀(i:Nat) (y:AV) (p:List (List qR)×List AV),vs[i]? =some y→T[i]? =some p→CG h y p.1 p.2
structure Ic (calm:Bool) (most:Int) (l:List qR):Prop where
  b:dC calm l []
  pos:0<l.length
  le:(l.length:Int)≤most
theorem Ic.BG (J:Ic calm most l) (h:most≤40):(xO l).2=0∧Quiet l:=by have h1:=J.le;exact⟨by rw[J.b.fit J.pos omQ],UT J.b⟩
theorem qZh {a0:AV} (hn:6≤n) (hm:1≤most∧most≤40) (A:CH g a0 T vs) (H:HS g h R) :
  aH n 7 [a0,.int .i64 most,.bool calm] h λr h'=>∃jss:List (List (List qR)),jss.length≤3∧(vs=[]→jss=[])∧(∀js∈jss,js.length≤2∧∀l∈js,Ic calm most l)∧HS g h' (nY jss r::R):=by
 refine cY (S:=S7) rfl omQ λk hk=>?_;unfold S7;try simp only[iZ]
 have q0:HS g h (nY [] .ap::R):=nY.I (jss:=[]) (v:=.ap) (vs:=[]) rfl ((HS.allI (A:=[]) H).ap)
 refine jS (λc q h'=>∃(jss:List (List (List qR))) (lv:AV),q=(.int .i64 (jss.length:Int),lv,.bool calm,.int .i64 most,a0,())∧jss.length≤vs.length∧jss.length≤3∧c=3-jss.length∧(∀js∈jss,js.length≤2∧∀l∈js,Ic calm most l)∧
   HS g h' (nY jss lv::R))
  ?_ (m:=3) od ⟨[],.ap,rfl,Nat.zero_le _,Nat.zero_le _,rfl,λ_ h=>(by grind),q0⟩
 clear H q0;rintro c ih q h6 bN ⟨jss,lv,rfl,fQ,LH,rfl,Ie,H⟩;dsimp only;have S0:=A.s;refine yy (S0.cD H.cD) ?_;refine JQ (UI (λz g'=>g'=h6∧∃u:AV,z=(u,.bool (decide ((jss.length:Int)<(vs.length:Int))),.int .i64 (jss.length:Int),lv,.bool calm,.int .i64 most,a0,())∧(jss.length<vs.length→u=.bool (decide (jss.length<3)))) (λj hj=>?_) ?_)
 ·refine Rz (λc1=>?_) (λc1=>?_)
  ·refine JQ (hj _ _ ⟨rfl,_,rfl,λ_=>?_⟩)
   simp;omega
  ·exact hj _ _ ⟨rfl,_,rfl,λh=>absurd h omQ⟩
 rintro _ _ ⟨rfl,u,rfl,hu⟩;dsimp only;have hp:∀{K:AV→Go.Ae.R} {Q:AV→AH→Prop},(∀b:Bool,(b=true↔(jss.length<vs.length∧jss.length<3))→wp (K (.bool b)) Q)→wp (QW (.bool (decide ((jss.length:Int)<(vs.length:Int)))) u (.bool false) K) Q:=λ{K Q} hw=>by
  by_cases c1:jss.length<vs.length
  ·rw[iG (show(jss.length:Int)<(vs.length:Int) by omega),hu c1];exact qB (hw _ ⟨λh=>⟨c1,of_decide_eq_true h⟩,λh=>iG h.2⟩)
  ·rw[iV (show¬(jss.length:Int)<(vs.length:Int) by omega)];exact qH (hw _ ⟨λh=>(by grind),λh=>absurd h.1 c1⟩)
 refine hp λbb sf=>?_;clear hp hu;cases bb with
 |false=>refine qJ (qx (qY ⟨jss,LH,λhv=>?_,Ie,H⟩));grind
 |true=>
  obtain⟨c1,c2⟩:=sf.1 rfl;have Du:=A.len;have BC:vs[jss.length]? =some vs[jss.length]:=iW c1;obtain⟨p,hp⟩:∃p,T[jss.length]? =some p:=⟨T[jss.length]'omQ,iW omQ⟩;have P:=A.i _ _ _ BC hp;obtain⟨Am,ws⟩:=p;dsimp only at P;refine qZ ?_;have q1:HS g _ (aV [] .ap::nY jss lv::R):=aV.I (js:=[]) (v:=.ap) (vs:=[]) rfl ((HS.allI (A:=[]) H).ap);generalize hx:vs[jss.length]=x at*
  refine jS (λc q h'=>∃(js:List (List qR)) (jv:AV),q=(.int .i64 (js.length:Int),jv,.int .i64 (jss.length:Int),lv,.bool calm,.int .i64 most,a0,())∧js.length≤ws.length∧js.length≤2∧c=2-js.length∧(∀l∈js,Ic calm most l)∧
    HS g h' (aV js jv::nY jss lv::R))
   ?_ (m:=2) od ⟨[],.ap,rfl,Nat.zero_le _,Nat.zero_le _,rfl,λ_ h=>(by grind),q1⟩
  clear q1 H;rintro c ih2 q h6 CJ ⟨js,jv,rfl,mN,hi2,rfl,hik,H⟩;dsimp only;refine zY (S0.cD H.cD) (x:=x) BC ?_;have S1:=P.s;refine yy (S1.cD H.cD) ?_;refine JQ (UI (λz g'=>g'=h6∧∃u:AV,z=(u,.bool (decide ((js.length:Int)<(ws.length:Int))),.int .i64 (js.length:Int),jv,.int .i64 (jss.length:Int),lv,.bool calm,.int .i64 most,a0,())∧(js.length<ws.length→u=.bool (decide (js.length<2)))) (λj hj=>?_) ?_)
  ·refine Rz (λc1=>?_) (λc1=>?_)
   ·refine JQ (hj _ _ ⟨rfl,_,rfl,λ_=>?_⟩)
    simp;omega
   ·exact hj _ _ ⟨rfl,_,rfl,λh=>absurd h omQ⟩
  rintro _ _ ⟨rfl,u,rfl,hu⟩;dsimp only;have hp:∀{K:AV→Go.Ae.R} {Q:AV→AH→Prop},(∀b:Bool,(b=true↔(js.length<ws.length∧js.length<2))→wp (K (.bool b)) Q)→wp (QW (.bool (decide ((js.length:Int)<(ws.length:Int)))) u (.bool false) K) Q:=λ{K Q} hw=>by
   by_cases c1:js.length<ws.length
   ·rw[iG (show(js.length:Int)<(ws.length:Int) by omega),hu c1];exact qB (hw _ ⟨λh=>⟨c1,of_decide_eq_true h⟩,λh=>iG h.2⟩)
   ·rw[iV (show¬(js.length:Int)<(ws.length:Int) by omega)];exact qH (hw _ ⟨λh=>(by grind),λh=>absurd h.1 c1⟩)
  refine hp λbb sf=>?_;clear hp hu;cases bb with
  |false=>
   refine qJ ?_;obtain⟨us,uY,H8⟩:=aV.E H;have oj:=H8.one .here;have H7:=aV.I uY H8;refine qh (n:=1) (l:=[jv]) (sz:=1) H7 rfl rfl (by simp only[gH,vL,oj.1];rfl) (by simp[qt,oj.2]) λv2 h8 H9=>?_;obtain⟨zs,pW,HA⟩:=nY.E (H9.aM (P:=nY jss lv) e_2);refine zX HA (HA.sl e_2) omQ omQ (by simp[qt,oj.2]) λv3 h9 HB=>?_;refine qa omQ ?_;have ez:List.zipWith (λv js=>aV js v) (zs++[jv]) (jss++[js])=List.zipWith (λv js=>aV js v) zs jss++[aV js jv]:=by rw[List.zipWith_append pW];rfl
   have HC:=Xp (A:=List.zipWith (λv js=>aV js v) zs jss) (B:=[aV js jv]) (HB.sub (.cons e_1 (.cons e_2 .refl)));have HD:=nY.I (v:=v3) (jss:=jss++[js]) (vs:=zs++[jv]) (by grind) (by rw[ez,List.length_append];exact HC.sub (.cons e_1 (.cons .here .refl)));have oa:(jss++[js]).length=jss.length+1:=by simp
   refine bN (3-(jss.length+1)) _ _ omQ ⟨jss++[js],v3,?_,by omega,by omega,by simp,λy hy=>?_,HD.sub (.cons .here (.drop .refl))⟩
   all_goals grind
  |true=>
   obtain⟨d1,d2⟩:=sf.1 rfl;have oX:=P.len;have fB:ws[js.length]? =some ws[js.length]:=iW d1;have mK:Am[js.length]? =some (Am[js.length]'omQ):=iW omQ;refine qZ (zY (S0.cD H.cD) (x:=x) BC ?_);refine zY (S1.cD H.cD) (x:=ws[js.length]) fB ?_;refine qW (qvI (ks:=Am[js.length]'omQ) (calm:=calm) (most:=most) omQ (P.n _ (List.getElem_mem _)) hm H (Rd.arg (P.i _ _ _ fB mK))) ?_;rintro _ h7 ⟨pv,l,rfl,B,l5,WE,H7⟩;have op:=H7.one (e:=46) (sz:=5) (n:=l.length) .here;refine qh (n:=1) (l:=[pv]) (sz:=1) H7 rfl rfl (by rfl) (by simp[qt,op.2]) λv2 h8 H8=>?_;obtain⟨us,uY,H9⟩:=aV.E (H8.aM (P:=aV js jv) e_2);refine zX H9 (H9.sl e_2) omQ omQ (by simp[qt,op.2]) λv3 h9 HA=>?_;refine qa omQ ?_;have ez:List.zipWith xU (us++[pv]) (js++[l])=List.zipWith xU us js++[xU pv l]:=by rw[List.zipWith_append uY];rfl
   have HB:=Xp (A:=List.zipWith xU us js) (B:=[xU pv l]) (HA.sub (.cons e_1 (.cons e_2 .refl)));have HC:=aV.I (v:=v3) (js:=js++[l]) (vs:=us++[pv]) (by grind) (by rw[ez,List.length_append];exact HB.sub (.cons e_1 (.cons .here .refl)));have oa:(js++[l]).length=js.length+1:=by simp
   refine CJ (2-(js.length+1)) _ _ omQ ⟨js++[l],v3,?_,by omega,by omega,by simp,λy hy=>?_,HC.sub (.cons .here (.drop .refl))⟩
   ·simp
   ·rcases List.mem_append.1 hy with hy |hy
    ·grind
    ·rcases List.mem_cons.1 hy with rfl |hy
     ·exact⟨B,l5,WE⟩
     grind
theorem qG6 {β:Type} {P:α→β→Prop}:∀{xs:List α},(∀x∈xs,∃k,P x k)→∃ks:List β,xs.length=ks.length∧(∀(i:Nat) (x:α) (k:β),xs[i]? =some x→ks[i]? =some k→P x k)∧∀k∈ks,∃x∈xs,P x k:=by
 intro xs
 induction xs with
 |nil=>intro _;exact⟨[],rfl,λi x k h=>(by simp),λk h=>(by grind)⟩
 |cons y r ih=>
  intro H;obtain⟨k,hk⟩:=H y (iK ..);obtain⟨ks,h1,h2,h3⟩:=ih λx hx=>H x (iX _ hx);refine⟨k::ks,by grind,λi x z hx hz=>?_,λz hz=>?_⟩
  all_goals grind
theorem jV6 (H:WT Tryz.prog h (d+4) 81 [v]):∃p:List (List qR)×List AV,CG h v p.1 p.2:=by
 obtain⟨q,xs,S1,_,H1⟩:=Kf (sz:=1) Tryz.underlying81 (by rfl) omQ H;have hl:=S1.len;obtain rfl:q=xs.length:=by omega
 obtain⟨Am,h1,h2,h3⟩:=qG6 (xs:=xs) (P:=λ(x:AV) (ks:List qR)=>Sl (λb=>b<h.nx) h 5 ks.length x (ks.flatMap jM)∧∀y∈ks,0≤y.2.2.2.2∧y.2.2.2.2<18446744073709551616) λx hx=>by
  obtain⟨i,hi,rfl⟩:=List.mem_iff_getElem.1 hx;have:=H1 i omQ;rw[Nat.mul_one,List.drop_eq_getElem_cons hi]at this;obtain⟨ks,a,b⟩:=jZs (show WT Tryz.prog h (d+3) 83 [xs[i]]from this);grind
 exact⟨(Am,xs),h1,S1,λi x ks hx hk=>(h2 i x ks hx hk).1,λks hk=>(h3 ks hk).elim λ_ z=>z.2.2⟩
theorem qGu (H:WT Tryz.prog h (d+5) 25 [v]):∃(T:List (List (List qR)×List AV)) (vs:List AV),CH h v T vs:=by
 obtain⟨q,xs,S1,_,H1⟩:=Kf (sz:=1) Tryz.underlying25 (by rfl) omQ H;have hl:=S1.len;obtain rfl:q=xs.length:=by omega
 obtain⟨T,h1,h2,_⟩:=qG6 (xs:=xs) (P:=λ(x:AV) (p:List (List qR)×List AV)=>CG h x p.1 p.2) λx hx=>by
  obtain⟨i,hi,rfl⟩:=List.mem_iff_getElem.1 hx;have:=H1 i omQ;rw[Nat.mul_one,List.drop_eq_getElem_cons hi]at this;exact jV6 (show WT Tryz.prog h (d+4) 81 [xs[i]]from this)
 exact⟨T,xs,h1,S1,h2⟩
end
section
variable {g:AH} {L R:List SP}
structure CK (s:jz):Prop where
  words:32≤s.words∧s.words≤80
  ae:1≤s.ae∧s.ae≤16
  wide:1≤s.wide∧s.wide≤4
  ag:s.ag=0
  start:0≤s.start∧s.start<1000
  af:0≤s.af∧s.af≤4
  writes:4≤s.writes∧s.writes≤40
  fuel:20≤s.fuel∧s.fuel≤120
theorem jJU (hn:2≤n) {w t:Int} (ht:0≤t∧t<18446744073709551616) (H:HS g h R) :
  aH n 6 [.agg [.int .i64 w,.int .i64 st,.int .i64 wi,.int .i64 sp,.int .i64 wr,.int .i64 fu,.int .u64 t]] h λr h'=>∃s,r=.agg (vR s)∧CK s∧HS g h' R:=by
 refine aG (S:=S6) rfl omQ λk hk=>?_;unfold S6;try simp only[iZ]
 refine qM H rfl λb0 h1 H1=>?_;refine qM H1 rfl λb1 h2 H2=>?_;have e1:=ww (x:=sp) (lo:=((0:Nat):Int)) (hi:=((4:Nat):Int)) omQ;have e2:=ww (x:=wr) (lo:=((4:Nat):Int)) (hi:=((40:Nat):Int)) omQ;have e3:=ww (x:=fu) (lo:=((20:Nat):Int)) (hi:=((120:Nat):Int)) omQ;have e4:=ww (x:=w) (lo:=((32:Nat):Int)) (hi:=((80:Nat):Int)) omQ;have e5:=ww (x:=st) (lo:=((1:Nat):Int)) (hi:=((16:Nat):Int)) omQ;have e6:=ww (x:=wi) (lo:=((1:Nat):Int)) (hi:=((4:Nat):Int)) omQ;refine qX ?_
 try dsimp only
 refine qQ (qK H2 (b:=b0) e_1 rfl ?_);refine qW (xV omQ omQ omQ omQ) ?_;rintro _ _ ⟨rfl,rfl⟩;refine qQ (qK H2 (b:=b0) e_1 rfl ?_);refine qW (xV omQ omQ omQ omQ) ?_;rintro _ _ ⟨rfl,rfl⟩;refine qQ (qK H2 (b:=b0) e_1 rfl ?_);refine qW (xV omQ omQ omQ omQ) ?_;rintro _ _ ⟨rfl,rfl⟩;generalize zQ sp ((0:Nat):Int) ((4:Nat):Int)=Ig at*;generalize zQ wr ((4:Nat):Int) ((40:Nat):Int)=Ih at*;generalize zQ fu ((20:Nat):Int) ((120:Nat):Int)=Ii at*;refine qI (l:=[.int .i64 0,.int .i64 0,.int .i64 0,.int .i64 0,.int .u64 0,.int .i64 Ig,.int .i64 Ih,.int .i64 Ii]) rfl ?_;refine qM H2 rfl λb2 h3 H3=>?_;refine qe H3 (b:=b2) .here rfl (by simp) rfl λh4 H4=>?_
 have H4:HS g h4 (qk b2 [.int .i64 0,.int .i64 0,.int .i64 0,.int .i64 0,.int .u64 0,.int .i64 Ig,.int .i64 Ih,.int .i64 Ii]::qk b1 [.int .i64 0,.int .i64 0,.int .i64 0,.int .i64 0,.int .u64 0,.int .i64 0,.int .i64 0,.int .i64 0]::
  qk b0 [.int .i64 w,.int .i64 st,.int .i64 wi,.int .i64 sp,.int .i64 wr,.int .i64 fu,.int .u64 t]::R):=H4
 refine qT H2 e_1 rfl H2 e_1 rfl (HS.lt H2 e_1) ?_;refine qT H2 e_1 rfl H2 e_1 rfl (HS.lt H2 e_1) ?_;refine qT H2 e_1 rfl H2 e_1 rfl (HS.lt H2 e_1) ?_;refine qX ?_
 try dsimp only
 refine qQ (qK H4 (b:=b0) e_2 rfl ?_);refine qW (xV omQ omQ omQ omQ) ?_;rintro _ _ ⟨rfl,rfl⟩;refine qQ (qK H4 (b:=b0) e_2 rfl ?_);refine qW (xV omQ omQ omQ omQ) ?_;rintro _ _ ⟨rfl,rfl⟩;refine qQ (qK H4 (b:=b0) e_2 rfl ?_);refine qW (xV omQ omQ omQ omQ) ?_;rintro _ _ ⟨rfl,rfl⟩;refine qQ (qK H4 (b:=b0) e_2 rfl ?_);refine QD od ?_;generalize zQ w ((32:Nat):Int) ((80:Nat):Int)=w' at*;generalize zQ st ((1:Nat):Int) ((16:Nat):Int)=st' at*;generalize zQ wi ((1:Nat):Int) ((4:Nat):Int)=L9 at*;have Fu:0≤t.tmod ((1000:Nat):Int)∧t.tmod ((1000:Nat):Int)<1000:=by grind
 generalize t.tmod ((1000:Nat):Int)=t' at*;refine qI (l:=[.int .i64 w',.int .i64 st',.int .i64 L9,.int .i64 0,.int .u64 t']) rfl ?_;refine qQ (qe H4 (b:=b2) .here rfl (by simp) rfl λh5 H5=>?_)
 have H5:HS g h5 (qk b2 (vR ⟨w',st',L9,0,t',Ig,Ih,Ii⟩)::qk b1 [.int .i64 0,.int .i64 0,.int .i64 0,.int .i64 0,.int .u64 0,.int .i64 0,.int .i64 0,.int .i64 0]::
  qk b0 [.int .i64 w,.int .i64 st,.int .i64 wi,.int .i64 sp,.int .i64 wr,.int .i64 fu,.int .u64 t]::R):=H5
 refine qT H4 e_2 rfl H4 e_2 rfl (HS.lt H4 e_2) ?_;refine qT H4 e_2 rfl H4 e_2 rfl (HS.lt H4 e_2) ?_;refine qT H4 e_2 rfl H4 e_2 rfl (HS.lt H4 e_2) ?_;refine qT H4 e_2 rfl H4 e_2 rfl (HS.lt H4 e_2) ?_;refine qT H4 e_2 rfl H4 e_2 rfl (HS.lt H4 e_2) ?_;refine qT H4 e_2 rfl H4 e_2 rfl (HS.lt H4 e_2) ?_;refine qD H5 (b:=b2) (off:=0) .here rfl omQ (l:=vR ⟨w',st',L9,0,t',Ig,Ih,Ii⟩) rfl ?_;refine qe H5 (b:=b1) e_1 rfl (by simp) rfl λh6 H6=>?_;refine qD H6 (b:=b1) (off:=0) .here rfl omQ (l:=vR ⟨w',st',L9,0,t',Ig,Ih,Ii⟩) rfl ?_;exact qY ⟨_,rfl,⟨by omega,by omega,by omega,rfl,Fu,by omega,by omega,by omega⟩,H6.drop.drop.drop⟩
end
namespace machineGoes
variable {g:AH} {L R:List SP}
abbrev Pa:Type:=Int×Int×Int
def x7 (x:Pa):List AV:=[.int .i64 x.1,.int .u8 x.2.1,.int .i64 x.2.2]
theorem Nc {sz:Nat} {enc:α→List AV} (he:∀a,(enc a).length=sz) {l:List α} {f:Nat} {a:α} (h:l[i]? =some a) (hf:f<sz):(l.flatMap enc)[i*sz+f]? =(enc a)[f]?:=by rw[← vP he h,List.getElem?_take_of_lt hf,List.getElem?_drop]
theorem qvd {r:yr} (h:rs[i]? =some r):((rs.take (i+1)).filter gX).length=((rs.take i).filter gX).length+if gX r=true then 1 else 0:=by
 rw[List.take_add_one,h,Option.toList_some,List.filter_append,List.length_append];grind
theorem jVi:((rs.take i).filter gX).length≤i:=by grind
theorem Kh {b:Nat} {m:zl} (hn:17≤n) (MO:Vg m) (MP:n7 m) (tT:(yL m).length≤900000) (hb:m.t.length≤4) (H:HS g h (cq b m::R)) :
  aH n 11 [.ptr b 0] h λr h'=>r=.int .i64 (vZ m:Int)∧HS g h' (cq b m::R):=by
 refine aG (S:=S11) rfl omQ λk hk=>?_;unfold S11;try simp only[iZ]
 refine qW (MQ omQ (λt ht=>by
  obtain⟨i,hi⟩:=List.getElem?_of_mem ht
  exact⟨(MO.t i t hi).1,MP t ht⟩) tT hb H) ?_
 intro v h1 H0;obtain⟨zs,ez,H1⟩:=bn.E H0;clear H0;rw[← jZ9];generalize Ba:yL m=rs at*;have lz:zs.length=rs.length:=by grind
 refine jS (λc s h'=>∃i:Nat,s=(.int .i64 (i:Int),.int .i64 (((rs.take i).filter gX).length:Int),v,())∧i≤zs.length∧c=zs.length-i∧h'=h1) ?_ (m:=zs.length) (by grind) ⟨0,rfl,Nat.zero_le _,rfl,rfl⟩;rintro c ih s h3 bN ⟨i,rfl,hi,rfl,rfl⟩;dsimp only;refine qu H1 (sz:=14) (n:=zs.length) (v:=v) .here ?_;by_cases ax:i<zs.length
 rotate_left
 ·refine jH omQ (qJ (qx (qY ⟨?_,H1.drop.drop⟩)));grind
 refine jc omQ (qZ (qX ?_))
 try dsimp only
 have hz:zs[i]? =some zs[i]:=iW ax;have hr:rs[i]? =some zs[i].1:=by grind
 have rU:=qvd hr;have fF:=jVi (rs:=rs) (i:=i);have e4:(zs.flatMap λz=>xc z.1 z.2)[i*14+4]? =some (.int .i64 zs[i].1.kind):=Nc (sz:=14) (enc:=λz:yr×J7=>xc z.1 z.2) (λ_=>rfl) hz omQ;have e9:(zs.flatMap λz=>xc z.1 z.2)[i*14+9]? =some (.int .i64 zs[i].1.ended):=Nc (sz:=14) (enc:=λz:yr×J7=>xc z.1 z.2) (λ_=>rfl) hz omQ;generalize zs[i].1=r at*;have lP:∀k:Nat,k=((rs.take i).filter gX).length+(if gX r=true then 1 else 0)→wp (zB .add (.int .i64 (i:Int)) (.int .i64 ((1:Nat):Int)) λz=>ih (z,.int .i64 (k:Int),v,()) h3 []) (λr h'=>r=.int .i64 ((rs.filter gX).length:Int)∧HS g h' (cq b m::R)):=λk hk=>by
  refine qa omQ ?_;refine bN (zs.length-(i+1)) _ _ omQ ⟨i+1,?_,by omega,rfl,rfl⟩;grind
 have SL:=H1.sl (v:=v) (xs:=zs.flatMap λz=>xc z.1 z.2) .here;refine yo SL omQ ax e9 ?_;by_cases c0:r.ended>0
 ·refine yc c0 ?_;refine qX (qb ?_);refine yo SL omQ ax e4 ?_;by_cases c2:r.kind=2
  ·refine qz c2 ?_;refine qX (jG (qX (qb (qB (qB (qZ ?_))))));refine qa omQ ?_;exact lP (((rs.take i).filter gX).length+1) (by simp[gX];omega)
  ·refine qV c2 ?_;refine qX (qp ?_);refine yo SL omQ ax e4 ?_;by_cases c4:r.kind=4
   ·refine qz c4 ?_;refine qX (qb (qH (qB (qZ ?_))));refine qa omQ ?_;exact lP (((rs.take i).filter gX).length+1) (by simp[gX];omega)
   ·refine qV c4 ?_;refine qX (qb (qH (qB (qJ ?_))));exact lP _ (by rw[iQ (show¬gX r=true from λh=>by have:=of_decide_eq_true h;omega)];rfl)
 ·refine yj c0 ?_;refine qX (qS (qX (ze (qX (qS (qH (qJ ?_)))))));exact lP _ (by rw[iQ (show¬gX r=true from λh=>by have:=of_decide_eq_true h;omega)];rfl)
theorem qk1:NQ (vu s aD)=0:=by
 unfold NQ vu;dsimp only;generalize(jO { s with ag:=(aD.take 4).length })=S;generalize List.range S.ag.toNat=l
 induction l with
 |nil=>rfl
 |cons a l ih=>have e:∀js:List (List qR),(Uc (a:Int) S js).ao=[]:=λjs=>(yS _).ao;grind
theorem qyp (h:aD.length≤3):1≤(vu s aD).t.length∧(vu s aD).t.length≤3:=by
 have e:(vu s aD).t.length=(Qv ((aD.take 4).length:Int) 1 4).toNat:=by unfold vu;dsimp only;rw[List.length_map,List.length_range];rfl
 grind[List.length_take,Qv]
theorem qzt (h:s.words≤80):(vu s aD).s.words≤80:=by show Qv s.words 32 256≤80;grind[Qv]
theorem MW {a b:Nat} (_:0<b):((a:Int)).tmod (b:Int)=((a%b:Nat):Int):=by rfl
theorem law {k0:Nat} (hk:50≤k0) {w t:Int} {a1 a2 a3:AV} {pk rs:List Pa} (ht:0≤t∧t<18446744073709551616) (A:CH h a1 T vs)
  (SK:Sl (λb=>b<h.nx) h 3 pk.length a2 (pk.flatMap x7)) (FU:∀x∈pk,0≤x.2.1∧x.2.1<256) (SR:Sl (λb=>b<h.nx) h 3 rs.length a3 (rs.flatMap x7)) (Ba:∀x∈rs,0≤x.2.1∧x.2.1<256) :
  wp ((eh S3) (ki 4 (callT tab qj k0)) [.agg [.int .i64 w,.int .i64 st,.int .i64 wi,.int .i64 sp,.int .i64 wr,.int .i64 fu,.int .u64 t],a1,a2,a3] h) λv _=>v=.bool true:=by
 show wp (S3 (ki _ (callT tab qj _)) _ _ _ _ _).1 _;unfold S3
 try simp only[ iZ]
 refine qM (HS.nil h) rfl λb0 h1 H1=>?_;refine jK4 (jR (qJ ?_));refine qD H1 (b:=b0) (off:=0) .here rfl omQ (l:=[.int .i64 w,.int .i64 st,.int .i64 wi,.int .i64 sp,.int .i64 wr,.int .i64 fu,.int .u64 t]) rfl ?_;refine yD od (jJU omQ ht H1) ?_;rintro _ h2 ⟨s,rfl,K,H2⟩;refine yD od (qZh (calm:=false) (most:=((14:Nat):Int)) omQ omQ A H2) ?_;rintro lv h3 ⟨jss,Rj,Av,Ie,H3⟩;have nK:∀js∈jss,∀l∈js,(xO l).2=0∧Quiet l:=λjs A7 l hl=>((Ie js A7).2 l hl).BG omQ;refine yD od (qz4 (s:=s) (jss:=jss) omQ K.start.1 (λjs A7=>⟨by grind,nK js A7⟩) omQ H3) ?_;rintro _ h4 ⟨mb,rfl,H4⟩;have WG:=qyp (s:=s) Rj;have hw8:(vu s jss).s.words≤80:=qzt K.words.2;have W0:tO (vu s jss).t.length (vu s jss).s (vu s jss):=⟨⟨⟨_,_,jXf K.start.1 nK⟩,Int.le_refl 0,rfl⟩,jXS K.start.1 nK,n7.new,rfl,by rw[qk1];exact Int.le_refl 0⟩;have hp0:(vu s jss).aA=0:=rfl;generalize(vu s jss).s=S0 at*;generalize vu s jss=m0 at*;refine Vb (qJ ?_);refine yD od (Oz omQ H4) ?_;rintro _ _ ⟨rfl,rfl⟩;refine jH omQ ?_;refine qX ?_
 try dsimp only
 refine qp (yj omQ (qH (qJ ?_)));have HN:HS h _ [cq mb m0]:=H4.sub (.cons .here (.drop (.drop .refl)));generalize hn:m0.t.length=n at*;clear H1 H2 H3 H4;refine jS (λc q h'=>∃(i:Nat) (m:zl),q=(.int .i64 (i:Int),.int .i64 (n:Int),.ptr mb 0,a3,a2,())∧i≤pk.length∧i≤40∧c=40-i∧tO n S0 m∧m.aA≤31*i∧HS h h' [cq mb m])
  ?_ (m:=40) od ⟨0,m0,rfl,Nat.zero_le _,Nat.zero_le _,rfl,W0,by omega,HN⟩
 clear HN W0 hp0 hn;rintro c ih q h6 bN ⟨i,m,rfl,mN,WH,rfl,W,Ee,H⟩;dsimp only;refine yy (SK.cD H.cD) ?_;refine JQ (UI (λz g'=>g'=h6∧∃u:AV,z=(u,.bool (decide ((i:Int)<(pk.length:Int))),.int .i64 (i:Int),.int .i64 (n:Int),.ptr mb 0,a3,a2,())∧(i<pk.length→u=.bool (decide (i<40)))) (λj hj=>?_) ?_)
 ·refine Rz (λc1=>?_) (λc1=>?_)
  ·refine JQ (hj _ _ ⟨rfl,_,rfl,λ_=>?_⟩)
   simp;omega
  ·exact hj _ _ ⟨rfl,_,rfl,λh=>absurd h omQ⟩
 rintro _ _ ⟨rfl,u,rfl,hu⟩;dsimp only;have hp:∀{K:AV→Go.Ae.R} {Q:AV→AH→Prop},(∀b:Bool,(b=true↔(i<pk.length∧i<40))→wp (K (.bool b)) Q)→wp (QW (.bool (decide ((i:Int)<(pk.length:Int)))) u (.bool false) K) Q:=λ{K Q} hw=>by
  by_cases c1:i<pk.length
  ·rw[iG (show(i:Int)<(pk.length:Int) by omega),hu c1];exact qB (hw _ ⟨λh=>⟨c1,of_decide_eq_true h⟩,λh=>iG h.2⟩)
  ·rw[iV (show¬(i:Int)<(pk.length:Int) by omega)];exact qH (hw _ ⟨λh=>(by grind),λh=>absurd h.1 c1⟩)
 refine hp λbb sf=>?_;clear hp hu;have mD:=W.I.n;cases bb with
 |true=>
  obtain⟨c1,c2⟩:=sf.1 rfl;clear sf;refine qZ ?_;have tU:pk[i]? =some pk[i]:=iW c1;have hw9:=ww (x:=pk[i].2.2) (lo:=((0:Nat):Int)) (hi:=((30:Nat):Int)) omQ;have TR:=FU _ (List.getElem_mem c1);have e0:(pk.flatMap x7)[i*3+0]? =some (.int .i64 pk[i].1):=Nc (sz:=3) (λ_=>rfl) tU omQ;have e1:(pk.flatMap x7)[i*3+1]? =some (.int .u8 pk[i].2.1):=Nc (sz:=3) (λ_=>rfl) tU omQ;have e2:(pk.flatMap x7)[i*3+2]? =some (.int .i64 pk[i].2.2):=Nc (sz:=3) (λ_=>rfl) tU omQ;generalize pk[i]=x at*;obtain⟨xT,xD,xN⟩:=x;dsimp only at*;refine jS (λc q h'=>∃(k:Nat) (m:zl),q=(.int .i64 (k:Int),.int .i64 (i:Int),.int .i64 (n:Int),.ptr mb 0,a3,a2,())∧(k:Int)≤zQ xN ((0:Nat):Int) ((30:Nat):Int)+1∧c=31-k∧tO n S0 m∧m.aA≤31*i+k∧HS h h' [cq mb m])
   ?_ (m:=31) od ⟨0,m,rfl,by omega,rfl,W,by omega,H⟩
  clear H W Ee mD;rintro c ih2 q h6 CJ ⟨k,m,rfl,hk9,rfl,W,Ee,H⟩;dsimp only;refine yo (SK.cD H.cD) omQ c1 e2 ?_;refine yD od (xV omQ omQ omQ omQ) ?_;rintro _ _ ⟨rfl,rfl⟩;by_cases ax:(k:Int)≤zQ xN ((0:Nat):Int) ((30:Nat):Int)
  ·refine Jr ax (qZ ?_);refine qX ?_
   try dsimp only
   refine yo (SK.cD H.cD) omQ c1 e0 ?_;refine zL omQ ?_;have hwT:=ww (x:=xT) (lo:=((0:Nat):Int)) (hi:=(n:Int)-((1:Nat):Int)) omQ;refine yD od (xV omQ omQ omQ omQ) ?_;rintro _ _ ⟨rfl,rfl⟩;refine I6 (SK.cD H.cD) c1 λbb off PE _ dJ=>?_;refine qo (Xy ((dJ 1 omQ).trans e1) ?_);obtain⟨ti,hti⟩:∃ti:Nat,zQ xT ((0:Nat):Int) ((n:Int)-((1:Nat):Int))=(ti:Int):=⟨(zQ xT ((0:Nat):Int) ((n:Int)-((1:Nat):Int))).toNat,by omega⟩;rw[hti]at hwT ⊢;have mD:=W.I.n;have T4:ti<n:=by omega
   refine yD od (KO (i:=ti) (draw:=xD) omQ W.O omQ omQ omQ TR H) ?_;rintro _ h7 ⟨rfl,H7⟩;refine qYL ((dJ 1 omQ).trans e1) ((dJ 1 omQ).trans e1) PE ?_;clear dJ;obtain⟨W2,hpp⟩:=W.pick T4 TR.1;refine qa omQ ?_;exact CJ (31-(k+1)) _ _ omQ ⟨k+1,_,rfl,by omega,rfl,W2,by omega,H7⟩
  ·refine Xc ax (qJ ?_);refine qa omQ ?_;exact bN (40-(i+1)) _ _ omQ ⟨i+1,m,rfl,by omega,by omega,rfl,W,by omega,H⟩
 |false=>
  refine qJ ?_;clear bN ih sf;have tT:=W.all;refine yD od (Kh omQ W.O W.P omQ omQ H) ?_;rintro _ h7 ⟨rfl,H7⟩;have hp2:m.aA≤1240:=by omega
  clear H Ee mN WH tT mD
  refine jS (λc q h'=>∃(r:Nat) (mr:zl),q=(.int .i64 (r:Int),.int .i64 (vZ m:Int),.int .i64 (n:Int),.ptr mb 0,a3,())∧r≤72040∧c=200000-r∧mr=xd m (λk=>QC n (mg rs k)) r∧tO n S0 mr∧mr.aA≤1240+8*r∧
    (∀r',r'<r→vp (xd m (λk=>QC n (mg rs k)) r')=false)∧(∀r',r'<r→r'%16=15→¬vZ m<vZ (xd m (λk=>QC n (mg rs k)) (r'+1)))∧HS h h' [cq mb mr])
   ?_ (m:=200000) od ⟨0,m,rfl,Nat.zero_le _,rfl,rfl,W,by omega,λ_ h=>absurd h omQ,λ_ h=>absurd h omQ,H7⟩
  clear H7;rintro c ih q h8 bN ⟨r,mr,rfl,hr,rfl,WI,W2,Pb,hA,hB,H⟩;have mD:=W2.I.n;dsimp only;refine jc omQ ?_;refine qX ?_
  try dsimp only
  refine qb (yD od (VC omQ omQ H) ?_);rintro _ _ ⟨rfl,rfl⟩;cases rC:vp mr with
  |true=>refine jR (qB (qJ ?_));refine yD od (VC omQ omQ H) ?_;rintro _ _ ⟨rfl,rfl⟩;refine qx (qY ?_);rw[rC]
  |false=>
   refine je (qB (qZ ?_));refine qI rfl ?_;refine qM H rfl λbx h9 H9=>?_;refine qe H9 (b:=bx) .here rfl (by simp) rfl λhA1 DJ=>?_;have hx:=qWi Ba r;refine zv [] (λz g'=>z=(.ptr bx 0,.int .i64 (r:Int),.int .i64 (vZ m:Int),.int .i64 (n:Int),.ptr mb 0,a3,())∧HS h g' (qk bx (x7 (mg rs r))::[cq mb mr])) (λj hj=>?_) ?_
   ·refine yy (SR.cD DJ.cD) ?_;by_cases c0:0<rs.length
    ·refine yc omQ (qZ ?_);refine yy (SR.cD DJ.cD) ?_;refine QD omQ ?_;rw[MW c0];have hm:=Nat.mod_lt r c0;have hri:rs[r%rs.length]? =some rs[r%rs.length]:=iW hm;have ex:mg rs r=rs[r%rs.length]:=by grind[mg]
     refine xQ (SR.cD DJ.cD) hm omQ (l:=x7 (mg rs r)) (by rw[ex];exact vP (sz:=3) (enc:=x7) (λ_=>rfl) hri) ?_;refine qe DJ (b:=bx) .here rfl (by trivial) rfl λhA2 Pc=>?_;exact hj _ _ ⟨rfl,Pc⟩
    ·refine yj omQ (qJ ?_);have e0:rs=[]:=iA omQ;refine hj _ _ ⟨rfl,?_⟩;rw[e0];exact DJ
   clear DJ H9 H;rintro _ hA2 ⟨rfl,Pc⟩;dsimp only;have e2:kI mr ((QC n (mg rs r)).drop 0)=xd m (λk=>QC n (mg rs k)) (r+1):=by rw[WI];rfl
   have WJ:∀r',r'<r+1→vp (xd m (λk=>QC n (mg rs k)) r')=false:=λr' hr'=>by
    grind
   have fc:(∀r',r'<r+1→r'%16=15→¬vZ m<vZ (xd m (λk=>QC n (mg rs k)) (r'+1)))→r+1≤72040:=λCM=>jKA WG.2 WG.1 W.I (by rw[W.s];grind) Ba WJ CM
   have hB2:(r%16=15→¬vZ m<vZ (xd m (λk=>QC n (mg rs k)) (r+1)))→∀r',r'<r+1→r'%16=15→¬vZ m<vZ (xd m (λk=>QC n (mg rs k)) (r'+1)):=λhl r' hr' rq=>by
    grind
   clear hA hB WI;generalize hM2:xd m (λk=>QC n (mg rs k)) (r+1)=m2 at*;generalize mg rs r=x at*;obtain⟨ht1,Fu⟩:=WC WG.1 x;obtain⟨fB,hw2⟩:=Ia x;refine jS (λc q h'=>∃(k:Nat) (mk:zl),q=(.int .i64 (k:Int),.ptr bx 0,.int .i64 (r:Int),.int .i64 (vZ m:Int),.int .i64 (n:Int),.ptr mb 0,a3,())∧k≤n∧c=n-k∧tO n S0 mk∧mk.aA≤1240+8*r+k∧kI mk ((QC n x).drop k)=m2∧HS h h' (qk bx (x7 x)::[cq mb mk]))
    ?_ (m:=n) (by grind) ⟨0,mr,rfl,Nat.zero_le _,rfl,W2,by omega,e2,Pc⟩
   clear Pc e2 Pb mD rC;rintro c ih3 q eM Ij ⟨k,mk,rfl,hkn,rfl,gW3,Pb,e2,H⟩;have mD:=gW3.I.n;dsimp only;by_cases ax:k<n
   ·refine jc omQ (qZ ?_);refine qX ?_
    try dsimp only
    refine qo (qK H (b:=bx) .here (x:=.int .i64 x.1) rfl ?_);refine zL omQ ?_;refine yD od (xV omQ omQ omQ omQ) ?_;rintro _ _ ⟨rfl,rfl⟩;rw[ht1];refine qa omQ ?_;refine QD omQ ?_;rw[show((k:Int)+(tG n x:Int))=((k+tG n x:Nat):Int) by rfl,MW omQ];refine qo (qK H (b:=bx) .here (x:=.int .u8 x.2.1) rfl ?_);have iL:=Nat.mod_lt (k+tG n x) (show 0<n by omega);refine yD od (KO (i:=(k+tG n x)%n) (draw:=x.2.1) omQ gW3.O omQ omQ omQ hx (H.sub (.cons e_1 (.cons .here .refl)))) ?_;rintro _ dO ⟨rfl,mA⟩;refine qT (xs:=x7 x) (ys:=x7 x) H (b:=bx) .here (x:=.int .u8 x.2.1) rfl H .here rfl (HS.lt H .here) ?_;obtain⟨gW4,hpp⟩:=gW3.pick iL hx.1;rw[M9 (qWL ax)]at e2;refine qa omQ ?_;exact Ij (n-(k+1)) _ _ omQ ⟨k+1,_,rfl,by omega,rfl,gW4,by omega,e2,mA.sub (.cons e_1 (.cons .here .refl))⟩
   ·have WL:k=n:=by omega
    rw[WL]at e2;refine jH omQ (qJ ?_);clear Ij ih3;refine jS (λc q h'=>∃(j:Nat) (mj:zl),q=(.int .i64 (j:Int),.ptr bx 0,.int .i64 (r:Int),.int .i64 (vZ m:Int),.int .i64 (n:Int),.ptr mb 0,a3,())∧j≤wG x∧c=wG x-j∧tO n S0 mj∧mj.aA≤1240+8*r+n+j∧kI mj ((QC n x).drop (n+j))=m2∧HS h h' (qk bx (x7 x)::[cq mb mj]))
     ?_ (m:=wG x) (by grind) ⟨0,mk,rfl,Nat.zero_le _,rfl,gW3,by omega,e2,H⟩
    clear H e2 Pb mD gW3;rintro c ih4 q mP Ik ⟨j,mj,rfl,hjw,rfl,gW3,Pb,e2,H⟩;have mD:=gW3.I.n;dsimp only;refine qo (qK H (b:=bx) .here (x:=.int .i64 x.2.2) rfl ?_);refine yD od (xV omQ omQ omQ omQ) ?_;rintro _ _ ⟨rfl,rfl⟩;rw[fB];by_cases fQ:j<wG x
    ·refine jc omQ (qZ ?_);refine qX ?_
     try dsimp only
     refine qo (qK H (b:=bx) .here (x:=.int .i64 x.1) rfl ?_);refine zL omQ ?_;refine yD od (xV omQ omQ omQ omQ) ?_;rintro _ _ ⟨rfl,rfl⟩;rw[ht1];refine qo (qK H (b:=bx) .here (x:=.int .u8 x.2.1) rfl ?_);refine yD od (KO (i:=tG n x) (draw:=x.2.1) omQ gW3.O omQ omQ omQ hx (H.sub (.cons e_1 (.cons .here .refl)))) ?_;rintro _ dO ⟨rfl,mA⟩;refine qT (xs:=x7 x) (ys:=x7 x) H (b:=bx) .here (x:=.int .u8 x.2.1) rfl H .here rfl (HS.lt H .here) ?_;obtain⟨gW4,hpp⟩:=gW3.pick Fu hx.1;rw[M9 (jZ0 fQ)]at e2;refine qa omQ ?_;exact Ik (wG x-(j+1)) _ _ omQ ⟨j+1,_,rfl,by omega,rfl,gW4,by omega,e2,mA.sub (.cons e_1 (.cons .here .refl))⟩
    ·obtain rfl:j=wG x:=by omega
     refine jH omQ (qJ ?_);clear Ik ih4;rw[List.drop_of_length_le (by simp[qy5])]at e2;have e2:mj=m2:=e2;subst e2;have HM:HS h _ [cq mb mj]:=H.drop;refine QD omQ ?_;rw[show((r:Int)).tmod ((16:Nat):Int)=((r%16:Nat):Int)from MW omQ];by_cases rq:r%16=15
     ·refine qz omQ ?_;refine qX ?_
      try dsimp only
      refine qb ?_;have tT:=gW3.all;refine yD od (Kh omQ gW3.O gW3.P omQ omQ HM) ?_;rintro _ h13 ⟨rfl,Di⟩;by_cases BI:vZ m<vZ mj
      ·refine yc omQ (qB (qZ ?_));exact qx (qY rfl)
      ·refine yj omQ (qB (qJ ?_));have CM:=hB2 λ_=>BI;refine qa omQ ?_;exact bN (200000-(r+1)) _ _ omQ ⟨r+1,mj,rfl,fc CM,rfl,hM2.symm,gW3,by omega,WJ,CM,Di⟩
     ·refine qV omQ ?_;refine qX ?_
      try dsimp only
      refine qS (qH (qJ ?_));have CM:=hB2 λh=>absurd h rq;refine qa omQ ?_;exact bN (200000-(r+1)) _ _ omQ ⟨r+1,mj,rfl,fc CM,rfl,hM2.symm,gW3,by omega,WJ,CM,HM⟩
theorem qJa (H:WT Tryz.prog h (d+3) 26 [v]):∃pk:List Pa,Sl (λb=>b<h.nx) h 3 pk.length v (pk.flatMap x7)∧∀x∈pk,0≤x.2.1∧x.2.1<256:=by
 obtain⟨q,xs,S,_,H2⟩:=Kf (sz:=3) Tryz.underlying26 (by rfl) omQ H
 obtain⟨ks,g1,g3,rfl⟩:=qXd (α:=Pa) (Pr:=λx=>0≤x.2.1∧x.2.1<256) x7 S.len (λi hi=>by
  have:=H2 i hi;generalize(xs.drop (i*3)).take 3=row at this;unfold WT at this;simp only[Tryz.underlying40]at this;obtain⟨g1,g2⟩:=this;rw[show Tryz.prog.cellsOf 40=3 by rfl]at g1
  match row,g1 with
  |[x,y,z],_=>
   have f1:=g2 _ (iK ..);have f2:=g2 _ (iX _ (iK ..));have f3:=g2 _ (iX _ (iX _ (iK ..)));rw[show Tryz.prog.cellsOf 3=1 by rfl]at f1 f3;rw[show Tryz.prog.cellsOf 5=1 by rfl]at f2;unfold WT at f1 f2 f3;simp only[Tryz.underlying3,List.drop_zero,List.take_succ_cons,List.take_zero,List.drop_succ_cons]at f1 f3;simp only[Tryz.underlying5,List.drop_succ_cons,List.drop_zero,List.take_succ_cons,List.take_zero]at f2;obtain⟨a,ha,_⟩:=f1;obtain⟨b,hb,c5⟩:=f2;obtain⟨c,hc,_⟩:=f3;cases ha;cases hb;cases hc
   exact⟨(a,b,c),⟨c5.1,Int.lt_of_le_of_lt c5.2 od⟩,rfl⟩)
 grind
theorem told {l:List AV} (H:I4 Tryz.prog h 8 Tryz.f3.params.toList l):wp ((eh S3) (ki 4 (callT tab qj 60)) l h) λv _=>v=.bool true:=by
 have e:Tryz.f3.params.toList=[24,25,26,26]:=by rfl
 rw[e]at H;obtain⟨a0,a1,a2,a3,rfl,H0,H1,H2,H3⟩:=RA H;simp only[AQ,Tryz.underlying24,Tryz.underlying25,Tryz.underlying26]at H0 H1 H2 H3;obtain⟨T,vs,A⟩:=qGu H1;obtain⟨pk,SK,FU⟩:=qJa H2;obtain⟨rs,SR,Ba⟩:=qJa H3;obtain⟨xs,rfl,H0⟩:=H0;unfold WT at H0;simp only[Tryz.underlying24]at H0;obtain⟨g1,g2⟩:=H0;rw[show Tryz.prog.cellsOf 24=7 by rfl]at g1
 match xs,g1 with
 |[x0,x1,x2,x3,x4,x5,x6],_=>have f0:=g2 _ (iK ..);have f1:=g2 _ (iX _ (iK ..));have f2:=g2 _ (iX _ (iX _ (iK ..)));have f3:=g2 _ (iX _ (iX _ (iX _ (iK ..))));have f4:=g2 _ (iX _ (iX _ (iX _ (iX _ (iK ..)))));have f5:=g2 _ (iX _ (iX _ (iX _ (iX _ (iX _ (iK ..))))));have f6:=g2 _ (iX _ (iX _ (iX _ (iX _ (iX _ (iX _ (iK ..)))))));rw[show Tryz.prog.cellsOf 3=1 by rfl]at f0 f1 f2 f3 f4 f5;rw[show Tryz.prog.cellsOf 22=1 by rfl]at f6;simp only[List.drop_succ_cons,List.drop_zero,List.take_succ_cons,List.take_zero]at f0 f1 f2 f3 f4 f5 f6;unfold WT at f0 f1 f2 f3 f4 f5 f6;simp only[Tryz.underlying3]at f0 f1 f2 f3 f4 f5;simp only[Tryz.underlying22]at f6;obtain⟨y0,e0,_⟩:=f0;obtain⟨y1,e1,_⟩:=f1;obtain⟨y2,e2,_⟩:=f2;obtain⟨y3,e3,_⟩:=f3;obtain⟨y4,e4,_⟩:=f4;obtain⟨y5,e5,_⟩:=f5;obtain⟨y6,e6,e6'⟩:=f6;cases e0;cases e1;cases e2;cases e3;cases e4;cases e5;cases e6;exact law omQ ⟨e6'.1,Int.lt_of_le_of_lt e6'.2 od⟩ A SK FU SR Ba
end machineGoes
end Go.Proofs.YtemjbhdofokbhaaGreatDoor
