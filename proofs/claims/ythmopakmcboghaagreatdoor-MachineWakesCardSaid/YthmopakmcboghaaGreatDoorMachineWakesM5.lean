/- Lemmas for 'quietus/quietuslaw28.MachineWakes': A thread: by the program: its pauses, what it looks at;A thread: by the program: what it tells of an attempt, what follows when that has ended;A thread: by ... No condition. -/
import Derived.Test.YthmopakmcboghaaGreatDoorMachineWakesM4
import Derived.Test.YthmopakmcboghaaGreatDoorMachineWakesM1
import Derived.Test.YthmopakmcboghaaGreatDoorMachineWakesM2
import Derived.Test.YthmopakmcboghaaGreatDoorMachineWakesM3
namespace Go.Proofs.YthmopakmcboghaaGreatDoor
open Go Go.Ae
set_option maxRecDepth 100000
section
variable {g h:AH} {L R:List SP}
theorem qjl {i:Int} (h:0≤i):min (2*yX i) 8=yX (i+1):=by
 unfold yX
 repeat' split
 all_goals omega
theorem qzC {c:Int}:yX (min c 8)=yX c:=by
 unfold yX
 repeat' split
 all_goals omega
section
variable {n b:Nat} {t:qt} {q:Us}
theorem ThrB.next (B:ThrB t) (hj:t.au<t.jobs.length):ThrB { t with au:=t.au+1,aj:=false,ae:=[],ag:=0,aD:=0 }:=by have h1:=B.au;have h2:=B.ad;exact⟨B.set,B.me,B.jobs,B.jl,by show 0≤t.au+1∧t.au+1≤(t.jobs.length:Int);omega,by show t.ad.length+0≤9000*t.results.length;omega,B.ah,by show(0:Int)≤0∧(0:Int)≤(t.az.length:Int);omega,by show(0:Int)≤0∧(0:Int)≤0;omega,λ_=>rfl⟩
theorem ZP {draw:Int} (hn:12≤n) (B:ThrB t) (hg:t.ae.length≤1000000) (hd:0≤draw∧draw<256) (H:HS g h (aF b t::R)):aA n 84 [.ptr b 0,.int .u8 draw] h λ_ h'=>HS g h' (aF b (xQ t draw)::R):=by
 refine ba (S:=S84) rfl omQ λk hk=>?_;unfold S84;try simp only[iZ]
 obtain⟨q,H0⟩:=aF.E H;clear H;have hc:=B.aD;refine qK (qQ (qh (qX H0 (b:=b) .here rfl ?_)));refine zz ?_;refine jR (λc s h'=>∃i:Nat,s=(.int .i64 (i:Int),.int .i64 (min t.aD 8),.int .i64 (yX i),.int .u8 draw,.ptr b 0,())∧(i:Int)≤min t.aD 8∧c=(min t.aD 8).toNat-i∧h'=h)
  ?_ (m:=(min t.aD 8).toNat) (by show _<1000000000;omega) ⟨0,rfl,by omega,rfl,rfl⟩
 rintro c ih s _ bF ⟨i,rfl,hi,rfl,rfl⟩;dsimp only;by_cases ap:(i:Int)<min t.aD 8
 ·have hb:=KJ i;refine jH ap (qZ ?_);refine Mm omQ (zz (qU omQ ?_));refine bF ((min t.aD 8).toNat-(i+1)) _ _ omQ ⟨i+1,?_,by omega,rfl,rfl⟩;rw[show((2:Nat):Int)=2 from rfl,show((8:Nat):Int)=8 from rfl,qjl omQ]
  try rfl
 ·refine jz ap (qJ ?_);have DK:(i:Int)=min t.aD 8:=by omega
  rw[DK,qzC];have hb:=KJ t.aD;refine xV omQ (qU omQ (Jv omQ ?_));have em:draw.tmod (yX t.aD+((1:Nat):Int))=draw%(yX t.aD+1):=by rw[Int.tmod_eq_emod_of_nonneg hd.1];rfl
  rw[em];refine qK (qQ ?_);refine qw H0 (b:=b) .here ⟨rfl,rfl⟩ (by simp[yv]) λh1 H1=>?_;refine qK (qQ ?_);refine qw H1 (b:=b) .here ⟨rfl,rfl⟩ (by simp[yv]) λh2 H2=>?_;refine qK (qQ (qX H2 (b:=b) .here rfl ?_));unfold xQ;have H3:HS g h2 (aF b { t with aV:=draw%(yX t.aD+1),state:=3 }::R):=aF.I (q:=q) H2;by_cases c0:draw%(yX t.aD+1)=0
  ·rw[iJ c0];refine qk c0 (qZ ?_);rw[c0]at H3;exact qG (QN (t:={ t with aV:=0,state:=3 }) omQ ⟨B.set,B.me,B.jobs,B.jl,B.au,B.ad,B.ah,B.ag,B.aD,B.mh⟩ hg H3) λ_ h4 H4=>qx (qY H4)
  ·rw[iQ c0];exact qj c0 (qJ (qx (qY H3)))
theorem qVR (hn:12≤n) (O:yZ t) (H:HS g h (aF b t::R)):aA n 28 [.ptr b 0] h λ_ h'=>HS g h' (aF b (jc t)::R):=by
 refine aB (S:=S28) rfl omQ λk hk=>?_;unfold S28;try simp only[iZ]
 obtain⟨q,H0⟩:=aF.E H;unfold jc;refine qK (qQ (qX H0 (b:=b) .here rfl ?_));by_cases c:t.state=3
 ·rw[iJ c];have B:=O.b;have hp:=O.He c;have hl:=B.len (by have:=O.iM;split at this<;>omega);refine jJ c (qJ ?_);refine qK (qQ (qX H0 (b:=b) .here rfl ?_));refine zB omQ ?_;refine qK (qQ ?_);refine qw H0 (b:=b) .here ⟨rfl,rfl⟩ (by simp[yv]) λh1 H1=>?_;refine qK (qQ (qX H1 (b:=b) .here rfl ?_));have H3:HS g h1 (aF b { t with aV:=t.aV-1 }::R):=aF.I (q:=q) H1;by_cases c0:t.aV-1=0
  ·rw[iJ c0];refine qk c0 (qZ ?_);rw[c0]at H3;exact qG (QN (t:={ t with aV:=0 }) omQ ⟨B.set,B.me,B.jobs,B.jl,B.au,B.ad,B.ah,B.ag,B.aD,B.mh⟩ (by show t.ae.length≤_;omega) H3) λ_ h4 H4=>qY H4
  ·rw[iQ c0];exact qj c0 (qJ (qY H3))
 ·rw[iQ c];exact jQ c (qZ (qY H))
theorem PE (hn:13≤n) (C:wN t) (hs:t.ah.length≤5) (dP:t.aj=false) (hr:t.ad.length≤1000000) (H:HS g h (aF b t::R)):aA n 92 [.ptr b 0] h λ_ h'=>HS g h' (aF b (vo t)::R):=by
 refine aB (S:=S92) rfl omQ λk hk=>?_;unfold S92;try simp only[iZ]
 obtain⟨q,H0⟩:=aF.E H;unfold vo;refine jm [] (λs h'=>s=(.ptr b 0,())∧HS g h' (aF b (if(t.ah.length:Int)=t.me then{ t with ah:=t.ah++[0] }else t)::R)) (λj hj=>?_) ?_
 ·refine qK (qQ (qX H0 (b:=b) .here rfl ?_));refine qm H0 (n:=t.ah.length) (v:=q.sv) e_7 ?_;refine qK (qQ (qX H0 (b:=b) .here rfl ?_));by_cases c:(t.ah.length:Int)=t.me
  ·refine qk c (qZ ?_);refine qK (qQ (qX H0 (b:=b) .here rfl ?_));refine qf (n:=1) (l:=[.int .u64 0]) (sz:=1) H0 rfl rfl rfl rfl λv2 h2 H2=>?_;refine ju (H2.aI (P:=qD 24 1 t.ah.length q.sv (t.ah.map (.int .u64))) e_8) (H2.sl .here) omQ omQ rfl λv3 h3 H3=>?_;have o3:=H3.one .here;refine qK (qQ ?_);refine qw H3 (b:=b) e_2 o3 (by simp[yv]) λh4 H4=>?_;refine hj _ _ ⟨rfl,?_⟩;rw[iJ c];refine aF.I (q:={ q with sv:=v3 }) ?_;have e:(t.ah++[(0:Int)]).length=t.ah.length+1:=by simp
   unfold Xo;rw[e,List.map_append];exact H4.sub (.cons .here (.cons e_2 (.cons e_2 (.cons e_2 (.cons e_2 (.cons e_2 (.cons e_2 (.cons .here (.drop .refl)))))))))
  ·exact qj c (qJ (hj _ _ ⟨rfl,by rw[iQ c];exact H⟩))
 ·clear H0 H;rintro _ h1 ⟨rfl,H⟩;have key:∀u:qt,u=(if(t.ah.length:Int)=t.me then{ t with ah:=t.ah++[0] }else t)→wN u∧u.aj=false∧u.ad=t.ad∧u.results=t.results∧u.ah.length≤6:=by
   rintro u rfl
   split
   ·have e:(t.ah++[(0:Int)]).length=t.ah.length+1:=by simp
    exact⟨C.go rfl rfl rfl rfl rfl rfl rfl (by show(t.ah++[(0:Int)]).length≤6;omega) C.ag C.aD rfl rfl,dP,rfl,rfl,by show(t.ah++[(0:Int)]).length≤6;omega⟩
   ·exact⟨C,dP,rfl,rfl,by omega⟩
  have key:=key _ rfl;generalize(if(t.ah.length:Int)=t.me then{ t with ah:=t.ah++[0] }else t)=u at*;obtain⟨CU,hus,Hj,hue,DR⟩:=key;dsimp only;obtain⟨q,H0⟩:=aF.E H;refine qK (qQ (qX H0 (b:=b) .here rfl ?_));refine qm H0 (n:=u.ah.length) (v:=q.sv) e_7 ?_;refine qK (qQ (qh (qh (qX H0 (b:=b) .here rfl ?_))));unfold wy;by_cases c:(u.ah.length:Int)<u.set.aa
  ·rw[iJ c];exact jH c (qZ (qx (qY H)))
  ·rw[iQ c];refine jz c (qJ ?_);refine qK (qQ (qX H0 (b:=b) .here rfl ?_));refine qK (qQ (qX H0 (b:=b) .here rfl ?_));have H1:=H0.aI (P:=dc q.lb u.ad) e_6;refine qG (qzR (sl:=u.ah) omQ omQ (by rw[Hj];exact hr) H1 (H1.drop.rd (e:=24) (sz:=1) (n:=u.ah.length) e_6)) ?_;intro v h2 H2;have sd:=CU.ad;have hg:=CU.mh hus;have hf:=Zq (λr:KG=>jX u.ah r.2) u.ad;refine qm H2 .here ?_;by_cases c0:(u.ad.filter λr=>jX u.ah r.2)=[]
   ·rw[iJ c0];refine qk (by rw[c0];rfl) (qZ ?_);have H3:=aF.I (b:=b) (t:={ u with ad:=u.ad.filter λr=>!jX u.ah r.2 }) (q:=q) (H2.sub (.cons e_2 (.cons e_2 (.cons e_2 (.cons e_2 (.cons e_2 (.cons e_2 (.cons e_1 (.cons e_1 (.drop .refl))))))))));have B2:ThrB { u with ad:=u.ad.filter λr=>!jX u.ah r.2 }:=⟨CU.set,CU.me,CU.jobs,CU.jl,CU.au,by show(u.ad.filter λr=>!jX u.ah r.2).length+u.ae.length≤9000*u.results.length;omega,DR,CU.ag,CU.aD,CU.mh⟩;exact qG (wc omQ (B2.next CU.lt) H3) λ_ h4 H4=>qx (qY H4)
   ·rw[iQ c0];refine qj (λh0=>c0 (iA omQ)) (qJ ?_);have o2:=H2.one .here;refine qL (l:=[.bool true,v,.int .i64 0,.int .i64 0]) (by simp only[xT,o2.1];rfl) ?_;refine qK (qQ ?_);refine qd H2 (b:=b) e_2 rfl (by simp[yv]) (by simp only[ql,AV.cells,List.all_cons,o2.2];rfl) λh3 H3=>?_;have H4:=aF.I (b:=b) (t:={ u with ad:=u.ad.filter (λr=>!jX u.ah r.2),aj:=true,ae:=u.ad.filter (λr=>jX u.ah r.2),ag:=0,aD:=0 }) (q:={ q with gv:=v }) (H3.sub (.cons .here (.cons e_2 (.cons .here (.cons e_2 (.cons e_2 (.cons e_2 (.cons .here (.cons e_1 (.drop .refl))))))))));refine qG (QN (t:={ u with ad:=u.ad.filter (λr=>!jX u.ah r.2),aj:=true,ae:=u.ad.filter (λr=>jX u.ah r.2),ag:=0,aD:=0 }) omQ ⟨CU.set,CU.me,CU.jobs,CU.jl,CU.au,?_,DR,by show(0:Int)≤0∧(0:Int)≤(List.length _:Int);omega,by show(0:Int)≤0∧(0:Int)≤0;decide,λh=>by cases h⟩ (by show(u.ad.filter λr=>jX u.ah r.2).length≤1000000;rw[Hj]at hf;rw[Hj];omega) H4) λ_ h4 H4=>qx (qY H4);show(u.ad.filter λr=>!jX u.ah r.2).length+(u.ad.filter λr=>jX u.ah r.2).length≤9000*u.results.length;omega
end
end
section
variable {g h:AH} {L R:List SP}
section
variable {n a b:Nat} {t:qt} {q:Us} {x:q9}
abbrev cy (a b:Nat) (t:qt) (x:q9) (q:Us) (R:List SP):List SP :=
 aE a x::qy b (yv t { q with nv:=.ptr a 0 })::aW t.jobs q.jv::qD 150 2 t.ae.length q.gv (t.ae.flatMap jT)::dV t.az q.pv::qD 46 4 t.results.length q.rv (t.results.flatMap Jb)::dc q.lb t.ad::qD 24 1 t.ah.length q.sv (t.ah.map (.int .u64))::R
theorem cy.I (hx:t.now=some x) (H:HS g h (cy a b t x q R)):HS g h (aF b t::R):=by refine aF.I (q:={ q with nv:=.ptr a 0 }) ?_;have H1:=ig.I H;unfold Xo;rw[hx];exact H1.sub (.cons e_1 (.cons e_1 (.cons e_1 (.cons .here .refl))))
theorem aF.V (hx:t.now=some x) (H:HS g h (aF b t::R)):∃a q,HS g h (cy a b t x q R):=by
 obtain⟨q,H0⟩:=aF.E H;unfold Xo at H0;rw[hx]at H0;obtain⟨a,e,H1⟩:=ig.E (H0.aI (P:=ig (some x) q.nv) e_3);have eq:{ q with nv:=.ptr a 0 }=q:=by rw[← e]
 refine⟨a,q,?_⟩;unfold cy;rw[eq];exact H1
theorem Y8 {a:Nat} (hn:1≤n) (H:HS g h L) (s:bc L (aE a x) R):aA n 54 [.ptr a 0] h λr h'=>r=.int .i64 (jq x)∧h'=h:=by obtain⟨q,H1⟩:=aE.E (H.aI s);exact PA hn H1 .here
theorem Hk {a:Nat} (hn:1≤n) (H:HS g h L) (s:bc L (aE a x) R):aA n 83 [.ptr a 0] h λr h'=>r=.int .i64 (wE x)∧h'=h:=by obtain⟨q,H1⟩:=aE.E (H.aI s);exact qk7 hn H1 .here
theorem PF {a:Nat} (hn:1≤n) (H:HS g h L) (s:bc L (aE a x) R):aA n 86 [.ptr a 0] h λr h'=>r=.int .i64 (xB x)∧h'=h:=by obtain⟨q,H1⟩:=aE.E (H.aI s);exact qzm hn H1 .here
theorem UK {a:Nat} (hn:1≤n) (H:HS g h L) (s:bc L (aE a x) R):aA n 88 [.ptr a 0] h λr h'=>r=.int .u64 x.af∧h'=h:=by obtain⟨q,H1⟩:=aE.E (H.aI s);exact qZo hn H1 .here
theorem KD {a:Nat} (hn:1≤n) (H:HS g h L) (s:bc L (aE a x) R):aA n 52 [.ptr a 0] h λr h'=>r=.bJ [.int .u64 x.cw,.bool x.begun]∧h'=h:=by obtain⟨q,H1⟩:=aE.E (H.aI s);exact qX8 hn H1 .here
theorem qzN {pick:Int} (hn:12≤n) (O:ze x) (H:HS g h (cy a b t x q R)):aA n 65 [.ptr b 0,.int .i64 pick] h λr h'=>
  ∃z:Aq,r=.agg (Yt (jM t x pick) z)∧HS g h' (Mn (jM t x pick) z++cy a b t x q R):=by
 refine ba (S:=S65) rfl omQ λk hk=>?_;unfold S65;try simp only[iZ]
 refine qI H rfl λv0 h1 H1=>?_;refine qK (qQ (qX H1 (b:=b) e_2 rfl ?_));refine qG (KD omQ H1 e_1) ?_;rintro _ _ ⟨rfl,rfl⟩;refine qB rfl (qB rfl ?_);refine qG (Y8 omQ H1 e_1) ?_;rintro _ _ ⟨rfl,rfl⟩;refine jm [] (λs h'=>s=(.int .i64 (if zm x=true then 2 else jq x),.int .u64 x.cw,.ptr a 0,.ptr v0 0,.int .i64 pick,.ptr b 0,())∧HS g h' (aE a x::qy v0 [.int .i64 0,.int .i64 0,.int .i64 0,.bool false,.int .i64 0,.int .i64 0,.int .u64 0,.int .u64 0,.int .i64 0,.int .i64 0,.ak,.ak,.ak,.str []]::qy b (yv t { q with nv:=.ptr a 0 })::(cy a b t x q R).drop 2)) (λj hj=>?_) ?_
 ·refine qG (JI omQ O.c (H1.aI (P:=aE a x) e_1)) ?_;rintro _ h2 ⟨rfl,H2⟩;cases hw:zm x with
  |true=>exact qZ (hj _ _ ⟨by rw[hw];rfl,H2⟩)
  |false=>exact qJ (hj _ _ ⟨by rw[hw];rfl,H2⟩)
 ·clear H H1;rintro _ nS ⟨rfl,bT⟩;dsimp only;refine qW ?_
  try dsimp only
  refine qK (qQ (qX bT (b:=b) e_2 rfl ?_));refine qK (qQ (qX bT (b:=b) e_2 rfl ?_));refine qK (qQ (qh (qX bT (b:=b) e_2 rfl ?_)));refine qK (qQ (qh (qX bT (b:=b) e_2 rfl ?_)));refine qG (PF omQ bT .here) ?_;rintro _ _ ⟨rfl,rfl⟩;refine qG (UK omQ bT .here) ?_;rintro _ _ ⟨rfl,rfl⟩;refine qK (qQ (qX bT (b:=b) e_2 rfl ?_));refine qG (qKE omQ O bT) λrv Ll pZ=>?_;refine qG (qZ7 omQ O (pZ.aI (P:=aE a x) e_1)) λcv Fu p8=>?_;refine qG (Ve omQ O (p8.aI (P:=aE a x) e_1)) ?_;rintro fv Lq ⟨fe,ra⟩;refine qG (VY omQ O (ra.aI (P:=aE a x) e_1)) ?_;rintro _ h48 ⟨rfl,sh⟩;have o1:=sh.one (v:=rv) e_3;have o2:=sh.one (v:=cv) e_2;have o3:=sh.one (v:=fv) e_1;refine qL (l:=Yt (jM t x pick) ⟨rv,cv,fe,fv⟩) (by simp only[xT,o1.1,o2.1,o3.1];rfl) ?_;refine qd sh (b:=v0) e_4 rfl (by show 0+14≤14;omega) (by simp only[ql,Yt,AV.cells,List.all_cons,o1.2,o2.2,o3.2];rfl) λLn PG=>?_;refine qb ra e_5 rfl sh e_5 rfl (HS.lt bT e_2) ?_;refine qb p8 e_4 rfl ra e_5 rfl (HS.lt bT e_2) ?_;refine qb pZ e_3 rfl p8 e_4 rfl (HS.lt bT e_2) ?_;refine qb bT e_2 rfl pZ e_3 rfl (HS.lt bT e_2) ?_;refine qb bT e_2 rfl bT e_2 rfl (HS.lt bT e_2) ?_;refine qb bT e_2 rfl bT e_2 rfl (HS.lt bT e_2) ?_;refine qb ra e_5 rfl sh e_5 rfl (HS.lt bT e_2) ?_;refine qb p8 e_4 rfl ra e_5 rfl (HS.lt bT e_2) ?_;refine qb pZ e_3 rfl p8 e_4 rfl (HS.lt bT e_2) ?_;refine qb bT e_2 rfl pZ e_3 rfl (HS.lt bT e_2) ?_;refine qb bT e_2 rfl bT e_2 rfl (HS.lt bT e_2) ?_;refine qb bT e_2 rfl bT e_2 rfl (HS.lt bT e_2) ?_;refine qb ra e_5 rfl sh e_5 rfl (HS.lt bT e_2) ?_;refine qb p8 e_4 rfl ra e_5 rfl (HS.lt bT e_2) ?_;refine qb pZ e_3 rfl p8 e_4 rfl (HS.lt bT e_2) ?_;refine qb bT e_2 rfl pZ e_3 rfl (HS.lt bT e_2) ?_;refine qb bT e_2 rfl bT e_2 rfl (HS.lt bT e_2) ?_;refine qb bT e_2 rfl bT e_2 rfl (HS.lt bT e_2) ?_;refine qb ra e_5 rfl sh e_5 rfl (HS.lt bT e_2) ?_;refine qb p8 e_4 rfl ra e_5 rfl (HS.lt bT e_2) ?_;refine qb pZ e_3 rfl p8 e_4 rfl (HS.lt bT e_2) ?_;refine qb bT e_2 rfl pZ e_3 rfl (HS.lt bT e_2) ?_;refine qb bT e_2 rfl bT e_2 rfl (HS.lt bT e_2) ?_;refine qb bT e_2 rfl bT e_2 rfl (HS.lt bT e_2) ?_;refine qb ra e_5 rfl sh e_5 rfl (HS.lt bT e_2) ?_;refine qb p8 e_4 rfl ra e_5 rfl (HS.lt bT e_2) ?_;refine qb pZ e_3 rfl p8 e_4 rfl (HS.lt bT e_2) ?_;refine qb bT e_2 rfl pZ e_3 rfl (HS.lt bT e_2) ?_;refine qb bT e_2 rfl bT e_2 rfl (HS.lt bT e_2) ?_;refine qb bT e_2 rfl bT e_2 rfl (HS.lt bT e_2) ?_;refine qx (qE PG (b:=v0) (off:=0) .here rfl omQ (l:=Yt (jM t x pick) ⟨rv,cv,fe,fv⟩) rfl ?_);refine qY ⟨⟨rv,cv,fe,fv⟩,rfl,?_⟩;exact PG.sub (.cons e_4 (.cons e_3 (.cons e_2 (.cons e_1 (.drop .refl)))))
end
end
section
variable {g h:AH} {L R:List SP}
section
variable {n a b:Nat} {t:qt} {q:Us} {x:q9}
theorem qz2 (hn:14≤n) (C:wN t) (dP:t.aj=false) (hr:t.ad.length≤1000000) (H:HS g h (aF b t::R)):aA n 91 [.ptr b 0] h λ_ h'=>HS g h' (aF b (gE t)::R):=by
 refine aB (S:=S91) rfl omQ λk hk=>?_;unfold S91;try simp only[iZ]
 obtain⟨q,H0⟩:=aF.E H;unfold gE;refine qK (qQ (qX H0 (b:=b) .here rfl ?_));refine qG (qK0 omQ (H0.aI (P:=dc q.lb t.ad) e_6)) ?_;rintro _ _ ⟨rfl,rfl⟩;by_cases c:t.ad=[]
 ·rw[iJ c];refine qk (by rw[c];rfl) (qZ ?_);exact qG (wc omQ (C.toThrB.next C.lt) H) λ_ h1 H1=>qY H1
 ·rw[iQ c];refine qj (λh0=>c (iA omQ)) (qJ ?_);refine qK (qQ ?_);refine qw H0 (b:=b) .here ⟨rfl,rfl⟩ (by simp[yv]) λh1 H1=>?_;refine qK (qQ ?_);refine qw H1 (b:=b) .here (x:=.ak) ⟨rfl,rfl⟩ (by simp[yv]) λh2 H2=>?_;have H3:=aF.I (b:=b) (t:={ t with state:=5,ah:=[] }) (q:={ q with sv:=.ak }) ((H2.ak (e:=24) (sz:=1)).sub (.cons e_1 (.cons e_1 (.cons e_1 (.cons e_1 (.cons e_1 (.cons e_1 (.cons e_1 (.cons .here (.drop .refl))))))))));refine qG (PE (t:={ t with state:=5,ah:=[] }) omQ (C.go rfl rfl rfl rfl rfl rfl rfl (Nat.zero_le _) C.ag C.aD rfl rfl) (Nat.zero_le _) dP hr H3) λ_ h4 H4=>qY H4
theorem VJ {w:Int} (hn:14≤n) (C:wN t) (dP:t.aj=false) (hs:t.ah.length≤4) (hr:t.ad.length≤1000000) (H:HS g h (aF b t::R)):aA n 57 [.ptr b 0,.int .u64 w] h λ_ h'=>HS g h' (aF b (vo { t with ah:=t.ah++[w] })::R):=by
 refine ba (S:=S57) rfl omQ λk hk=>?_;unfold S57;try simp only[iZ]
 obtain⟨q,H0⟩:=aF.E H;refine qK (qQ (qX H0 (b:=b) .here rfl ?_));refine qf (n:=1) (l:=[.int .u64 w]) (sz:=1) H0 rfl rfl rfl rfl λv2 h2 H2=>?_;refine ju (H2.aI (P:=qD 24 1 t.ah.length q.sv (t.ah.map (.int .u64))) e_8) (H2.sl .here) omQ omQ rfl λv3 h3 H3=>?_;have o3:=H3.one .here;refine qK (qQ ?_);refine qw H3 (b:=b) e_2 o3 (by simp[yv]) λh4 H4=>?_;have e:(t.ah++[w]).length=t.ah.length+1:=by simp
 have H5:HS g h4 (aF b { t with ah:=t.ah++[w] }::R):=by refine aF.I (q:={ q with sv:=v3 }) ?_;unfold Xo;rw[e,List.map_append];exact H4.sub (.cons .here (.cons e_2 (.cons e_2 (.cons e_2 (.cons e_2 (.cons e_2 (.cons e_2 (.cons .here (.drop .refl)))))))))
 exact qG (PE (t:={ t with ah:=t.ah++[w] }) omQ (C.go rfl rfl rfl rfl rfl rfl rfl (by show(t.ah++[w]).length≤6;omega) C.ag C.aD rfl rfl) (by show(t.ah++[w]).length≤5;omega) dP hr H5) λ_ h4 H4=>qY H4
theorem qYA {fin:Int} (hn:14≤n) (C:wN t) (hr:t.ad.length+t.ae.length≤1000000) (H:HS g h (aF b t::R)):aA n 85 [.ptr b 0,.int .i64 fin] h λ_ h'=>HS g h' (aF b (kB t fin)::R):=by
 refine ba (S:=S85) rfl omQ λk hk=>?_;unfold S85;try simp only[iZ]
 obtain⟨q,H0⟩:=aF.E H;unfold kB;refine jm [] (λs h'=>s=(.ptr b 0,())∧HS g h' (aF b (if fin=4 then{ t with ad:=t.ad++t.ae }else t)::R)) (λj hj=>?_) ?_
 ·by_cases c:fin=4
  ·refine qk c (qZ ?_);refine qK (qQ (qh (qX H0 (b:=b) .here rfl ?_)));refine qm H0 (n:=t.ae.length) (v:=q.gv) e_2 ?_;refine jR (λc s h'=>∃i:Nat,s=(.int .i64 (i:Int),.int .i64 (t.ae.length:Int),q.gv,.ptr b 0,())∧i≤t.ae.length∧c=t.ae.length-i∧HS g h' (Xo b { t with ad:=t.ad++t.ae.take i } q R))
    ?_ (m:=t.ae.length) (by show _<1000000000;omega) ⟨0,rfl,Nat.zero_le _,rfl,by rw[List.take_zero,List.append_nil];exact H0⟩
   clear H0 H;rintro c ih s h3 bF ⟨i,rfl,hi,rfl,H⟩;dsimp only;by_cases ap:i<t.ae.length
   ·refine jH omQ (qZ ?_);refine zS (l:=jT t.ae[i]) (H.sl (n:=t.ae.length) (v:=q.gv) (xs:=t.ae.flatMap jT) e_2) ap omQ (gJ (sz:=2) (enc:=jT) (λ_=>rfl) (iW ap)) ?_;refine qI H rfl λb2 h4 H4=>?_;refine qd H4 (b:=b2) .here rfl (by show 0+2≤2;omega) rfl λh5 H5=>?_;refine qK (qQ (qX H5 (b:=b) e_1 rfl ?_));refine qQ (qX H5 (b:=b2) .here (x:=.int .u64 t.ae[i].2) rfl ?_);refine qQ (qX H5 (b:=b2) .here (x:=.int .i64 t.ae[i].1) rfl ?_);refine qf (n:=1) (l:=[.int .i64 t.ae[i].1]) (sz:=1) H5 rfl rfl rfl rfl λv2 h6 H6=>?_;have H7:=H6.aI (P:=dc q.lb (t.ad++t.ae.take i)) e_8;refine qG (VK (z:=t.ae[i].2) (bs:=[t.ae[i].1]) omQ (by rw[List.length_append,List.length_take];show _+1≤_;omega) H7 (H7.drop.rd (sz:=1) (n:=1) .here)) λ_ h8 H8=>?_;refine qU omQ ?_;refine bF (t.ae.length-(i+1)) _ _ omQ ⟨i+1,rfl,by omega,rfl,?_⟩;have et:t.ad++t.ae.take (i+1)=(t.ad++t.ae.take i)++[(t.ae[i].1,t.ae[i].2)]:=by rw[List.take_add_one,iW ap,List.append_assoc];rfl
    unfold Xo;rw[et];exact H8.sub (.cons e_3 (.cons e_3 (.cons e_3 (.cons e_3 (.cons e_3 (.cons e_3 (.cons .here (.cons e_2 (.drop (.drop .refl))))))))))
   ·obtain rfl:i=t.ae.length:=by omega
    refine jz omQ (qJ ?_);rw[List.take_length]at H;exact hj _ _ ⟨rfl,by rw[iJ c];exact aF.I (q:=q) H⟩
  ·exact qj c (qJ (hj _ _ ⟨rfl,by rw[iQ c];exact H⟩))
 ·clear H0 H;rintro _ h1 ⟨rfl,H⟩;dsimp only;refine qG (wc omQ ?_ H) λ_ h4 H4=>qx (qY H4);have h1:=C.au;have h2:=C.ad;have h3:=C.lt
  split
  ·exact⟨C.set,C.me,C.jobs,C.jl,by show 0≤t.au+1∧t.au+1≤(t.jobs.length:Int);omega,by show(t.ad++t.ae).length+0≤9000*t.results.length;rw[List.length_append];omega,C.ah,by show(0:Int)≤0∧(0:Int)≤(t.az.length:Int);omega,by show(0:Int)≤0∧(0:Int)≤0;omega,λ_=>rfl⟩
  ·exact C.toThrB.next C.lt
theorem qGh {an:cO} {draw:Int} (hn:13≤n) (B:ThrB t) (hg:t.ae.length≤1000000) (hd:0≤draw∧draw<256) (H:HS g h (aF b t::R)):aA n 56 [.ptr b 0,.agg (zt an),.int .u8 draw] h λ_ h'=>
  HS g h' (aF b (if an.err=0∧an.word≠0∧(t.bj=false∨an.word=t.since)then{ t with bj:=true,since:=an.word }else xQ t draw)::R):=by
 refine cL (S:=S56) rfl omQ λk hk=>?_;unfold S56;try simp only[iZ]
 obtain⟨q,H0⟩:=aF.E H;clear H;refine qI H0 rfl λv0 h1 H1=>?_;clear H0;have no:∀c:¬(an.err=0∧an.word≠0∧(t.bj=false∨an.word=t.since)),wp (zA (callT tab qz k) (.fn 84 [] []) [.ptr b 0,.int .u8 draw] h1 λ_ h'=>some (.bJ [],h')) λ_ h'=>
  HS g h' (aF b (if an.err=0∧an.word≠0∧(t.bj=false∨an.word=t.since)then{ t with bj:=true,since:=an.word }else xQ t draw)::R):=λc=>by
  rw[iQ c];exact qG (ZP omQ B hg hd (aF.I (q:=q) H1.drop)) λ_ h2 H2=>qY H2
 refine qQ (qX H1 (b:=v0) .here (x:=.int .i64 an.err) rfl ?_);by_cases c1:an.err=0
 ·refine qk c1 ?_;refine qW ?_
  try dsimp only
  refine qR (qQ (qX H1 (b:=v0) .here (x:=.int .u64 an.word) rfl ?_));by_cases c2:an.word=0
  ·refine jJ c2 (qC ?_);refine qW ?_
   try dsimp only
   refine qS (qW ?_)
   try dsimp only
   refine zF (qW ?_)
   try dsimp only
   refine qS (qF (qJ ?_));exact no λh=>h.2.1 c2
  ·refine jQ c2 (qC ?_);refine qW ?_
   try dsimp only
   refine qR ?_
   have yes:∀c:(t.bj=false∨an.word=t.since),wp (qn (.ptr v0 0) 0 λv22=>jB h1 v22 λrq=>xM (.ptr b 0) λv24=>qn v24 25 λoo=>jU h1 oo (.bool true) 1 λDN=>xM (.ptr b 0) λuf=>qn uf 24 λv28=>
     jU DN v28 rq 1 λru=>Xk v22 none rq h1 DN h1.nx (some (.bJ [],ru))) λ_ h'=>
      HS g h' (aF b (if an.err=0∧an.word≠0∧(t.bj=false∨an.word=t.since)then{ t with bj:=true,since:=an.word }else xQ t draw)::R):=λc=>by
    rw[iJ ⟨c1,c2,c⟩];refine qh (qX H1 (b:=v0) .here (x:=.int .u64 an.word) rfl ?_);refine qK (qQ ?_);refine qw H1 (b:=b) e_1 ⟨rfl,rfl⟩ (by simp[yv]) λh2 H2=>?_;refine qK (qQ ?_);refine qw H2 (b:=b) .here ⟨rfl,rfl⟩ (by simp[yv]) λh3 H3=>?_;refine qb H1 .here rfl H2 e_1 rfl (HS.lt H1 .here) ?_;exact qY (aF.I (q:=q) (H3.sub (.cons .here (.drop .refl))))
   by_cases c3:t.bj=false
   ·refine qK (qQ (qX H1 (b:=b) e_1 (x:=.bool false) (by rw[← c3];rfl) ?_));refine jF (qW ?_)
    try dsimp only
    refine jZ (qW ?_)
    try dsimp only
    refine qR (qC ?_)
    try dsimp only
    refine qC (qZ ?_);refine qW ?_;exact yes (.inl c3)
   ·have c3':t.bj=true:=by simpa using c3
    refine qK (qQ (qX H1 (b:=b) e_1 (x:=.bool true) (by rw[← c3'];rfl) ?_));refine jA (qW ?_)
    try dsimp only
    refine qc (qQ (qX H1 (b:=v0) .here (x:=.int .u64 an.word) rfl ?_));refine qK (qQ (qX H1 (b:=b) e_1 rfl ?_));by_cases c4:an.word=t.since
    ·refine qk c4 ?_;refine qW ?_
     try dsimp only
     refine qR (qF ?_)
     try dsimp only
     refine qC (qZ ?_);refine qW ?_;exact yes (.inr c4)
    ·refine qj c4 ?_;refine qW ?_
     try dsimp only
     refine qR (qF ?_)
     try dsimp only
     refine qC (qJ ?_);exact no λh=>by rcases h.2.2 with h |h;exact c3 h;exact c4 h
 ·refine qj c1 ?_;refine qW ?_
  try dsimp only
  refine qS (qF (qW ?_))
  try dsimp only
  refine qS (qW ?_)
  try dsimp only
  refine zF (qW ?_)
  try dsimp only
  refine qS (qF (qJ ?_));exact no λh=>c1 h.1
theorem dV.E {r:List Gi} {v:AV} (H:HS g h (dV r v::R)):∃zs:List (Gi×Aq),zs.map (·.1)=r∧HS g h (qD 116 14 zs.length v (zs.flatMap λz=>Yt z.1 z.2):: .all (zs.flatMap λz=>Mn z.1 z.2)::R):=by obtain⟨zs,H⟩:=H.dU;exact⟨zs,H.cq.ed⟩
theorem dV.I {r:List Gi} {v:AV} {zs:List (Gi×Aq)} (hl:zs.map (·.1)=r) (H:HS g h (qD 116 14 zs.length v (zs.flatMap λz=>Yt z.1 z.2):: .all (zs.flatMap λz=>Mn z.1 z.2)::R)):HS g h (dV r v::R) :=
 HS.en zs (HS.allI (A:=[_,_,_]) (HS.eK hl H))
theorem NG {A B:List SP} (H:HS g h (.all A::(B++R))):HS g h (.all (A++B)::R):=by refine HS.allI ?_;rw[List.append_assoc];exact H.cq
theorem qVs {draw pick:Int} (hn:15≤n) (C:wN t) (hx:t.now=some x) (hp:t.az.length≤1000000) (hcf:t.ag≤1000000) (PH:(t.results.length:Int)≤t.au+(if t.aj=true then 1 else 0)) (hd:0≤draw∧draw<256) (H:HS g h (aF b t::R)) :
  aA n 55 [.ptr b 0,.int .u8 draw,.int .i64 pick] h λ_ h'=>HS g h' (aF b (xU t x draw pick)::R):=by
 refine cL (S:=S55) rfl omQ λk hk=>?_;unfold S55;try simp only[iZ]
 have hN:=C.now x hx;have O:=hN.1;have AT:t.ad.length+t.ae.length≤63000:=C.len (by split at PH<;>omega);have hT:=C.ag;have hCf:=C.aD;have lT:=C.jl;have hjb:=C.au;have ap:=C.lt;obtain⟨a,q,H0⟩:=aF.V hx H;clear H;refine qK (qQ (qX H0 (b:=b) e_1 rfl ?_));refine qW ?_
 try dsimp only
 refine qK (qQ (qX H0 (b:=b) e_1 rfl ?_));refine qG (qzN omQ O H0) ?_;rintro _ h1 ⟨z,rfl,H1⟩;have H1:HS g h1 (qD 163 2 (jM t x pick).reads.length z.rv ((jM t x pick).reads.flatMap jT)::qD 163 2 (jM t x pick).cells.length z.cv ((jM t x pick).cells.flatMap jT)::qD z.fe 1 (jM t x pick).np.length z.fv ((jM t x pick).np.map (.int .i64))::cy a b t x q R):=H1;have o1:=H1.one (v:=z.rv) .here;have o2:=H1.one (v:=z.cv) e_1;have o3:=H1.one (v:=z.fv) e_2;have a1:ql (Yt (jM t x pick) z)=true:=by simp only[ql,Yt,List.all_cons,o1.2,o2.2,o3.2];rfl
 refine qf (n:=1) (l:=Yt (jM t x pick) z) (sz:=14) H1 rfl rfl rfl a1 λv2 h2 H2=>?_;obtain⟨zs,s7,H3⟩:=dV.E (H2.aI (P:=dV t.az q.pv) e_8);have sD:zs.length=t.az.length:=by rw[← s7,List.length_map]
 refine ju H3 (H3.sl e_2) omQ omQ a1 λv3 h3 H4=>?_;have op:=H4.one .here;refine qK (qQ ?_);refine qw H4 (b:=b) e_7 op (by simp[yv]) λh4 H5=>?_;refine qb H0 e_1 rfl H1 e_4 rfl (HS.lt H0 e_1) ?_
 try dsimp only
 have B1:=NG (A:=zs.flatMap λz=>Mn z.1 z.2) (B:=Mn (jM t x pick) z) (H5.sub (.cons e_2 (.cons e_3 (.cons e_3 (.cons e_3 .refl)))));have eA:(zs++[(jM t x pick,z)]).flatMap (λz=>Mn z.1 z.2)=(zs.flatMap λz=>Mn z.1 z.2)++Mn (jM t x pick) z:=by rw[List.flatMap_append];simp
 have eB:(zs++[(jM t x pick,z)]).flatMap (λz=>Yt z.1 z.2)=(zs.flatMap λz=>Yt z.1 z.2)++Yt (jM t x pick) z:=by rw[List.flatMap_append];simp
 have eC:(zs++[(jM t x pick,z)]).length=zs.length+1:=by simp
 have B2:=dV.I (v:=v3) (zs:=zs++[(jM t x pick,z)]) (r:=t.az++[jM t x pick]) (by rw[List.map_append,s7];rfl) (by rw[eA,eB,eC];exact B1.sub (.cons e_2 (.cons .here .refl)));have H6:HS g h4 (cy a b { t with az:=t.az++[jM t x pick] } x { q with pv:=v3 } R):=B2.sub (.cons e_3 (.cons e_1 (.cons e_2 (.cons e_2 (.cons .here (.cons e_1 (.cons e_1 (.cons e_1 (.drop .refl)))))))));clear H0 H1 H2 H3 H4 H5 B1 B2 eA eB eC;refine qK (qQ (qh (qX H6 (b:=b) e_1 (x:=.int .i64 t.ag) rfl ?_)));refine qU omQ ?_;refine qK (qQ (qh ?_));refine qw H6 (b:=b) e_1 ⟨rfl,rfl⟩ (by simp[yv]) λh5 H7=>?_;have H8:HS g h5 (cy a b { t with az:=t.az++[jM t x pick],ag:=t.ag+1 } x { q with pv:=v3 } R):=H7.sub (.cons e_1 (.cons .here .refl));have nD:(t.az++[jM t x pick]).length=t.az.length+1:=by simp
 have hps:((t.az++[jM t x pick]).length:Int)=(t.az.length:Int)+1:=by rw[nD];rfl
 clear H6 H7;generalize{ q with pv:=v3 }=q at*;refine qW ?_
 try dsimp only
 unfold xU;dsimp only;refine qG (Y8 omQ H8 .here) ?_;rintro _ _ ⟨rfl,rfl⟩;by_cases c5:jq x=5
 ·rw[iJ c5];refine qk c5 (qZ ?_);refine qK (qQ (qh (qX H8 (b:=b) e_1 (x:=.int .i64 t.aD) rfl ?_)));refine qU omQ ?_;refine qK (qQ (qh ?_));refine qw H8 (b:=b) e_1 ⟨rfl,rfl⟩ (by simp[yv]) λh6 H9=>?_;have HA:HS g h6 (cy a b { t with az:=t.az++[jM t x pick],ag:=t.ag+1,aD:=t.aD+1 } x q R):=H9.sub (.cons e_1 (.cons .here .refl));clear H8 H9;have C3:wN { t with az:=t.az++[jM t x pick],ag:=t.ag+1,aD:=t.aD+1 } :=
   C.go rfl rfl rfl rfl rfl rfl rfl C.ah (by show 0≤t.ag+1∧t.ag+1≤((t.az++[jM t x pick]).length:Int);omega) (by show 0≤t.aD+1∧t.aD+1≤t.ag+1;omega) rfl rfl
  have no:∀c:¬(0≤wE x∧wE x<t.set.aa),wp (zA (callT tab qz k) (.fn 84 [] []) [.ptr b 0,.int .u8 draw] h6 λ_ h'=>zo [] h' λh'=>some (.bJ [],h')) λ_ h'=>
    HS g h' (aF b (if 0≤wE x∧wE x<t.set.aa then{ t with az:=t.az++[jM t x pick],ag:=t.ag+1,aD:=t.aD+1,state:=2,cU:=wE x,bj:=false }else xQ { t with az:=t.az++[jM t x pick],ag:=t.ag+1,aD:=t.aD+1 } draw)::R):=λc=>by
   rw[iQ c];exact qG (ZP (t:={ t with az:=t.az++[jM t x pick],ag:=t.ag+1,aD:=t.aD+1 }) omQ C3.toThrB (by show t.ae.length≤_;omega) hd (cy.I hx HA)) λ_ h2 H2=>qx (qY H2)
  refine qW ?_
  try dsimp only
  refine qG (Hk omQ HA .here) ?_;rintro _ _ ⟨rfl,rfl⟩;by_cases d1:0≤wE x
  ·refine zy d1 (qR ?_);refine qG (Hk omQ HA .here) ?_;rintro _ _ ⟨rfl,rfl⟩;refine qK (qQ (qh (qh (qX HA (b:=b) e_1 (x:=.int .i64 t.set.aa) rfl ?_))));by_cases d2:wE x<t.set.aa
   ·refine jH d2 (qC ?_);refine qb HA e_1 rfl HA e_1 rfl (HS.lt HA e_1) ?_
    try dsimp only
    refine qZ ?_;rw[iJ ⟨d1,d2⟩];refine qG (Hk omQ HA .here) ?_;rintro _ _ ⟨rfl,rfl⟩;refine qK (qQ ?_);refine qw HA (b:=b) e_1 ⟨rfl,rfl⟩ (by simp[yv]) λh7 HB=>?_;refine qK (qQ ?_);refine qw HB (b:=b) .here ⟨rfl,rfl⟩ (by simp[yv]) λh8 HC=>?_;refine qK (qQ ?_);refine qw HC (b:=b) .here ⟨rfl,rfl⟩ (by simp[yv]) λh9 HD=>?_;refine qY ?_;exact cy.I (t:={ t with az:=t.az++[jM t x pick],ag:=t.ag+1,aD:=t.aD+1,state:=2,cU:=wE x,bj:=false }) (q:=q) hx (HD.sub (.cons e_1 (.cons .here .refl)))
   ·refine jz d2 (qC ?_);refine qb HA e_1 rfl HA e_1 rfl (HS.lt HA e_1) ?_
    try dsimp only
    exact qJ (no λh=>d2 h.2)
  ·refine zY d1 (qS (qF ?_))
   try dsimp only
   exact qJ (no λh=>d1 h.1)
 ·rw[iQ c5];refine qj c5 (qJ ?_);have C2:∀s:Int,wN { t with az:=t.az++[jM t x pick],ag:=t.ag+1,state:=s }:=λs=>
   C.go rfl rfl rfl rfl rfl rfl rfl C.ah (by show 0≤t.ag+1∧t.ag+1≤((t.az++[jM t x pick]).length:Int);omega) (by show 0≤t.aD∧t.aD≤t.ag+1;omega) rfl rfl
  refine qG (Y8 omQ H8 .here) ?_;rintro _ _ ⟨rfl,rfl⟩;by_cases c3:jq x=3
  ·rw[iJ c3];refine qk c3 (qZ ?_);by_cases ca:t.bR=true
   ·rw[iJ ca];refine qK (qQ (qX H8 (b:=b) e_1 (x:=.bool true) (by rw[← ca];rfl) ?_));refine qZ ?_;exact qG (QN (t:={ t with az:=t.az++[jM t x pick],ag:=t.ag+1 }) omQ (C2 t.state).toThrB (by show t.ae.length≤_;omega) (cy.I hx H8)) λ_ h6 H6=>qY H6
   ·have cf:t.bR=false:=by simpa using ca
    rw[iQ ca];refine qK (qQ (qX H8 (b:=b) e_1 (x:=.bool false) (by rw[← cf];rfl) ?_));refine qJ (qK (qQ ?_));refine qw H8 (b:=b) e_1 ⟨rfl,rfl⟩ (by simp[yv]) λh6 H9=>?_;refine qx (qY ?_);exact cy.I (t:={ t with az:=t.az++[jM t x pick],ag:=t.ag+1,state:=4 }) (q:=q) hx (H9.sub (.cons e_1 (.cons .here .refl)))
  ·rw[iQ c3];refine qj c3 (qJ ?_);by_cases cs:t.aj=true
   ·rw[iJ cs];refine qK (qQ (qh (qX H8 (b:=b) e_1 (x:=.bool true) (by rw[← cs];rfl) ?_)));refine qZ (qG (Y8 omQ H8 .here) ?_);rintro _ _ ⟨rfl,rfl⟩;exact qG (qYA (t:={ t with az:=t.az++[jM t x pick],ag:=t.ag+1 }) omQ (C2 t.state) (by show t.ad.length+t.ae.length≤_;omega) (cy.I hx H8)) λ_ h6 H6=>qx (qY H6)
   ·have cf:t.aj=false:=by simpa using cs
    rw[iQ cs];refine qK (qQ (qh (qX H8 (b:=b) e_1 (x:=.bool false) (by rw[← cf];rfl) ?_)));refine qJ (qW ?_)
    try dsimp only
    refine qW ?_
    try dsimp only
    refine qK (qQ (qX H8 (b:=b) e_1 rfl ?_));refine qG (Y8 omQ H8 .here) ?_;rintro _ _ ⟨rfl,rfl⟩;refine qG (PF omQ H8 .here) ?_;rintro _ _ ⟨rfl,rfl⟩;refine qG (VY omQ O H8) ?_;rintro _ h6 ⟨rfl,H9⟩;refine qG (UK omQ H9 .here) ?_;rintro _ _ ⟨rfl,rfl⟩;refine qL (l:=Jb ⟨jq x,xB x,zG x,x.af⟩) rfl ?_;refine qf (n:=1) (l:=Jb ⟨jq x,xB x,zG x,x.af⟩) (sz:=4) H9 rfl rfl rfl rfl λv4 h7 HA=>?_;have hrl7:t.results.length≤7:=by split at PH<;>omega
    refine ju (HA.aI (P:=qD 46 4 t.results.length q.rv (t.results.flatMap Jb)) e_6) (HA.sl .here) omQ omQ rfl λv5 h8 HB=>?_;have o5:=HB.one .here;refine qK (qQ ?_);refine qw HB (b:=b) e_3 o5 (by simp[yv]) λh9 HC=>?_;refine qb H9 e_1 rfl H9 e_1 rfl (HS.lt H8 e_1) ?_;refine qb H8 e_1 rfl H9 e_1 rfl (HS.lt H8 e_1) ?_;refine qb H8 e_1 rfl H8 e_1 rfl (HS.lt H8 e_1) ?_;refine qb H8 e_1 rfl H8 e_1 rfl (HS.lt H8 e_1) ?_
    try dsimp only
    have eR:(t.results++[(⟨jq x,xB x,zG x,x.af⟩:Ur)]).length=t.results.length+1:=by simp
    have eF:(t.results++[(⟨jq x,xB x,zG x,x.af⟩:Ur)]).flatMap Jb=t.results.flatMap Jb++Jb ⟨jq x,xB x,zG x,x.af⟩:=by rw[List.flatMap_append];simp
    have HD:HS g h9 (cy a b { t with az:=t.az++[jM t x pick],ag:=t.ag+1,results:=t.results++[⟨jq x,xB x,zG x,x.af⟩] } x { q with rv:=v5 } R):=by unfold cy;rw[eR,eF];exact HC.sub (.cons e_3 (.cons .here (.cons e_2 (.cons e_2 (.cons e_2 (.cons .here (.cons e_1 (.cons e_1 (.drop .refl)))))))))
    clear H8 H9 HA HB HC eF;refine qW ?_
    try dsimp only
    refine qK (qQ (qX HD (b:=b) e_1 rfl ?_));refine qG (UK omQ HD .here) ?_;rintro _ _ ⟨rfl,rfl⟩;refine qG (Ve omQ O HD) ?_;rintro fv hA ⟨fe,HE⟩;have DH:=Yf O (hN.2.2.2.trans cf);have HF:=HE.aI (P:=dc q.lb t.ad) e_7;refine qG (VK (z:=x.af) (bs:=zJ x) omQ omQ HF (HF.drop.rd .here)) λ_ hB HG=>?_;refine qb HD e_1 rfl HE e_2 rfl (HS.lt HD e_1) ?_;refine qb HD e_1 rfl HD e_1 rfl (HS.lt HD e_1) ?_
    try dsimp only
    have HH:=cy.I (a:=a) (b:=b) (t:={ t with az:=t.az++[jM t x pick],ag:=t.ag+1,results:=t.results++[⟨jq x,xB x,zG x,x.af⟩],ad:=t.ad++(zJ x).map λb=>(b,x.af) }) (q:={ q with rv:=v5 }) hx
     (HG.sub (.cons e_2 (.cons e_2 (.cons e_2 (.cons e_2 (.cons e_2 (.cons e_2 (.cons .here (.cons e_1 (.drop .refl))))))))))
    have e2:(t.ad++(zJ x).map λb=>(b,x.af)).length=t.ad.length+(zJ x).length:=by simp
    have tZ:=C.mh cf;have sd:=C.ad;rw[tZ,List.length_nil]at sd;have C4:wN { t with az:=t.az++[jM t x pick],ag:=t.ag+1,results:=t.results++[⟨jq x,xB x,zG x,x.af⟩],ad:=t.ad++(zJ x).map λb=>(b,x.af) } :=
     ⟨⟨C.set,C.me,C.jobs,C.jl,C.au,by show(t.ad++(zJ x).map λb=>(b,x.af)).length+t.ae.length≤9000*(t.results++[(⟨jq x,xB x,zG x,x.af⟩:Ur)]).length;rw[eR,e2,tZ,List.length_nil];omega,
      C.ah,by show 0≤t.ag+1∧t.ag+1≤((t.az++[jM t x pick]).length:Int);omega,by show 0≤t.aD∧t.aD≤t.ag+1;omega,C.mh⟩,C.now,C.lt,C.some⟩
    exact qG (qz2 omQ C4 cf (by show(t.ad++(zJ x).map λb=>(b,x.af)).length≤1000000;omega) HH) λ_ hC HI=>qx (qY HI)
end
end
section
variable {g h:AH} {L R:List SP}
section
variable {n a b:Nat} {t:qt} {q:Us} {x:q9}
theorem yZ.rl (O:yZ t):t.ad.length+t.ae.length≤63000:=O.b.len (by have:=O.iM;split at this<;>omega)
theorem qqF {an:cO} {draw pick:Int} (hn:27≤n) (O:yZ t) (ha:XH an) (hd:0≤draw∧draw<256) (hp:t.az.length≤900000) (H:HS g h (aF b t::R)) :
  aA n 29 [.ptr b 0,.agg (zt an),.int .u8 draw,.int .i64 pick] h λ_ h'=>HS g h' (aF b (zj t an draw pick)::R):=by
 refine pu (S:=S29) rfl omQ λk hk=>?_;unfold S29;try simp only[iZ]
 have cP:=O.st;have AT:=O.rl;have hT:=O.b.ag;have cu:=O.iM;obtain⟨q,H0⟩:=aF.E H;clear H;refine qI H0 rfl λv0 h1 H1=>?_;clear H0;refine qK (qQ (qX H1 (b:=b) e_1 rfl ?_));refine qW ?_
 try dsimp only
 unfold zj;by_cases c1:t.state=1
 ·rw[iJ c1];refine qk c1 (qZ ?_);have C:=O.c omQ;cases hx:t.now with
  |none=>exact absurd hx C.some
  |some x=>
   dsimp only;have hN:=C.now x hx;have hS:=Yx x an;have hr:(t.results.length:Int)≤t.au+(if t.aj=true then 1 else 0):=by
    by_cases hs:t.aj=true
    ·rw[iJ ⟨by omega,.inl hs⟩]at cu;rw[iJ hs];exact cu
    ·rw[iQ (λh=>by rcases h.2 with h |h;exact hs h;omega)]at cu;rw[iQ hs];exact cu
   have C':∀b:Int,wN { t with now:=some (jY x an),born:=b }:=λb=>⟨⟨C.set,C.me,C.jobs,C.jl,C.au,C.ad,C.ah,C.ag,C.aD,C.mh⟩,λy hy=>by
    cases hy
    exact⟨MJ hN.1 ha,hS.me.trans hN.2.1,hS.set.trans hN.2.2.1,hS.sw.trans hN.2.2.2⟩,C.lt,λh=>by cases h⟩
   obtain⟨a,q,H2⟩:=aF.V hx (aF.I (b:=b) (q:=q) (H1.sub (.cons e_1 (.cons e_1 (.cons e_1 (.cons e_1 (.cons e_1 (.cons e_1 (.cons e_1 (.cons e_1 (.cons .here .refl)))))))))));have H2:HS g h1 (cy a b t x q (qy v0 (zt an)::R)):=H2;clear H1;refine qK (qQ (qX H2 (b:=b) e_1 (x:=.ptr a 0) rfl ?_));refine qG (KD omQ H2 .here) ?_;rintro _ _ ⟨rfl,rfl⟩;refine qB rfl (qB rfl ?_);refine qK (qQ (qX H2 (b:=b) e_1 (x:=.ptr a 0) rfl ?_));refine qE H2 (b:=v0) (off:=0) e_8 rfl omQ (l:=zt an) rfl ?_;refine qG (qYt omQ hN.1 ha H2) λ_ h3 H3=>?_;unfold vv;dsimp only;generalize hy:jY x an=y at H3 C' ⊢;generalize Ar:(if y.begun=true∧x.begun=false then pick else t.born)=bo;have key:∀(bo:Int) (h':AH),HS g h' (cy a b { t with now:=some y,born:=bo } y q (qy v0 (zt an)::R))→
     wp (xM (.ptr b 0) λv28=>qn v28 16 λFq=>jB h' Fq λv30=>zA (callT tab qz k) (.fn 54 [] []) [v30] h' λv31 ug=>jo .neq v31 (.int .i64 ((0:Nat):Int)) λrV=>zP rV
      (zA (callT tab qz k) (.fn 55 [] []) [.ptr b 0,.int .u8 draw,.int .i64 pick] ug λ_ Fz=>zo [] Fz λh9=>some (.bJ [],h9)) (zo [] ug λh9=>some (.bJ [],h9)))
      λ_ h'=>HS g h' (aF b (if jq y=0 then{ t with now:=some y,born:=bo }else xU { t with now:=some y,born:=bo } y draw pick)::R):=λbo h' H4=>by
    refine qK (qQ (qX H4 (b:=b) e_1 (x:=.ptr a 0) rfl ?_));refine qG (Y8 omQ H4 .here) ?_;rintro _ _ ⟨rfl,rfl⟩;have H5:=cy.I (t:={ t with now:=some y,born:=bo }) rfl H4;have H5:=H5.sub (.cons .here (.drop .refl));by_cases c:jq y=0
    ·rw[iJ c];exact jJ c (qJ (qx (qY H5)))
    ·rw[iQ c];refine jQ c (qZ ?_);exact qG (qVs (t:={ t with now:=some y,born:=bo }) omQ (C' bo) rfl (by show t.az.length≤_;omega) (by show t.ag≤_;omega) hr hd H5) λ_ h6 H6=>qx (qY H6)
   refine qW ?_
   try dsimp only
   refine qK (qQ (qX H3 (b:=b) e_1 (x:=.ptr a 0) rfl ?_));refine qG (KD omQ H3 .here) ?_;rintro _ _ ⟨rfl,rfl⟩;refine qB rfl (qB rfl ?_);refine qW ?_
   try dsimp only
   have H4:HS g _ (cy a b { t with now:=some y,born:=t.born } y q (qy v0 (zt an)::R)):=H3;by_cases d1:y.begun=true
   ·rw[d1];refine qR ?_;by_cases d2:x.begun=true
    ·rw[d2];rw[d1,d2,iQ (λh=>by cases h.2)]at Ar;subst Ar;refine jA (qC (qJ ?_));exact key _ _ H4
    ·have PJ:x.begun=false:=by simpa using d2
     rw[PJ];rw[d1,PJ,iJ ⟨rfl,rfl⟩]at Ar;subst Ar;refine jF (qC (qZ ?_));refine qK (qQ ?_);refine qw H3 (b:=b) e_1 ⟨rfl,rfl⟩ (by simp[yv]) λh5 H5=>?_;exact key pick _ (H5.sub (.cons e_1 (.cons .here .refl)))
   ·have PK:y.begun=false:=by simpa using d1
    rw[PK];rw[PK,iQ (λh=>by cases h.1)]at Ar;subst Ar;refine qS (qF (qJ ?_));exact key _ _ H4
 ·rw[iQ c1];refine qj c1 (qJ ?_);have H2:=aF.I (b:=b) (t:=t) (q:=q) H1.drop;by_cases c2:t.state=2
  ·rw[iJ c2];refine qk c2 (qZ ?_);refine qE H1 (b:=v0) (off:=0) .here rfl omQ (l:=zt an) rfl ?_;exact qG (qGh omQ O.b omQ hd H2) λ_ h6 H6=>qx (qY H6)
  ·rw[iQ c2];refine qj c2 (qJ ?_);by_cases c5:t.state=5
   ·rw[iJ c5];refine qk c5 (qZ ?_);have C:=O.c omQ;have mV:=O.Hd c5;have h4:=C.set.aa;refine qW ?_
    try dsimp only
    refine qQ (qX H1 (b:=v0) .here (x:=.int .i64 an.err) rfl ?_);by_cases ce:an.err=0
    ·refine jJ ce (qJ ?_)
     try dsimp only
     refine qQ (qX H1 (b:=v0) .here (x:=.int .u64 an.word) rfl ?_);rw[iQ (λh=>h ce)];exact qG (VJ omQ C (O.DP c5) omQ omQ H2) λ_ h6 H6=>qx (qY H6)
    ·refine jQ ce (qZ ?_);refine qQ (qw H1 (b:=v0) .here (x:=.int .u64 0) ⟨rfl,rfl⟩ (by simp[zt]) λh3 H3=>?_)
     try dsimp only
     refine qQ (qX H3 (b:=v0) .here (x:=.int .u64 0) rfl ?_);rw[iJ ce];exact qG (VJ omQ C (O.DP c5) omQ omQ (aF.I (b:=b) (t:=t) (q:=q) H3.drop)) λ_ h6 H6=>qx (qY H6)
   ·rw[iQ c5];exact qj c5 (qJ (qx (qY H2)))
theorem qYU (hn:5≤n) (O:yZ t) (H:HS g h (aF b t::R)):aA n 27 [.ptr b 0] h λr h'=>r=rC (z7 t)∧HS g h' (aF b t::R):=by
 refine aB (S:=S27) rfl omQ λk hk=>?_;unfold S27;try simp only[iZ]
 have cP:=O.st;obtain⟨q,H0⟩:=aF.E H;refine qI H0 rfl λv0 h1 H1=>?_;clear H H0;refine qK (qQ (qX H1 (b:=b) e_1 rfl ?_));unfold z7;have uF:∀{o:dF} {h':AH},HS g h' (qy v0 (x8 o)::Xo b t q R)→wp (zc h' (.ptr v0 0) 10 λv=>some (.bJ [v,.bool true],h')) λr h'=>r=rC (some o)∧HS g h' (aF b t::R):=λ{o h'} H'=>by
  refine qE H' (b:=v0) (off:=0) .here rfl omQ (l:=x8 o) rfl ?_;exact qY ⟨rfl,aF.I (q:=q) H'.drop⟩
 by_cases c1:t.state=1
 ·rw[iJ c1];refine qk c1 (qZ ?_);have C:=O.c omQ;cases hx:t.now with
  |none=>exact absurd hx C.some
  |some x=>have hN:=C.now x hx;obtain⟨a,q,H2⟩:=aF.V hx (aF.I (b:=b) (q:=q) (H1.sub (.cons e_1 (.cons e_1 (.cons e_1 (.cons e_1 (.cons e_1 (.cons e_1 (.cons e_1 (.cons e_1 (.cons .here .refl)))))))))));have H2:HS g h1 (cy a b t x q (qy v0 (x8 (bi 0 0 0))::R)):=H2;refine qK (qQ (qX H2 (b:=b) e_1 (x:=.ptr a 0) rfl ?_));refine qG (qWl omQ hN.1 H2) ?_;rintro _ h3 ⟨rfl,H3⟩;refine qB rfl (qB rfl ?_);refine qd H3 (b:=v0) e_8 rfl (by show 0+10≤10;omega) rfl λh4 H4=>?_;refine qE H4 (b:=v0) (off:=0) .here rfl omQ (l:=x8 ((jC x).getD (bi 0 0 0))) rfl ?_;exact qY ⟨rfl,cy.I (q:=q) hx (H4.drop.sub (.cons .here .refl))⟩
 ·rw[iQ c1];refine qj c1 (qJ ?_);by_cases c2:t.state=2
  ·rw[iJ c2];refine qk c2 (qZ ?_);refine qK (qQ (qX H1 (b:=b) e_1 rfl ?_));refine qL (l:=x8 (bi 8 t.cU 0)) rfl ?_;exact qd H1 (b:=v0) .here rfl (by show 0+10≤10;omega) rfl λh3 H3=>uF H3
  ·rw[iQ c2];refine qj c2 (qJ ?_);by_cases c5:t.state=5
   ·rw[iJ c5];refine qk c5 (qZ ?_);refine qK (qQ (qX H1 (b:=b) e_1 rfl ?_));refine qm H1 (n:=t.ah.length) (v:=q.sv) e_8 ?_;refine qL (l:=x8 (bi 8 t.ah.length 0)) rfl ?_;exact qd H1 (b:=v0) .here rfl (by show 0+10≤10;omega) rfl λh3 H3=>uF H3
   ·rw[iQ c5];refine qj c5 (qJ ?_);refine qL (l:=x8 (bi 0 0 0)) rfl ?_;refine qd H1 (b:=v0) .here rfl (by show 0+10≤10;omega) rfl λh3 H3=>?_;refine qE H3 (b:=v0) (off:=0) .here rfl omQ (l:=x8 (bi 0 0 0)) rfl ?_;exact qY ⟨rfl,aF.I (q:=q) H3.drop⟩
theorem qXE {r:List xD} {st im:Int} {i:Nat} (hi:i<r.length):zE (r.drop i) st im=(decide (r[i].1=st∧r[i].2≠im)||zE (r.drop (i+1)) st im):=by unfold zE;rw[List.drop_eq_getElem_cons hi,List.any_cons]
theorem qze {st im:Int} (hn:12≤n) (O:yZ t) (H:HS g h (aF b t::R)):aA n 30 [.ptr b 0,.int .i64 st,.int .u64 im] h λ_ h'=>HS g h' (aF b (zl t st im)::R):=by
 refine cL (S:=S30) rfl omQ λk hk=>?_;unfold S30;try simp only[iZ]
 have cP:=O.st;have AT:=O.rl;cases hx:t.now with
 |none=>
  obtain⟨q,H0⟩:=aF.E H;have e:q.nv=.aP:=by have H1:=H0.aI (P:=ig t.now q.nv) e_3;rw[hx]at H1;exact H1.ed.1
  refine qK (qQ (qX H0 (b:=b) .here (x:=.aP) (by rw[← e];rfl) ?_));have eW:zl t st im=t:=by
   unfold zl
   split
   ·rfl
   ·rename_i h1;rw[hx]at h1;cases h1
  rw[eW];exact Ui (qZ (qY H))
 |some x=>
  have eW:zl t st im=if zE x.r st im=true then(if t.state=4 then jg t else if t.state=1∧zx x=true then{ t with bR:=true }else t)else t:=by
   unfold zl
   split
   ·rename_i h1;rw[hx]at h1;cases h1
   ·rename_i y h1;rw[hx]at h1;cases h1;rfl
  rw[eW];have C:=O.c (λh6=>by have:=(O.fin h6).2;rw[hx]at this;cases this);have hN:=C.now x hx;have hr:=hN.1.r;obtain⟨a,q,H0⟩:=aF.V hx H;refine qK (qQ (qX H0 (b:=b) e_1 (x:=.ptr a 0) rfl ?_));refine Gr (qJ ?_);refine qK (qQ (qX H0 (b:=b) e_1 (x:=.ptr a 0) rfl ?_));refine qG (qY2 omQ hN.1 H0) λv h1 H1=>?_;refine qm H1 .here ?_;refine jR (λc s h'=>∃i:Nat,s=(.int .i64 (i:Int),.int .i64 (x.r.length:Int),v,.int .u64 im,.int .i64 st,.ptr b 0,())∧i≤x.r.length∧c=x.r.length-i∧zE x.r st im=zE (x.r.drop i) st im∧HS g h' (qD 111 2 x.r.length v (x.r.flatMap yf)::cy a b t x q R))
   ?_ (m:=x.r.length) (by show _<1000000000;omega) ⟨0,rfl,Nat.zero_le _,rfl,rfl,H1⟩
  clear H H0 H1;rintro c ih s h3 bF ⟨i,rfl,hi,rfl,hs,H⟩;dsimp only;have HT:=(cy.I (t:=t) hx H.drop);by_cases ap:i<x.r.length
  ·refine jH omQ (qZ ?_);refine zS (l:=yf x.r[i]) (H.sl .here) ap omQ (gJ (sz:=2) (enc:=yf) (λ_=>rfl) (iW ap)) ?_;refine qI H rfl λb2 h4 H4=>?_;refine qd H4 (b:=b2) .here rfl (by show 0+2≤2;omega) rfl λh5 H5=>?_;rw[qXE ap]at hs;have H6:HS g h5 (qD 111 2 x.r.length v (x.r.flatMap yf)::cy a b t x q R):=H5.drop;have on:∀c:¬(x.r[i].1=st∧x.r[i].2≠im),wp (ih (.int .i64 (i+((1:Nat):Int)),.int .i64 (x.r.length:Int),v,.int .u64 im,.int .i64 st,.ptr b 0,()) h5 []) λ_ h'=>HS g h' (aF b (if zE x.r st im=true then(if t.state=4 then jg t else if t.state=1∧zx x=true then{ t with bR:=true }else t)else t)::R):=λc=>by
    rw[iV c,Bool.false_or]at hs;exact bF (x.r.length-(i+1)) _ _ omQ ⟨i+1,rfl,by omega,rfl,hs,H6⟩
   refine qQ (qX H5 (b:=b2) .here (x:=.int .i64 x.r[i].1) rfl ?_);by_cases c1:x.r[i].1=st
   ·refine jJ c1 ?_;refine qW ?_
    try dsimp only
    refine qc (qQ (qX H5 (b:=b2) .here (x:=.int .u64 x.r[i].2) rfl ?_));by_cases c2:x.r[i].2=im
    ·refine qk c2 (qF (qZ ?_));exact qU omQ (on λh=>h.2 c2)
    ·refine qj c2 (qF (qJ ?_));rw[iG ⟨c1,c2⟩,Bool.true_or]at hs;rw[iJ hs];clear on bF;refine qW ?_
     try dsimp only
     refine qK (qQ (qX H6 (b:=b) e_2 rfl ?_));have HT:=(cy.I (t:=t) hx H6.drop);by_cases c4:t.state=4
     ·rw[iJ c4];refine qk c4 (qZ ?_);exact qG (QN omQ C.toThrB omQ HT) λ_ h7 H7=>qx (qY H7)
     ·rw[iQ c4];refine qj c4 (qJ ?_);refine qK (qQ (qX H6 (b:=b) e_2 rfl ?_));refine qW ?_
      try dsimp only
      by_cases c5:t.state=1
      ·refine qk c5 (qR ?_);refine qK (qQ (qX H6 (b:=b) e_2 (x:=.ptr a 0) rfl ?_));obtain⟨q2,H7⟩:=aE.E (H6.aI (P:=aE a x) e_1);refine qG (MF omQ H7 .here) ?_;rintro _ _ ⟨rfl,rfl⟩;by_cases c6:zx x=true
       ·rw[c6,iJ ⟨c5,rfl⟩];refine qC (qZ ?_);refine qK (qQ ?_);refine qw H6 (b:=b) e_2 ⟨rfl,rfl⟩ (by simp[yv]) λh8 H8=>?_;refine qx (qY ?_);exact cy.I (t:={ t with bR:=true }) (q:=q) hx (H8.sub (.cons e_2 (.cons .here (.drop .refl))))
       ·have c6':zx x=false:=by simpa using c6
        rw[c6',iQ (λh=>by cases h.2)];exact qC (qJ (qx (qY HT)))
      ·rw[iQ (λh=>c5 h.1)];exact qj c5 (qS (qF (qJ (qx (qY HT)))))
   ·refine jQ c1 ?_;refine qW ?_
    try dsimp only
    refine jZ (qC (qZ ?_));exact qU omQ (on λh=>c1 h.1)
  ·obtain rfl:i=x.r.length:=by omega
   refine jz omQ (qJ ?_);rw[List.drop_length]at hs;rw[hs];exact qx (qY HT)
end
end
section
variable {g h:AH} {L R:List SP}
theorem PL {D:Nat→Prop} {sz n hi b cp sY:Nat} {o:Bool} {xs:List AV} (S:Sl D h sz n (.slice b 0 n cp o) xs) (hle:hi≤n):Sl D h sz hi (.slice b 0 hi sY o) (xs.take (hi*sz)):=by
 have hm:=Nat.mul_le_mul_right sz hle;cases S with
 |mk hd hb hr hl ha=>exact .mk hd hb hr (by rw[List.length_take,hl];omega) λi l9=>by rw[ha i omQ,List.getElem?_take_of_lt l9]
theorem PM {hi sz n:Nat} {e:TypeId} {k:IntKind} {v:AV} {xs:List AV} {K:AV→Go.Ae.R} {Q:AV→AH→Prop} (H:HS g h L) (s:bc L (qD e sz n v xs) R) (bw:0<sz) (hle:hi≤n)
  (w:∀v',Rd g L sz hi v' (xs.take (hi*sz))→wp (K v') Q):wp (yQ h e sz v none (some (.int k (hi:Int))) K) Q:=by
 have hm:=Nat.mul_le_mul_right sz hle;obtain⟨D,hl,⟨rfl,hn,hD⟩ |⟨b,cp,o,zs,rfl,hD,A,q1,q2,q3⟩⟩:=H.p s
 ·subst hn;obtain rfl:hi=0:=by omega
  exact w .ak λ_ _=>by rw[Nat.zero_mul,List.take_zero];exact .ak
 ·cases o with
  |false=>
   rw[iQ aN]at q3;refine Zf (hi:=hi) (lo:=0) (y0 omQ) rfl ?_;have:=w (.slice b 0 hi cp false) λh' H'=>PL (H'.sl s) hle;have e0:(bif Nat.beq cp 0 then 0 else 0+0*sz)=0:=by cases Nat.beq cp 0<;>simp
   rw[e0];exact this
  |true=>rw[iJ rfl]at q3;subst q3;refine NV (i0:=0) (hi:=hi) (lo:=0) A bw omQ omQ (y0 hle) rfl (.inr rfl) ?_;have:=w (.slice b 0 hi 0 true) λh' H'=>PL (H'.sl s) hle;simpa using this
theorem OS {n m:Nat} {e:TypeId} {v:AV} {xs:List AV} {R2:List SP} (hn:1≤n) (H:HS g h L) (s:bc L (qD e 5 m v xs) R2) (ha:ql xs=true) (hm:m≤1000000) :
  aA n 48 [v] h λr h'=>HS g h' (qD 26 5 m r xs::L):=by
 refine aB (S:=S48) rfl omQ λk hk=>?_;unfold S48;try simp only[iZ]
 refine Qh H s (λh1 h2=>?_) (qJ ?_)
 ·subst h1 h2;obtain rfl:xs=[]:=iA (by simpa using H.cZ s);exact qZ (qY H.ak)
 ·refine qf (n:=0) (l:=[]) (sz:=5) H rfl rfl rfl rfl λv2 h2 H2=>?_;refine ju H2 (H2.sl (.there s)) omQ omQ ha λv3 h3 H3=>?_;rw[Nat.zero_add,List.nil_append]at H3;exact qY H3
theorem O5 {n m:Nat} {e:TypeId} {v:AV} {xs:List AV} {R2:List SP} (hn:1≤n) (H:HS g h L) (s:bc L (qD e 4 m v xs) R2) (ha:ql xs=true) (hm:m≤1000000) :
  aA n 61 [v] h λr h'=>HS g h' (qD 46 4 m r xs::L):=by
 refine aB (S:=S61) rfl omQ λk hk=>?_;unfold S61;try simp only[iZ]
 refine Qh H s (λh1 h2=>?_) (qJ ?_)
 ·subst h1 h2;obtain rfl:xs=[]:=iA (by simpa using H.cZ s);exact qZ (qY H.ak)
 ·refine qf (n:=0) (l:=[]) (sz:=4) H rfl rfl rfl rfl λv2 h2 H2=>?_;refine ju H2 (H2.sl (.there s)) omQ omQ ha λv3 h3 H3=>?_;rw[Nat.zero_add,List.nil_append]at H3;exact qY H3
section
variable {n b:Nat} {t:qt} {q:Us}
theorem OZ (hn:2≤n) (hr:t.results.length≤1000000) (H:HS g h (aF b t::R)):aA n 34 [.ptr b 0] h λr h'=>HS g h' (qD 46 4 t.results.length r (t.results.flatMap Jb)::aF b t::R):=by
 refine aB (S:=S34) rfl omQ λk hk=>?_;unfold S34;try simp only[iZ]
 obtain⟨q,H0⟩:=aF.E H;refine qK (qQ (qX H0 (b:=b) .here rfl ?_));refine qG (O5 (v:=q.rv) (xs:=t.results.flatMap Jb) omQ H0 e_5 (JL (λ_=>rfl) _) hr) λv h1 H1=>qY ?_;exact HS.cm e_1 (aF.I (q:=q) (H1.sub (.cons e_1 (.cons e_1 (.cons e_1 (.cons e_1 (.cons e_1 (.cons e_1 (.cons e_1 (.cons e_1 (.cons .here .refl)))))))))))
theorem qQD {me:Int} {s:zK} {js:List (List qa)} {v:AV} (hn:13≤n) (Pm:-1000000≤me∧me≤1000000) (hs:0≤s.start) (hj:∀l∈js,(xZ l).2=0∧Quiet l) (lT:js.length≤1000000) (H:HS g h (aW js v::R)) :
  aA n 26 [.int .i64 me,.agg (x5 s),v] h λr h'=>∃b,r=.ptr b 0∧HS g h' (aF b (Qj me s js)::aW js v::R):=by
 refine cL (S:=S26) rfl omQ λk hk=>?_;unfold S26;try simp only[iZ]
 obtain⟨vs,Cz,H⟩:=aW.E H;refine qI H rfl λb0 h1 H1=>?_;refine qE H1 (b:=b0) (off:=0) .here rfl omQ (l:=x5 s) rfl ?_;refine qG (Ug omQ H1) ?_;rintro _ h2 ⟨rfl,H2⟩;clear H H1;have SO:=vC hs;refine qd H2 (b:=b0) .here rfl (by show 0+8≤8;omega) rfl λh3 H3=>?_;have H3:HS g h3 (qy b0 (x5 (jG s))::qD 29 1 js.length v vs:: .all (List.zipWith yy vs js)::R):=H3;unfold Qj;generalize jG s=S at*;clear H2;have h4:=SO.aa;refine qW ?_
 try dsimp only
 refine qQ (qh (qX H3 (b:=b0) .here (x:=.int .i64 S.aa) rfl ?_));refine zB omQ (zz (zh ?_));refine qE H3 (b:=b0) (off:=0) .here rfl omQ (l:=x5 S) rfl ?_;refine qG (qX5 omQ H3) ?_;rintro _ h5 ⟨lb,rfl,H5⟩;have et:max ((0:Nat):Int) (min me (S.aa-((1:Nat):Int)))=max 0 (min me (S.aa-1)):=rfl;rw[et]
 let T:List (List qa)→qt:=λjs=>⟨max 0 (min me (S.aa-1)),S,js,-1,0,false,[],0,0,none,0,false,[],[],[],[],0,0,false,0⟩
 refine qL (l:=yv (T []) ⟨.ak,.ak,.aP,.ak,.ak,lb,.ak⟩) rfl ?_;refine qI H5 rfl λb h6 H6=>?_;refine zO H3 .here rfl H5 e_1 rfl rfl omQ (HS.lt H3 .here) ?_;refine qb H3 .here rfl H5 e_1 rfl (HS.lt H3 .here) ?_
 try dsimp only
 have N1:=(H6.ak (e:=150) (sz:=2));have N2:=HS.eK (φ:=AV.aP=.aP) rfl N1;have N3:=dV.I (r:=[]) (v:=.ak) (zs:=[]) rfl ((HS.allI (A:=[]) N2).ak);have N4:=N3.ak (e:=46) (sz:=4);have N5:=N4.ak (e:=24) (sz:=1);have N6:=aW.I (js:=[]) (v:=.ak) (vs:=[]) rfl ((HS.allI (A:=[]) N5).ak);have N7:HS g h6 (Xo b (T []) ⟨.ak,.ak,.aP,.ak,.ak,lb,.ak⟩ (qD 29 1 js.length v vs:: .all (List.zipWith yy vs js)::R)) :=
  N6.sub (.cons e_6 (.cons .here (.cons e_4 (.cons e_3 (.cons e_2 (.cons e_1 (.cons e_1 (.cons .here (.drop .refl)))))))))
 have N8:=aF.I N7;clear N1 N2 N3 N4 N5 N6 N7 H3 H5 H6;refine qm N8 (n:=js.length) (v:=v) e_1 ?_;refine zz ?_;rw[show min ((js.length:Nat):Int) ((6:Nat):Int)=((min js.length 6:Nat):Int) by omega];have hm6:min js.length 6≤js.length∧min js.length 6≤6:=by omega
 have Hl:js.take (min js.length 6)=js.take 6:=by
  rcases Nat.lt_or_ge js.length 6 with h |h
  ·rw[Nat.min_eq_left omQ,List.take_length,List.take_of_length_le omQ]
  ·rw[Nat.min_eq_right h]
 rw[← Hl];generalize min js.length 6=m at*;refine PM (hi:=m) N8.drop .here omQ hm6.1 λv' SV=>?_;refine xS (SV.more.sl N8) ?_;refine jR (λc s h'=>∃i:Nat,s=(.int .i64 (i:Int),.int .i64 (m:Int),v',.ptr b 0,())∧i≤m∧c=m-i∧HS g h' (aF b (T (js.take i))::qD 29 1 js.length v vs:: .all (List.zipWith yy vs js)::R))
  ?_ (m:=m) (by show _<1000000000;omega) ⟨0,rfl,Nat.zero_le _,rfl,N8⟩
 clear N8;rintro c ih s h7 bF ⟨i,rfl,hi,rfl,H⟩;dsimp only;by_cases ap:i<m
 ·have sV:i<js.length:=by omega
  have DW:i<vs.length:=by omega
  have ta:js[i]? =some js[i]:=iW sV;have hz:(List.zipWith yy vs js)[i]? =some (yy vs[i] js[i]):=by rw[List.getElem?_zipWith,iW DW,ta]
  have dJ:=hj _ (List.getElem_mem sV);have hle:=(M2 dJ.1).le;have HB0:=(H.aI (P:=.all (List.zipWith yy vs js)) e_2).cq;have o0:One vs[i]:=HB0.one (e:=26) (sz:=5) (n:=js[i].length) (G6 hz);refine jH omQ (qZ ?_);refine zS (l:=[vs[i]]) (SV.more.sl H) ap omQ (by rw[Nat.mul_one,Nat.mul_one,List.drop_eq_getElem_cons (by rw[List.length_take];omega)];simp) ?_;refine qI H rfl λb2 h8 H8=>?_;refine qd H8 (b:=b2) .here rfl (by show 0+1≤1;omega) (by show ql [vs[i]]=true;simp[ql,o0.2]) λh9 H9=>?_;refine qW ?_
  try dsimp only
  obtain⟨q,HA⟩:=aF.E (H9.aI (P:=aF b (T (js.take i))) e_1);refine qK (qQ (qX HA (b:=b) .here rfl ?_));refine qQ (qX HA (b:=b2) e_8 (x:=vs[i]) rfl ?_);have HB:=(HA.aI (P:=.all (List.zipWith yy vs js)) e_10).cq;refine qG (OS (e:=26) (m:=js[i].length) (xs:=js[i].flatMap zD) omQ HB (G6 hz) (JL (λ_=>rfl) _) omQ) λpv hC HC=>?_;have HD:HS g hC (.all (List.zipWith yy vs js)::yy pv js[i]::qy b (yv (T (js.take i)) q)::_):=HS.allI (HS.cm PD HC);have op:=HD.one (e:=26) (sz:=5) (n:=js[i].length) e_1;refine qL (l:=[pv]) (by simp only[xT,op.1];rfl) ?_;refine qf (n:=1) (l:=[pv]) (sz:=1) HD rfl rfl (by simp only[yI,xT,AV.cells,op.1];rfl) (by simp[ql,op.2]) λv2 hE HE=>?_;obtain⟨ws,As,HF⟩:=aW.E (HE.aI (P:=aW (js.take i) q.jv) e_4);have hti:(js.take i).length=i:=by rw[List.length_take];omega
  refine ju HF (HF.sl e_2) omQ omQ (by simp[ql,op.2]) λv3 hG HG=>?_;have o3:=HG.one .here;refine qK (qQ ?_);refine qw HG (b:=b) e_5 o3 (by simp[yv]) λhH HH=>?_;refine qb HA .here rfl HD e_2 rfl (HS.lt HA .here) ?_;refine qU omQ ?_;refine bF (m-(i+1)) _ _ omQ ⟨i+1,rfl,by omega,rfl,?_⟩;have et:js.take (i+1)=js.take i++[js[i]]:=by rw[List.take_add_one,ta];rfl
  have ez:List.zipWith yy (ws++[pv]) (js.take i++[js[i]])=List.zipWith yy ws (js.take i)++[yy pv js[i]]:=by rw[List.zipWith_append As];rfl
  have HI:=NG (A:=List.zipWith yy ws (js.take i)) (B:=[yy pv js[i]]) (HH.sub (.cons e_2 (.cons e_4 .refl)));have HJ:=aW.I (v:=v3) (js:=js.take i++[js[i]]) (vs:=ws++[pv]) (by rw[List.length_append,List.length_append,As];rfl) (by rw[ez,List.length_append];exact HI.sub (.cons e_2 (.cons .here .refl)));rw[et];exact aF.I (t:=T (js.take i++[js[i]])) (q:={ q with jv:=v3 }) (HJ.sub (.cons e_1 (.cons .here (.cons e_2 (.cons e_2 (.cons e_2 (.cons e_2 (.cons e_2 (.cons e_2 (.cons e_3 (.cons e_1 (.drop (.drop .refl)))))))))))))
 ·obtain rfl:i=m:=by omega
  refine jz omQ (qJ ?_);refine qG (wc (t:=T (js.take i)) omQ ⟨SO,by show 0≤max 0 (min me (S.aa-1))∧max 0 (min me (S.aa-1))<S.aa;omega,λl hl=>hj l (List.mem_of_mem_take hl),by show(js.take i).length≤6;rw[List.length_take];omega,by show(0:Int)≤ -1+1∧(-1:Int)+1≤_;omega,Nat.le_refl _,Nat.zero_le _,by show(0:Int)≤0∧(0:Int)≤(([]:List Gi).length:Int);decide,by show(0:Int)≤0∧(0:Int)≤0;decide,λ_=>rfl⟩ H) λ_ h8 H8=>qx (qY ⟨b,rfl,?_⟩);exact HS.cm e_1 (aW.I Cz (H8.sub (.cons e_1 (.cons e_1 .refl))))
end
end
section
variable {g h:AH} {L R:List SP}
def JH (m:gK) (p:Nat) (tv:AV):List AV:=[.int .i64 m.s.words,.int .i64 m.s.ax,.int .i64 m.s.wide,.int .i64 m.s.aa,.int .u64 m.s.start,.int .i64 m.s.ao,.int .i64 m.s.writes,.int .i64 m.s.fuel,.ptr p 0,tv,.int .i64 m.aK,
 .int .i64 m.last.kind,.int .i64 m.last.at_,.int .u64 m.last.cS,.int .u64 m.last.word,.int .u64 m.last.aZ.1,.bool m.last.aZ.2.1,.int .i64 m.last.aZ.2.2,.int .u64 m.last.lk.1,.bool m.last.lk.2.1,.int .i64 m.last.lk.2.2,.bool m.did]
def vL (ps:List Nat) (ts:List qt):List SP:=List.zipWith aF ps ts
def Q4 (ps:List Nat):List AV:=ps.map λa=>.ptr a 0
abbrev U0 (b:Nat) (m:gK) (p:Nat) (tv:AV) (ps:List Nat) (R:List SP):List SP :=
 qy b (JH m p tv)::qD 74 1 m.t.length tv (Q4 ps)::bQ p m.s m.m:: .all (vL ps m.t)::R
def bY (b:Nat) (m:gK):SP:=.ex λq:Nat×AV×List Nat=>.all (.fa (q.2.2.length=m.t.length)::U0 b m q.1 q.2.1 q.2.2 [])
theorem bY.E {b:Nat} {m:gK} (H:HS g h (bY b m::R)):∃p tv ps,ps.length=m.t.length∧HS g h (U0 b m p tv ps R):=by obtain⟨⟨p,tv,ps⟩,H⟩:=H.dU;obtain⟨h1,H⟩:=H.cq.ed;exact⟨p,tv,ps,h1,H⟩
theorem bY.I {b p:Nat} {m:gK} {tv:AV} {ps:List Nat} (hl:ps.length=m.t.length) (H:HS g h (U0 b m p tv ps R)):HS g h (bY b m::R) :=
 HS.en (p,tv,ps) (HS.allI (A:=.fa (ps.length=m.t.length)::U0 b m p tv ps []) (HS.eK hl H))
theorem bY.I1 {b p:Nat} {m:gK} {tv:AV} {ps:List Nat} {X:SP} (hl:ps.length=m.t.length) (H:HS g h (X::U0 b m p tv ps R)):HS g h (X::bY b m::R) :=
 HS.cm e_1 (bY.I (tv:=tv) (p:=p) hl (H.sub (.cons e_1 (.cons e_1 (.cons e_1 (.cons e_1 (.cons .here .refl)))))))
theorem Uh {A:List SP} {P:SP} {i:Nat} (h:A[i]? =some P):bc A P (A.eraseIdx i):=by
 have:=G6 (R:=[]) h
 rwa [List.append_nil,List.append_nil]at this
theorem Hm {ps:List Nat} {ts:List qt} {i a:Nat} {t:qt} (h1:ps[i]? =some a) (h2:ts[i]? =some t):(vL ps ts)[i]? =some (aF a t):=by unfold vL;rw[List.getElem?_zipWith,h1,h2]
theorem qjr {ps:List Nat} {ts:List qt} {i a:Nat} {u:qt} (h1:ps[i]? =some a):vL ps (ts.set i u)=(vL ps ts).set i (aF a u):=by
 unfold vL;apply List.ext_getElem?;intro k;rw[List.getElem?_zipWith,List.getElem?_set,List.getElem?_set,List.getElem?_zipWith];by_cases e:i=k
 ·subst e;rw[iJ rfl,iJ rfl,h1,List.length_zipWith];have hi:=(List.getElem?_eq_some_iff.1 h1).1;by_cases c:i<ts.length
  ·rw[iJ c,iJ omQ]
  ·rw[iQ c,iQ omQ]
 ·rw[iQ e,iQ e]
theorem KH {ps:List Nat} {ts:List qt} {i a:Nat} {t:qt} (h1:ps[i]? =some a) (h2:ts[i]? =some t) (H:HS g h (.all (vL ps ts)::R)):HS g h (aF a t:: .all ((vL ps ts).eraseIdx i)::R) :=
 HS.pH (Uh (Hm h1 h2)) H
theorem Nj {ps:List Nat} {ts:List qt} {i a:Nat} {u:qt} (h1:ps[i]? =some a) (h2:i<ts.length) (H:HS g h (aF a u:: .all ((vL ps ts).eraseIdx i)::R)):HS g h (.all (vL ps (ts.set i u))::R):=by
 have e:(vL ps ts).eraseIdx i=(vL ps (ts.set i u)).eraseIdx i:=by rw[qjr h1,List.eraseIdx_set_eq]
 rw[e]at H;exact HS.pJ (Uh (Hm h1 (List.getElem?_set_self h2))) H
theorem qWs {ps:List Nat} {ts:List qt} {i a:Nat} {t:qt} (h1:ps[i]? =some a) (h2:ts[i]? =some t) (H:HS g h (aF a t:: .all ((vL ps ts).eraseIdx i)::R)):HS g h (.all (vL ps ts)::R) :=
 HS.pJ (Uh (Hm h1 h2)) H
theorem NI {ps:List Nat} {i a:Nat} (h:ps[i]? =some a):(Q4 ps)[i]? =some (.ptr a 0):=by unfold Q4;rw[List.getElem?_map,h];rfl
section
variable {n b p:Nat} {m:gK} {tv:AV} {ps:List Nat}
theorem ZD {i a:Nat} (hn:1≤n) (hl:ps.length=m.t.length) (h1:ps[i]? =some a) (hb:m.t.length≤1000) (H:HS g h (U0 b m p tv ps R)) :
  aA n 32 [.ptr b 0,.int .i64 (i:Int)] h λr h'=>r=.ptr a 0∧h'=h:=by
 refine ba (S:=S32) rfl omQ λk hk=>?_;unfold S32;try simp only[iZ]
 have hi:=(List.getElem?_eq_some_iff.1 h1).1;refine jz omQ ?_;refine qW ?_
 try dsimp only
 refine qc (qK (qQ (qX H (b:=b) .here rfl ?_)));refine qm H (sz:=1) (n:=m.t.length) (v:=tv) e_1 ?_;refine zY omQ ?_
 try dsimp only
 refine qF (qJ ?_);refine qK (qQ (qX H (b:=b) .here rfl ?_));refine jb (H.sl (v:=tv) (xs:=Q4 ps) e_1) (x:=.ptr a 0) (NI h1) ?_;exact qY ⟨rfl,rfl⟩
theorem kf {i:Nat} {t:qt} (hn:2≤n) (ht:m.t[i]? =some t) (hb:m.t.length≤1000) (H:HS g h (bY b m::R)) :
  aA n 8 [.ptr b 0,.int .i64 (i:Int)] h λr h'=>r=.int .i64 t.state∧h'=h:=by
 refine ba (S:=S8) rfl omQ λk hk=>?_;unfold S8;try simp only[iZ]
 obtain⟨p,tv,ps,hl,H⟩:=bY.E H;have hi:=(List.getElem?_eq_some_iff.1 ht).1;have h1:ps[i]? =some (ps[i]'omQ):=iW omQ;refine qG (ZD omQ hl h1 hb H) ?_;rintro _ _ ⟨rfl,rfl⟩;refine G5 (qZ ?_);obtain⟨q,H2⟩:=aF.E (KH h1 ht (H.aI (P:=.all (vL ps m.t)) e_3));refine qG (VR omQ H2 .here) ?_;rintro _ _ ⟨rfl,rfl⟩;exact qY ⟨rfl,rfl⟩
theorem Ut {i:Nat} {t:qt} (hn:4≤n) (ht:m.t[i]? =some t) (hr:t.results.length≤1000000) (hb:m.t.length≤1000) (H:HS g h (bY b m::R)) :
  aA n 10 [.ptr b 0,.int .i64 (i:Int)] h λr h'=>HS g h' (qD 46 4 t.results.length r (t.results.flatMap Jb)::bY b m::R):=by
 refine ba (S:=S10) rfl omQ λk hk=>?_;unfold S10;try simp only[iZ]
 obtain⟨p,tv,ps,hl,H⟩:=bY.E H;have hi:=(List.getElem?_eq_some_iff.1 ht).1;have h1:ps[i]? =some (ps[i]'omQ):=iW omQ;refine qG (ZD omQ hl h1 hb H) ?_;rintro _ _ ⟨rfl,rfl⟩;refine G5 (qZ ?_);have H2:=KH h1 ht (H.aI (P:=.all (vL ps m.t)) e_3);refine qG (OZ omQ hr H2) λv h3 H3=>?_;refine qY ?_;have H4:=qWs h1 ht (H3.sub (.cons e_1 (.cons e_1 .refl)));exact bY.I1 hl (H4.sub (.cons e_1 (.cons e_1 (.cons e_1 (.cons e_1 (.cons .here .refl))))))
theorem Ob (hn:4≤n) (hw:m.m.w.length≤1000000) (H:HS g h (bY b m::R)) :
  aA n 7 [.ptr b 0] h λr h'=>HS g h' (qD 24 1 m.m.w.length r (m.m.w.map (.int .u64))::bY b m::R):=by
 refine aB (S:=S7) rfl omQ λk hk=>?_;unfold S7;try simp only[iZ]
 obtain⟨p,tv,ps,hl,H⟩:=bY.E H;refine qK (qQ (qX H (b:=b) .here (x:=.ptr p 0) rfl ?_));refine qG (qK1 omQ hw (H.aI (P:=bQ p m.s m.m) e_2)) λv h2 H2=>qY ?_;exact bY.I1 hl (H2.sub (.cons .here (.cons e_1 (.cons e_1 (.cons .here .refl)))))
theorem Zw (hn:2≤n) (hb:m.t.length≤1000) (H:HS g h (bY b m::R)):aA n 9 [.ptr b 0] h λr h'=>r=.bool (vq m)∧h'=h:=by
 refine aB (S:=S9) rfl omQ λk hk=>?_;unfold S9;try simp only[iZ]
 obtain⟨p,tv,ps,hl,H⟩:=bY.E H;refine qK (qQ (qX H (b:=b) .here (x:=tv) rfl ?_));refine qm H (sz:=1) (n:=m.t.length) (v:=tv) e_1 ?_;refine jR (λc s h'=>∃i:Nat,s=(.int .i64 (i:Int),.int .i64 (m.t.length:Int),tv,())∧i≤m.t.length∧c=m.t.length-i∧(m.t.take i).all (λt=>decide (t.state=6∨t.state=4))=true∧h'=h)
  ?_ (m:=m.t.length) (by show _<1000000000;omega) ⟨0,rfl,Nat.zero_le _,rfl,rfl,rfl⟩
 rintro c ih s _ bF ⟨i,rfl,hi,rfl,ha,rfl⟩;dsimp only;by_cases ap:i<m.t.length
 ·refine jH omQ (qZ ?_);have ht:m.t[i]? =some m.t[i]:=iW ap;have h1:ps[i]? =some (ps[i]'omQ):=iW omQ;refine jb (H.sl (v:=tv) (xs:=Q4 ps) e_1) (x:=.ptr (ps[i]'omQ) 0) (NI h1) ?_;obtain⟨q,H2⟩:=aF.E (KH h1 ht (H.aI (P:=.all (vL ps m.t)) e_3));refine qG (VR omQ H2 .here) ?_;rintro _ _ ⟨rfl,rfl⟩;have no:¬(m.t[i].state=6∨m.t[i].state=4)→vq m=false:=λc=>by
   unfold vq;rw[Bool.eq_false_iff];intro hh;have:=List.all_eq_true.1 hh _ (List.getElem_mem ap);exact c (of_decide_eq_true this)
  have on:(m.t[i].state=6∨m.t[i].state=4)→(m.t.take (i+1)).all (λt=>decide (t.state=6∨t.state=4))=true:=λc=>by
   rw[List.take_add_one,ht,List.all_append,ha];show(true&&(decide (m.t[i].state=6∨m.t[i].state=4)&&true))=true;rw[iG c];rfl
  by_cases c6:m.t[i].state=6
  ·refine jJ c6 ?_;refine qW ?_
   try dsimp only
   refine qS (qF (qJ ?_));refine qU omQ ?_;exact bF (m.t.length-(i+1)) _ _ omQ ⟨i+1,rfl,by omega,rfl,on (.inl c6),rfl⟩
  ·refine jQ c6 ?_;refine qW ?_
   try dsimp only
   refine qR ?_;by_cases c4:m.t[i].state=4
   ·refine jJ c4 (qC (qJ ?_));refine qU omQ ?_;exact bF (m.t.length-(i+1)) _ _ omQ ⟨i+1,rfl,by omega,rfl,on (.inr c4),rfl⟩
   ·refine jQ c4 (qC (qZ ?_));exact qx (qY ⟨by rw[no omQ],rfl⟩)
 ·obtain rfl:i=m.t.length:=by omega
  refine jz omQ (qJ ?_);rw[List.take_length]at ha;exact qx (qY ⟨by unfold vq;rw[ha],rfl⟩)
end
end
section
variable {g h:AH} {L R:List SP}
section
variable {n b p:Nat} {m:gK} {tv:AV} {ps:List Nat}
structure we (ts:List qt) (i:Nat) (s v:Int) (k:Nat) (us:List qt):Prop where
  len:us.length=ts.length
  lo:∀j,j<k→us[j]? =(yS ts i s v)[j]?
  hi:∀j,k≤j→us[j]? =ts[j]?
theorem we.done {ts us:List qt} {i:Nat} {s v:Int} (W:we ts i s v ts.length us):us=yS ts i s v:=by
 have hw:(yS ts i s v).length=ts.length:=by unfold yS;simp
 apply List.ext_getElem?;intro j;by_cases c:j<ts.length
 ·exact W.lo j c
 ·have h1:=W.len;rw[List.getElem?_eq_none omQ,List.getElem?_eq_none omQ]
theorem we.same {ts us:List qt} {i:Nat} {s v:Int} (W:we ts i s v i us):we ts i s v (i+1) us :=
 ⟨W.len,λj hj=>by
  by_cases c:j<i
  ·exact W.lo j c
  ·obtain rfl:j=i:=by omega
   rw[W.hi j (Nat.le_refl _),Jg];cases ts[j]? with
   |none=>rfl
   |some t=>show some t=some (if j=j then t else _);rw[iJ rfl],λj hj=>W.hi j omQ⟩
theorem we.next {ts us:List qt} {i k:Nat} {s v:Int} {t:qt} (W:we ts i s v k us) (hk:k≠i) (ht:ts[k]? =some t):we ts i s v (k+1) (us.set k (zl t s v)):=by
 have h1:=W.len;have h2:=(List.getElem?_eq_some_iff.1 ht).1;refine⟨by rw[List.length_set];exact h1,λj hj=>?_,λj hj=>?_⟩
 ·by_cases c:j=k
  ·subst c;rw[List.getElem?_set_self omQ,Jg,ht];show _=some (if j=i then t else zl t s v);rw[iQ hk]
  ·rw[List.getElem?_set_ne (λh=>c h.symm)];exact W.lo j omQ
 ·rw[List.getElem?_set_ne omQ];exact W.hi j omQ
theorem YV {i:Nat} {draw:Int} (hn:29≤n) (K:V8 m) (hi:i<m.t.length) (hb:m.t.length≤1000) (hp:m.aK≤900000) (hd:0≤draw∧draw<256) (H:HS g h (bY b m::R)) :
  aA n 6 [.ptr b 0,.int .i64 (i:Int),.int .u8 draw] h λr h'=>r=.int .i64 0∧HS g h' (bY b (xj m i draw)::R):=by
 refine cL (S:=S6) rfl omQ λk hk=>?_;unfold S6;try simp only[iZ]
 obtain⟨p,tv,ps,hl,H⟩:=bY.E H;have ht:m.t[i]? =some m.t[i]:=iW hi;have h1:ps[i]? =some (ps[i]'omQ):=iW omQ;obtain⟨O,W,hpa⟩:=K.t i _ ht;have hpk:=K.aK;have sC:=K.b6;have MR:=K.r;have KT:=K.t;unfold xj;rw[ht];dsimp only;generalize(ps[i]'omQ)=a at*;generalize hte:m.t[i]=t at*;refine jz omQ ?_;refine qW ?_
 try dsimp only
 refine qc (qK (qQ (qX H (b:=b) .here (x:=tv) rfl ?_)));refine qm H (sz:=1) (n:=m.t.length) (v:=tv) e_1 ?_;refine zY omQ ?_
 try dsimp only
 refine qF (qJ ?_);refine qK (qQ (qX H (b:=b) .here (x:=.int .i64 m.aK) rfl ?_));refine qU omQ ?_;refine qK (qQ ?_);refine qw H (b:=b) .here ⟨rfl,rfl⟩ (by simp[JH]) λh2 H2=>?_;refine qK (qQ (qX H2 (b:=b) .here (x:=tv) rfl ?_));refine jb (H2.sl (v:=tv) (xs:=Q4 ps) e_1) (x:=.ptr a 0) (NI h1) ?_;have H3:=KH h1 ht (H2.aI (P:=.all (vL ps m.t)) e_3);refine qG (qYU omQ O H3) ?_;rintro _ h4 ⟨rfl,H4⟩;refine qB rfl (qB rfl ?_);clear H H2 H3;refine qK (qQ ?_);refine qd H4 (b:=b) e_2 rfl (by simp[JH,x8]) rfl λh5 H5=>?_;have H5:HS g h5 (qy b (JH { m with aK:=m.aK+1,last:=(z7 t).getD (bi 0 0 0) } p tv)::aF a t:: .all ((vL ps m.t).eraseIdx i)::qD 74 1 m.t.length tv (Q4 ps)::bQ p m.s m.m::R):=H5;refine qK (qQ ?_);refine qw H5 (b:=b) .here ⟨rfl,rfl⟩ (by simp[JH]) λh6 H6=>?_;refine qK (qQ (qX H6 (b:=b) .here (x:=.bool (z7 t).isSome) rfl ?_));clear H4 H5;cases o8:z7 t with
 |none=>rw[o8]at H6;refine jF (qZ ?_);have H7:HS g h6 (qy b (JH { m with aK:=m.aK+1,last:=bi 0 0 0,did:=false } p tv)::aF a t:: .all ((vL ps m.t).eraseIdx i)::qD 74 1 m.t.length tv (Q4 ps)::bQ p m.s m.m::R):=H6;refine qG (qVR omQ O (H7.aI (P:=aF a t) e_1)) λ_ h8 H8=>qY ⟨rfl,?_⟩;have H9:=Nj h1 hi (H8.sub (.cons .here (.cons e_1 .refl)));refine bY.I (p:=p) (tv:=tv) (ps:=ps) (by show ps.length=(m.t.set i _).length;rw[List.length_set];exact hl) ?_;unfold U0;rw[show({ m with aK:=m.aK+1,last:=bi 0 0 0,did:=false,t:=m.t.set i (jc t) }:gK).t.length=m.t.length from List.length_set];exact H9.sub (.cons e_1 (.cons e_1 (.cons e_1 (.cons .here .refl))))
 |some o=>
  rw[o8]at H6;refine jA (qJ ?_);have ho:=VW O W o8;have rr:=Ps MR ho;have H7:HS g h6 (qy b (JH { m with aK:=m.aK+1,last:=o,did:=true } p tv)::aF a t:: .all ((vL ps m.t).eraseIdx i)::qD 74 1 m.t.length tv (Q4 ps)::bQ p m.s m.m::R):=H6;clear H6;refine qW ?_
  try dsimp only
  refine qK (qQ (qX H7 (b:=b) .here (x:=.ptr p 0) rfl ?_));refine qK (qQ (qE H7 (b:=b) (off:=11) .here rfl (by simp[JH]) (l:=x8 o) rfl ?_));refine qG (L8 (o:=o) omQ ⟨sC.1,by omega⟩ (H7.aI (P:=bQ p m.s m.m) e_4)) ?_;rintro _ h8 ⟨rfl,H8⟩;refine qK (qQ (qX H8 (b:=b) e_1 (x:=.int .i64 (m.aK+1)) rfl ?_));refine qG (qqF (an:=(qu m.m o).1) (draw:=draw) (pick:=m.aK+1) omQ O rr.1 hd omQ (H8.aI (P:=aF a t) e_2)) λ_ h9 H9=>?_;refine qb H7 .here rfl H8 e_1 rfl (HS.lt H7 .here) ?_
  try dsimp only
  clear H7 H8;have HA:=Nj h1 hi (H9.sub (.cons .here (.cons e_2 .refl)));have O':=V6 O rr.1 hd.1 (pick:=m.aK+1) (draw:=draw);have CC:∀k v,(m.t.set i (zj t (qu m.m o).1 draw (m.aK+1)))[k]? =some v→yZ v:=λk v hv=>by
   by_cases e:k=i
   ·subst e;rw[List.getElem?_set_self hi]at hv;cases hv;exact O'
   ·rw[List.getElem?_set_ne (λh=>e h.symm)]at hv;exact(KT k v hv).1
  generalize EM:m.t.set i (zj t (qu m.m o).1 draw (m.aK+1))=ts at*;have htl:ts.length=m.t.length:=by rw[← EM,List.length_set]
  have HB:HS g h9 (qy b (JH { m with aK:=m.aK+1,last:=o,did:=true } p tv)::qD 74 1 ts.length tv (Q4 ps)::bQ p m.s (qu m.m o).2:: .all (vL ps ts)::R):=by rw[htl];exact HA.sub (.cons e_2 (.cons e_2 (.cons e_1 (.cons .here .refl))))
  clear H9 HA;generalize qu m.m o=r at*;refine qK (qQ (qh (qX HB (b:=b) .here (x:=.int .i64 o.kind) rfl ?_)));by_cases c5:o.kind=5
  ·rw[iJ c5];refine jJ c5 (qJ ?_);refine qK (qQ (qX HB (b:=b) .here (x:=tv) rfl ?_));refine qm HB (sz:=1) (n:=ts.length) (v:=tv) e_1 ?_
   refine jR (λc s h'=>∃(k:Nat) (us:List qt),s=(.int .i64 (k:Int),.int .i64 (ts.length:Int),tv,.int .i64 (i:Int),.ptr b 0,())∧k≤ts.length∧c=ts.length-k∧we ts i o.at_ o.lk.1 k us∧
     HS g h' (qy b (JH { m with aK:=m.aK+1,last:=o,did:=true } p tv)::qD 74 1 ts.length tv (Q4 ps)::bQ p m.s r.2:: .all (vL ps us)::R))
    ?_ (m:=ts.length) (by show _<1000000000;omega) ⟨0,ts,rfl,Nat.zero_le _,rfl,⟨rfl,λj hj=>absurd hj omQ,λj _=>rfl⟩,HB⟩
   clear HB;rintro c ih s h8 bF ⟨k,us,rfl,hk,rfl,WK,H⟩;dsimp only;by_cases ap:k<ts.length
   ·refine jH omQ (qZ ?_);have lP:ps[k]? =some (ps[k]'omQ):=iW omQ;refine qW ?_
    try dsimp only
    refine jb (H.sl (v:=tv) (xs:=Q4 ps) e_1) (x:=.ptr (ps[k]'omQ) 0) (NI lP) ?_;by_cases ck:k=i
    ·subst ck;refine jJ rfl (qJ ?_);refine qU omQ ?_;exact bF (ts.length-(k+1)) _ _ omQ ⟨k+1,us,rfl,by omega,rfl,WK.same,H⟩
    ·refine jQ omQ (qZ ?_);have Hn:ts[k]? =some ts[k]:=iW ap;have huk:us[k]? =some ts[k]:=by rw[WK.hi k (Nat.le_refl _)];exact Hn
     have DR:=WK.len;refine qK (qQ (qh (qX H (b:=b) .here (x:=.int .i64 o.at_) rfl ?_)));refine qK (qQ (qh (qh (qX H (b:=b) .here (x:=.int .u64 o.lk.1) rfl ?_))));have H2:=KH lP huk (H.aI (P:=.all (vL ps us)) e_3);refine qG (qze omQ (CC k _ Hn) H2) λ_ h3 H3=>?_;have H4:=Nj lP omQ H3;refine qU omQ ?_;exact bF (ts.length-(k+1)) _ _ omQ ⟨k+1,_,rfl,by omega,rfl,WK.next ck Hn,H4.sub (.cons e_1 (.cons e_1 (.cons e_1 (.cons .here .refl))))⟩
   ·obtain rfl:k=ts.length:=by omega
    refine jz omQ (qJ ?_);refine qx (qY ⟨rfl,?_⟩);have e:=WK.done;subst e;have As:(yS ts i o.at_ o.lk.1).length=ts.length:=by unfold yS;simp
    refine bY.I (p:=p) (tv:=tv) (ps:=ps) (by show ps.length=(yS ts i o.at_ o.lk.1).length;omega) ?_;unfold U0;show HS g h8 (qy b (JH _ p tv)::qD 74 1 (yS ts i o.at_ o.lk.1).length tv (Q4 ps)::bQ p m.s r.2:: .all (vL ps (yS ts i o.at_ o.lk.1))::R);rw[As];exact H
  ·rw[iQ c5];refine jQ c5 (qZ (qY ⟨rfl,?_⟩));exact bY.I (p:=p) (tv:=tv) (ps:=ps) (by show ps.length=ts.length;omega) HB
end
end
section
variable {g h:AH} {L R:List SP}
def rD (jss:List (List (List qa))) (v:AV):SP:=.ex λvs:List AV=>.all [.fa (vs.length=jss.length),qD 30 1 jss.length v vs,.all (List.zipWith (λv js=>aW js v) vs jss)]
theorem rD.E {jss:List (List (List qa))} {v:AV} (H:HS g h (rD jss v::R)):∃vs:List AV,vs.length=jss.length∧HS g h (qD 30 1 jss.length v vs:: .all (List.zipWith (λv js=>aW js v) vs jss)::R):=by obtain⟨vs,H⟩:=H.dU;exact⟨vs,H.cq.ed⟩
theorem rD.I {jss:List (List (List qa))} {v:AV} {vs:List AV} (hl:vs.length=jss.length) (H:HS g h (qD 30 1 jss.length v vs:: .all (List.zipWith (λv js=>aW js v) vs jss)::R)):HS g h (rD jss v::R) :=
 HS.en vs (HS.allI (A:=[_,_,_]) (HS.eK hl H))
end
section
variable {g h:AH} {L R:List SP}
def VB (S:zK) (k:Nat):zZ:=if k≤5 then yW S else(qu (yW S) (bi 2 5 14)).2
theorem qYM {S:zK} (O:QG S) {k:Nat} (hk:k<S.words.toNat):(KS S.words)[k]? =some (if k=5 then 14 else 0):=by
 have h1:=O.words;have e:iF S.words=S.words.toNat:=by unfold iF;omega
 unfold KS;rw[e,List.getElem?_set,List.getElem?_replicate];by_cases c:k=5
 ·subst c;rw[iJ rfl,iJ rfl,List.length_replicate,iJ hk]
 ·rw[iQ (λh=>c h.symm),iQ c,iJ hk]
theorem XK {jss:List (List (List qa))} {i:Nat}:(((jss.take 4)[i]?).getD []:List (List qa))=if i<4 then(jss[i]?).getD []else[]:=by
 rw[List.getElem?_take]
 split<;>rfl
section
variable {n:Nat}
theorem qVS {s:zK} {jss:List (List (List qa))} {v:AV} (hn:16≤n) (hs:0≤s.start) (hj:∀js∈jss,js.length≤1000000∧∀l∈js,(xZ l).2=0∧Quiet l) (lT:jss.length≤1000) (H:HS g h (rD jss v::R)) :
  aA n 5 [.agg (x5 s),v] h λr h'=>∃b,r=.ptr b 0∧HS g h' (bY b (ML s jss)::rD jss v::R):=by
 refine ba (S:=S5) rfl omQ λk hk=>?_;unfold S5;try simp only[iZ]
 obtain⟨vs,Cz,H⟩:=rD.E H;refine qI H rfl λb0 h1 H1=>?_;clear H;refine qm H1 (n:=jss.length) (v:=v) e_1 ?_;refine zz ?_;rw[show min ((jss.length:Nat):Int) ((4:Nat):Int)=((min jss.length 4:Nat):Int) by omega];have hm4:min jss.length 4≤jss.length∧min jss.length 4≤4:=by omega
 have Hl:(jss.take 4).length=min jss.length 4:=by rw[List.length_take];omega
 generalize hm:min jss.length 4=m at*;refine PM (hi:=m) H1.drop .here omQ hm4.1 λv' SV=>?_;refine xS (SV.more.sl H1) ?_;refine qQ (qh ?_);refine qw H1 (b:=b0) .here (x:=.int .i64 (m:Int)) ⟨rfl,rfl⟩ (by show 3<8;omega) λh2 H2=>?_;have H2:HS g h2 (qy b0 (x5 { s with aa:=((jss.take 4).length:Int) })::qD 30 1 jss.length v vs:: .all (List.zipWith (λv js=>aW js v) vs jss)::R):=by rw[Hl];exact H2
 unfold ML;have so:QG (jG { s with aa:=((jss.take 4).length:Int) }):=vC hs;have hid:=kY so;dsimp only;refine qE H2 (b:=b0) (off:=0) .here rfl omQ (l:=x5 { s with aa:=((jss.take 4).length:Int) }) rfl ?_;refine qG (Ug omQ H2) ?_;rintro _ h3 ⟨rfl,H3⟩;refine qd H3 (b:=b0) .here rfl (by show 0+8≤8;omega) rfl λh4 H4=>?_;generalize jG { s with aa:=((jss.take 4).length:Int) }=S at*;have H4:HS g h4 (qy b0 (x5 S)::qD 30 1 jss.length v vs:: .all (List.zipWith (λv js=>aW js v) vs jss)::R):=H4;clear H1 H2 H3;have q1:=so.words;have q3:=so.aa;refine qW ?_
 try dsimp only
 refine qE H4 (b:=b0) (off:=0) .here rfl omQ (l:=x5 S) rfl ?_;refine qQ (qE H4 (b:=b0) (off:=0) .here rfl omQ (l:=QB S) rfl ?_);refine qG (qxP omQ so.start.1 H4) ?_;rw[hid];rintro _ h5 ⟨p,rfl,H5⟩
 let M0:gK:=⟨S,yW S,[],0,bi 0 0 0,false⟩
 refine qL (l:=JH M0 p .ak) rfl ?_;refine qI H5 rfl λb h6 H6=>?_;have H7:HS g h6 (qy b (JH M0 p .ak)::bQ p S (yW S)::qy b0 (x5 S)::qD 30 1 jss.length v vs:: .all (List.zipWith (λv js=>aW js v) vs jss)::R):=H6;refine zO H4 .here rfl H5 e_1 rfl rfl omQ (HS.lt H4 .here) ?_
 try dsimp only
 clear H4 H5 H6;refine qQ (qh (qX H7 (b:=b0) e_2 (x:=.int .i64 S.words) rfl ?_));refine qG (qXO omQ H7) ?_;rintro wv h8 ⟨e,H8⟩;have ez:iF S.words=S.words.toNat:=by unfold iF;omega
 rw[ez]at H8;refine qm H8 (n:=S.words.toNat) (v:=wv) .here ?_;refine jR (λc q h'=>∃i:Nat,q=(.int .i64 (i:Int),.int .i64 ((S.words.toNat:Nat):Int),wv,.ptr b 0,.ptr b0 0,v',())∧i≤S.words.toNat∧c=S.words.toNat-i∧HS g h' (qD e 1 S.words.toNat wv ((KS S.words).map (.int .u64))::qy b (JH M0 p .ak)::bQ p S (VB S i)::qy b0 (x5 S)::qD 30 1 jss.length v vs:: .all (List.zipWith (λv js=>aW js v) vs jss)::R))
  ?_ (m:=S.words.toNat) (by show _<1000000000;omega) ⟨0,rfl,Nat.zero_le _,rfl,H8⟩
 clear H7 H8;rintro c ih q h9 bF ⟨i,rfl,hi,rfl,H⟩;dsimp only;by_cases ap:i<S.words.toNat
 ·refine jH omQ (qZ ?_);refine qW ?_
  try dsimp only
  have hf:=qYM so ap;refine jb (H.sl .here) (x:=.int .u64 (if i=5 then 14 else 0)) (by rw[List.getElem?_map,hf];rfl) ?_;by_cases c5:i=5
  ·subst c5;refine jQ od (qZ ?_);refine qK (qQ (qX H (b:=b) e_1 (x:=.ptr p 0) rfl ?_));refine qL (l:=x8 (bi 2 5 14)) rfl ?_;refine qG (L8 (o:=bi 2 5 14) omQ ⟨Int.le_refl _,by show(0:Int)<1000000000;decide⟩ (H.aI (P:=bQ p S (yW S)) e_2)) ?_;rintro _ eu ⟨rfl,HA⟩;refine qU omQ ?_;exact bF (S.words.toNat-(5+1)) _ _ omQ ⟨5+1,rfl,by omega,rfl,HA.sub (.cons e_1 (.cons e_1 (.cons .here .refl)))⟩
  ·rw[iQ c5];refine jJ rfl (qJ ?_);refine qU omQ ?_;have em:VB S (i+1)=VB S i:=by
    unfold VB;by_cases h5:i<5
    ·rw[iJ omQ,iJ omQ]
    ·rw[iQ omQ,iQ omQ]
   exact bF (S.words.toNat-(i+1)) _ _ omQ ⟨i+1,rfl,by omega,rfl,by rw[em];exact H⟩
 ·obtain rfl:i=S.words.toNat:=by omega
  refine jz omQ (qJ ?_);have em:VB S S.words.toNat=(qu (yW S) (bi 2 5 14)).2:=by unfold VB;rw[iQ omQ]
  rw[em]at H
  replace H:=H.drop
  clear bF ih;generalize(qu (yW S) (bi 2 5 14)).2=M5 at*
  let T:Nat→List qt:=λk=>(List.range k).map λi:Nat=>Qj i S (((jss.take 4)[i]?).getD [])
  have CD:∀k,(T k).length=k:=λk=>by show((List.range k).map _).length=k;rw[List.length_map,List.length_range]
  refine qQ (qh (qX H (b:=b0) e_2 (x:=.int .i64 S.aa) rfl ?_));rw[show S.aa=((S.aa.toNat:Nat):Int) by omega];have q0:HS g h9 (bY b ⟨S,M5,T 0,0,bi 0 0 0,false⟩::qy b0 (x5 S)::qD 30 1 jss.length v vs:: .all (List.zipWith (λv js=>aW js v) vs jss)::R):=by have N1:=HS.allI (A:=[]) H;have N2:=N1.ak (e:=74) (sz:=1);exact bY.I (m:=⟨S,M5,T 0,0,bi 0 0 0,false⟩) (p:=p) (tv:=.ak) (ps:=[]) rfl (N2.sub (.cons e_2 (.cons .here (.cons e_1 (.cons .here .refl)))))
  clear H;refine jR (λc q h'=>∃i:Nat,q=(.int .i64 (i:Int),.int .i64 ((S.aa.toNat:Nat):Int),.ptr b 0,.ptr b0 0,v',())∧i≤S.aa.toNat∧c=S.aa.toNat-i∧HS g h' (bY b ⟨S,M5,T i,0,bi 0 0 0,false⟩::qy b0 (x5 S)::qD 30 1 jss.length v vs:: .all (List.zipWith (λv js=>aW js v) vs jss)::R))
   ?_ (m:=S.aa.toNat) (by show _<1000000000;omega) ⟨0,rfl,Nat.zero_le _,rfl,q0⟩
  clear q0;rintro c ih q eu bF ⟨i,rfl,hi,rfl,H⟩;dsimp only;by_cases ap:i<S.aa.toNat
  ·refine jH omQ (qZ ?_)
   refine jm [] (λz h'=>∃(jv:AV) (B:List SP),z=(.int .i64 (i:Int),.int .i64 ((S.aa.toNat:Nat):Int),jv,.int .i64 (i:Int),.ptr b 0,.ptr b0 0,v',())∧
     HS g h' (aW (((jss.take 4)[i]?).getD []) jv::bY b ⟨S,M5,T i,0,bi 0 0 0,false⟩::qy b0 (x5 S)::qD 30 1 jss.length v vs:: .all B::R)∧
     (∀{nA:AH} {L:List SP},HS g nA (aW (((jss.take 4)[i]?).getD []) jv:: .all B::L)→HS g nA (.all (List.zipWith (λv js=>aW js v) vs jss)::L))) (λj hj=>?_) ?_
   ·refine xS (SV.more.more.sl H) ?_;by_cases him:i<m
    ·have oU:i<jss.length:=by omega
     have DW:i<vs.length:=by omega
     have ej:((jss.take 4)[i]?).getD []=jss[i]:=by rw[XK,iJ omQ,iW oU];rfl
     have hz:(List.zipWith (λv js=>aW js v) vs jss)[i]? =some (aW jss[i] vs[i]):=by rw[List.getElem?_zipWith,iW DW,iW oU]
     refine jH omQ (qZ ?_);refine jb (SV.more.more.sl H) (x:=vs[i]) (by rw[Nat.mul_one,List.getElem?_take_of_lt him,iW DW]) ?_;rw[ej]at hj;refine hj _ _ ⟨vs[i],(List.zipWith (λv js=>aW js v) vs jss).eraseIdx i,rfl,?_,λH=>HS.pJ (Uh hz) H⟩;have H1:=HS.pH (Uh hz) (H.aI (P:=.all (List.zipWith (λv js=>aW js v) vs jss)) e_3);exact H1.sub (.cons .here (.cons e_1 (.cons e_1 (.cons e_1 (.cons .here .refl)))))
    ·have ej:((jss.take 4)[i]?).getD []=[]:=by
      rw[XK]
      split
      ·rw[List.getElem?_eq_none omQ];rfl
      ·rfl
     refine jz omQ (qJ ?_);rw[ej]at hj;refine hj _ _ ⟨.ak,List.zipWith (λv js=>aW js v) vs jss,rfl,?_,λH=>H.drop⟩;exact aW.I (js:=[]) (v:=.ak) (vs:=[]) rfl ((HS.allI (A:=[]) H).ak)
   ·clear H;rintro _ dq ⟨jv,B,rfl,H,back⟩;dsimp only;refine qW ?_
    try dsimp only
    have hjj:∀l∈(((jss.take 4)[i]?).getD []),(xZ l).2=0∧Quiet l:=λl hl=>by
     rw[XK]at hl
     split at hl
     ·cases hx:jss[i]? with
      |none=>rw[hx]at hl;cases hl
      |some js=>rw[hx]at hl;exact(hj js (List.mem_of_getElem? hx)).2 l hl
     ·cases hl
    have Ho:(((jss.take 4)[i]?).getD []).length≤1000000:=by
     rw[XK]
     split
     ·cases hx:jss[i]? with
      |none=>exact Nat.zero_le _
      |some js=>exact(hj js (List.mem_of_getElem? hx)).1
     ·exact Nat.zero_le _
    have eT:T (i+1)=T i++[Qj i S (((jss.take 4)[i]?).getD [])]:=by show(List.range (i+1)).map _=(List.range i).map _++_;rw[List.range_succ,List.map_append];rfl
    generalize((jss.take 4)[i]?).getD []=js at*;obtain⟨p',tv,ps,nD,HU⟩:=bY.E (H.aI (P:=bY b ⟨S,M5,T i,0,bi 0 0 0,false⟩) e_1);have nD:ps.length=i:=by rw[nD];exact CD i
    have HU:HS g dq (qy b (JH ⟨S,M5,T i,0,bi 0 0 0,false⟩ p' tv)::qD 74 1 i tv (Q4 ps)::bQ p' S M5:: .all (vL ps (T i))::aW js jv::qy b0 (x5 S)::qD 30 1 jss.length v vs:: .all B::R):=by have:=HU;unfold U0 at this;rw[show(⟨S,M5,T i,0,bi 0 0 0,false⟩:gK).t.length=i from CD i]at this;exact this
    refine qK (qQ (qX HU (b:=b) .here (x:=tv) rfl ?_));refine qE HU (b:=b0) (off:=0) e_5 rfl omQ (l:=x5 S) rfl ?_;have HV:HS g dq (aW js jv::qy b (JH ⟨S,M5,T i,0,bi 0 0 0,false⟩ p' tv)::qD 74 1 i tv (Q4 ps)::bQ p' S M5:: .all (vL ps (T i))::qy b0 (x5 S)::qD 30 1 jss.length v vs:: .all B::R):=HU.aI e_4;refine qG (qQD (me:=(i:Int)) (s:=S) (js:=js) omQ omQ so.start.1 hjj Ho HV) ?_;rintro _ nS ⟨tb,rfl,HW⟩;refine qf (n:=1) (l:=[.ptr tb 0]) (sz:=1) HW rfl rfl rfl rfl λv2 h13 HX=>?_;refine ju (HX.aI (P:=qD 74 1 i tv (Q4 ps)) e_4) (HX.sl .here) omQ omQ rfl λv3 ue HY=>?_;have o3:=HY.one .here;refine qK (qQ ?_);refine qw HY (b:=b) e_4 o3 (by simp[JH]) λmg HZ=>?_;refine qb HU .here rfl HW e_2 rfl (HS.lt HU .here) ?_
    try dsimp only
    refine qU omQ ?_;refine bF (S.aa.toNat-(i+1)) _ _ omQ ⟨i+1,rfl,by omega,rfl,?_⟩;have eb:vL (ps++[tb]) (T (i+1))=vL ps (T i)++[aF tb (Qj i S js)]:=by unfold vL;rw[eT,List.zipWith_append (by rw[nD];exact(CD i).symm)];rfl
    have ep:Q4 (ps++[tb])=Q4 ps++[.ptr tb 0]:=by unfold Q4;rw[List.map_append];rfl
    have B1:=NG (A:=vL ps (T i)) (B:=[aF tb (Qj i S js)]) (HZ.sub (.cons e_6 (.cons e_3 .refl)))
    have B2:=bY.I (b:=b) (p:=p') (tv:=v3) (m:=⟨S,M5,T (i+1),0,bi 0 0 0,false⟩) (ps:=ps++[tb]) (by rw[List.length_append,nD];exact(CD (i+1)).symm) (by
     unfold U0;rw[show(⟨S,M5,T (i+1),0,bi 0 0 0,false⟩:gK).t=T (i+1)from rfl,eb,ep,CD (i+1)]
     exact B1.sub (.cons e_1 (.cons e_1 (.cons e_3 (.cons .here .refl)))))
    exact HS.sub (back (B2.sub (.cons e_2 (.cons e_4 .refl)))) (.cons e_1 (.cons e_2 (.cons e_2 (.cons .here (.drop .refl)))))
  ·obtain rfl:i=S.aa.toNat:=by omega
   refine jz omQ (qJ ?_);refine qx (qY ⟨b,rfl,?_⟩);refine HS.cm e_1 (rD.I Cz (H.sub (.cons e_2 (.cons e_2 (.cons .here (.drop .refl))))))
end
end
section
variable {g h:AH} {L R:List SP}
def mi (bs:List UInt8):List AV:=bs.map λc=>.int .u8 (.ofNat c.toNat)
theorem qK3:∀(bs:List UInt8),wK (mi bs)=some bs:=by
 intro bs
 induction bs with
 |nil=>rfl
 |cons b bs ih=>show(wK (mi bs)).bind (λs=>some (UInt8.ofNat b.toNat::s))=_;rw[ih];simp
theorem NK (bs:List UInt8):ql (mi bs)=true:=by unfold ql mi;rw[List.all_eq_true];intro y hy;obtain⟨z,_,rfl⟩:=List.mem_map.1 hy;rfl
theorem Hp {e:TypeId} {n:Nat} {v:AV} {bs:List UInt8} {K:AV→Go.Ae.R} {Q:AV→AH→Prop} (H:HS g h L) (s:bc L (qD e 1 n v (mi bs)) R) (w:wp (K (.str bs)) Q):wp (Xx h v K) Q:=by
 obtain⟨D,hl,⟨rfl,rfl,_⟩ |⟨b,cp,o,ys,rfl,_,A,h1,h2,_⟩⟩:=H.p s
 ·have:bs=[]:=iA (by simpa[mi]using hl);subst this;exact w
 ·unfold Xx;dsimp only;rw[Xr A omQ,List.drop_zero];rw[Nat.mul_one]at h2;rw[h2];simp only[ob,qK3];exact w
theorem Vt {u:Nat} (h:u<10):Lib.decDigits u=[UInt8.ofNat (48+u)]:=Lib.decDigits_one h
theorem qGo {u:Nat} (h:¬u<10):Lib.decDigits u=Lib.decDigits (u/10)++[UInt8.ofNat (48+u%10)]:=by rw[Lib.decDigits,dif_neg h]
theorem qKr {a b:List UInt8} {K:AV→Go.Ae.R} {Q:AV→AH→Prop} (h:a.length+b.length≤1073741824) (w:wp (K (.str (a++b))) Q):wp (M6 .add (.str a) (.str b) K) Q:=by show wp (ob (bif Nat.ble (a.length+b.length) 1073741824 then some (.str (a++b))else none) K) Q;rw[iY h];exact w
end
section
def pW:List qa:=[(8,0,7,8,0),(13,0,0,4,0),(21,0,0,0,0),(12,0,0,5,0),(20,0,0,0,0)]
def pI:List qa:=[(8,0,7,15,0),(21,0,0,0,0)]
def pS (v:Int):List qa:=[(1,0,0,0,v),(9,7,0,8,0)]
def vW:VM:=⟨32,[],5,[([],[])],0⟩
theorem CE {mt:List Int} {nd:Int}:zp pW mt 20 Qc { vW with aC:=nd }=⟨1,0,20,Qc,{ vW with aC:=8 }⟩:=rfl
theorem CF {mt:List Int} {nd:Int}:∃s,zp pW mt 20 Qc { vW with K:=[(8,0)],aC:=nd }=⟨3,0,17,s,{ vW with K:=[(8,0)],aC:=nd }⟩:=⟨_,rfl⟩
theorem CG {mt:List Int} {nd y:Int} (hy:y≠0):∃s,zp pW mt 20 Qc { vW with K:=[(8,y)],aC:=nd }=⟨2,0,16,s,{ vW with K:=[(8,y)],aC:=nd }⟩∧s.out=[(1,y)]:=by refine⟨{ aw:=[y,0,0,0,0,0,0,0],out:=[(1,y)],pc:=5,bg:=[] },?_,rfl⟩;have e1:zp pW mt 20 Qc { vW with K:=[(8,y)],aC:=nd }=zp pW mt 19 { aw:=[y,0,0,0,0,0,0,0],out:=[],pc:=1,bg:=[] } { vW with K:=[(8,y)],aC:=nd }:=rfl;have e2:zp pW mt 19 { aw:=[y,0,0,0,0,0,0,0],out:=[],pc:=1,bg:=[] } { vW with K:=[(8,y)],aC:=nd }=zp pW mt 18 { aw:=[y,0,0,0,0,0,0,0],out:=[],pc:=if y=0 then 4 else 2,bg:=[] } { vW with K:=[(8,y)],aC:=nd }:=rfl;rw[e1,e2,iQ hy];rfl
theorem CH {mt:List Int} {nd:Int}:zp pI mt 20 Qc { vW with aC:=nd }=⟨1,0,20,Qc,{ vW with aC:=15 }⟩:=rfl
theorem CI {mt:List Int} {nd y:Int}:∃s,zp pI mt 20 Qc { vW with K:=[(15,y)],aC:=nd }=⟨2,0,18,s,{ vW with K:=[(15,y)],aC:=nd }⟩:=⟨_,rfl⟩
theorem Hq {mt:List Int} {nd v:Int}:∃s,zp (pS v) mt 20 Qc { vW with aC:=nd }=⟨2,0,18,s,{ vW with aC:=nd,lv:=[([(8,v)],[])] }⟩:=⟨_,rfl⟩
end
section
structure fh (S:zK) (y:Int) (q:Nat) (M:zZ):Prop where
  w:M.w.length=32
  l:M.l.length=8
  s:M.s.length=2
  n:M.n=if q≤1 then 0 else 1
  lk:xg M.l (ofM 8 8 S.wide)=if q=0 then(0,false,0)else if q≤3 then(0,true,1)else(1,false,0)
  w8:qO M.w 8=if q≤2 then 0 else y
  l8:xg M.l (ofM 15 8 S.wide)=(0,false,0)
  q4:q≤4
structure kE (S:zK):Prop where
  words:S.words=32
  ax:S.ax=8
  wide:1≤S.wide∧S.wide≤3
  aa:S.aa=2
  ao:S.ao=0
  writes:S.writes=5
  fuel:S.fuel=20
  start:S.start=0
theorem kE.pO {S:zK} (W:kE S) {p:Int} (hp:0≤p):0≤ofM p 8 S.wide∧ofM p 8 S.wide<8:=by unfold ofM;rw[iQ omQ,show max 1 (min (8:Int) 16)=8 from rfl];omega
theorem Ql {S:zK} {y:Int} {q:Nat} {M:zZ} (T:fh S y q M) {s:Int} (h:0≤s∧s<8):qu M (bi 3 s 0)=(⟨0,xg M.l s,false,0⟩,bump M 1):=by have:=T.l;exact NO (.inl rfl) (by unfold Gf;rw[iQ (by show¬(s<0∨(M.l.length:Int)≤s);omega)];rfl) rfl
theorem NZ {S:zK} {y:Int} {q:Nat} {M:zZ} (T:fh S y q M) {p:Int} (h:1≤p∧p<32):qu M (bi 1 p 0)=(⟨qO M.w p,cB,false,0⟩,bump M 1):=by have:=T.w;exact NP (.inl rfl) (by unfold UV;rw[iQ (by show¬(p<1∨(M.w.length:Int)≤p);omega)];rfl) rfl
theorem ym {S:zK} {y:Int} {q:Nat} {M:zZ} (T:fh S y q M) {i w:Int} (h:0≤i∧i<2):qu M (bi 9 i w)=(lg,{ M with s:=M.s.set i.toNat w,b6:=M.b6+1 }):=by
 have:=T.s;have e:Ya M (bi 9 i w)=(lg,{ M with s:=M.s.set i.toNat w }):=by unfold Ya;rw[iQ (by show¬(i<0∨(M.s.length:Int)≤i);omega)];rfl
 have e0:qu M (bi 9 i w)=if(Ya M (bi 9 i w)).1.err=0 then((Ya M (bi 9 i w)).1,{ (Ya M (bi 9 i w)).2 with b6:=(Ya M (bi 9 i w)).2.b6+1 })else Ya M (bi 9 i w):=rfl
 rw[e0,e];rfl
theorem fh.bump {S:zK} {y:Int} {q:Nat} {M:zZ} (T:fh S y q M) (k:Int):fh S y q (bump M k):=⟨T.w,T.l,T.s,T.n,T.lk,T.w8,T.l8,T.q4⟩
theorem fh.ep {S:zK} {y:Int} {q:Nat} {M:zZ} (T:fh S y q M) {i:Nat} {w k:Int}:fh S y q { M with s:=M.s.set i w,b6:=k }:=⟨T.w,T.l,by show(M.s.set i w).length=2;rw[List.length_set];exact T.s,T.n,T.lk,T.w8,T.l8,T.q4⟩
abbrev jW:Yc:=.prog ⟨pW,Qc,0,0,20⟩
structure DX (S:zK) (x:q9):Prop where
  me:x.me=0
  set:x.set=S
  c:x.c=none
structure F3 (S:zK) (y:Int) (q:Nat) (x:q9):Prop where
  at_:x.f.at_=8
  st:x.f.bV=ofM 8 8 S.wide
  af:x.f.af=x.af
  fin:x.f.p.fin=0
  tf:x.f.p.me=0
  ph:x.f.state=0∨(x.f.state=1∧x.f.lk=(0,false,0))∨(x.f.state=1∧x.f.lk=(1,false,0)∧q=4∧x.af=1)∨(x.f.state=2∧x.f.lk=(0,false,0)∧(x.f.word=0∨3≤q))∨(x.f.state=2∧x.f.lk=(1,false,0)∧q=4∧x.af=1∧x.f.word=y)
inductive X0 (S:zK) (y:Int) (q:Nat) (al:Bool) (x:q9):Prop
  |p0 (s:x.state=0) (j:x.au=jW) (v:x.v=vW) (r:x.r=[]) (bl:x.bt=false)
  |p1 (s:x.state=1) (j:x.au=jW) (v:x.v=vW) (r:x.r=[]) (bl:x.bt=false)
  |p2 (s:x.state=2) (j:x.au=jW) (v:x.v=vW) (r:x.r=[]) (bl:x.bt=false) (st:x.af=0∨x.af=1∧2≤q)
  |p3 (s:x.state=3) (j:x.au=jW) (v:x.v={ vW with aC:=8 }) (r:x.r=[]) (bl:x.bt=false) (st:x.af=0∨x.af=1∧2≤q) (f:F3 S y q x)
  |p4 (s:x.state=4) (j:x.au=jW) (v:x.v={ vW with aC:=8 }) (r:x.r=[]) (bl:x.bt=false) (e:x.e.bH=false∧x.e.seen=[]∧x.e.p.fin=0∧x.e.at_=0) (q4:q=4)
  |p5 (s:x.state=5) (r:x.r=[(ofM 8 8 S.wide,0)]) (bl:x.bt=true) (e:x.e.seen=[(ofM 8 8 S.wide,0)]∧x.e.p.fin=0∧x.e.at_=0∧x.e.p.me=0) (a:q=4→al=true)
  |uG (s:x.state=7) (fin:x.fin=3) (r:x.r=[(ofM 8 8 S.wide,0)]) (bl:x.bt=true) (a:q=4→al=true)
  |si (s:x.state=7) (fin:x.fin=5) (cU:x.cU= -1)
  |CJ (s:x.state=7) (fin:x.fin=2) (err:x.err=0) (j:∃r:r9,x.au=.prog r∧r.s.out=[(1,y)]) (fr:xy x.v.lv=[]) (q4:q=4) (r:x.r=[(ofM 8 8 S.wide,1)]) (bl:x.bt=false)
def dR (x:q9):Nat :=
 if x.state=0 then 11 else if x.state=1 then 10 else if x.state=2 then 9
 else if x.state=3 then(if x.f.state=2 then(if x.f.lk.1=1 then 2 else 7)else if x.f.state=1 then(if x.f.lk.1=1 then 3 else 8)else if x.af=1 then 4 else 6)
 else if x.state=4 then 5 else if x.state=5 then(if x.e.bH=true then 23 else 24)else if x.fin=2 then 1 else 22
variable {S:zK} {y:Int} {q:Nat} {M:zZ} {al:Bool} {x:q9}
structure sj (S:zK) (y:Int) (q:Nat) (al:Bool) (x z:q9):Prop where
  b:DX S z
  xx:X0 S y q al z
  end_:jq z=0
  mu:q=4→dR z<dR x
theorem zX {a:cO} (h8:x.state≠8) (ha:a.err=0):jY x a=if x.state=0 then{ x with state:=1 }
 else if x.state=1 then{ x with begun:=true,cw:=a.word,af:=a.word,state:=2 }
 else if x.state=2 then xl x
 else if x.state=7 then{ x with state:=8 }
 else if x.state=3 then jN { x with f:=xY x.f a }
 else if x.state=6 then jN { x with c:=x.c.map λc=>xL c a }
 else jN { x with e:=xO x.e a }:=by
 unfold jY;rw[iQ h8,iQ (λh=>h ha)]
theorem kG (h:zm (if(jn x).1=5 then xH x 5 0 (jn x).2 else zQ x)=false) (h0:(jn x).1≠0):jN x=if(jn x).1=5 then xH x 5 0 (jn x).2 else zQ x:=by unfold jN;rw[iQ h0];unfold xK;rw[h];rfl
theorem PN (W:kE S) (T:fh S y q M) (hb:DX S x) (s:x.state=3) (j:x.au=jW) (v:x.v={ vW with aC:=8 }) (r:x.r=[]) (bl:x.bt=false) (st:x.af=0∨x.af=1∧2≤q) (f:F3 S y q x)
  (ot:q=4→(x.af=1→3<dR x)∧(x.af=0→5<dR x)):sj S y q al x (jN { x with f:=vX x.f (xg M.l (ofM 8 8 S.wide)) }):=by
 have hw:zm x=false:=vG hb.c;have hq:=T.q4;have going:∀f':kK,f'.p.fin=0→F3 S y q { x with f:=f' }→(q=4→dR { x with f:=f' }<dR x)→sj S y q al x (jN { x with f:=f' }):=λf' h0 hf hm=>by
  have e:jN { x with f:=f' }={ x with f:=f' }:=ky (by unfold jn;rw[iJ (by show x.state=3;exact s)];exact h0) hw;rw[e];exact⟨⟨hb.me,hb.set,hb.c⟩,.p3 s j v r bl st hf,by show jq x=0;unfold jq;rw[iJ omQ],hm⟩
 rw[T.lk];unfold vX;by_cases h0:q=0
 ·rw[iJ h0];rw[iQ aN,iQ (by show¬x.f.af<0;rw[f.af];omega)];exact going _ f.fin ⟨f.at_,f.st,f.af,f.fin,f.tf,.inr (.inl ⟨rfl,rfl⟩)⟩ λh=>by omega
 ·rw[iQ h0];by_cases h3:q≤3
  ·rw[iJ h3];rw[iJ rfl];have ew:jE x.f.p (0,true,1)=(true,x.f.p):=by unfold jE;rw[iJ (by show x.f.p.me<1;rw[f.tf];decide)]
   rw[ew];dsimp only;rw[iJ rfl];exact going _ f.fin ⟨f.at_,f.st,f.af,f.fin,f.tf,.inl rfl⟩ λh=>by omega
  ·have h4:q=4:=by omega
   rw[iQ h3];rw[iQ aN];rcases st with h |⟨h,_⟩
   ·rw[iJ (by show x.f.af<1;rw[f.af,h];decide)];have ef:jn { x with f:={ x.f with state:=0,p:=qr x.f.p 6 0 (-1) } }=(6,-1):=by unfold jn;exact iJ s
    have ee:zQ { x with f:={ x.f with state:=0,p:=qr x.f.p 6 0 (-1) } }=ww { x with f:={ x.f with state:=0,p:=qr x.f.p 6 0 (-1) } } 4:=by unfold zQ;rw[iJ (by show x.state=3;exact s)];unfold xW;exact iJ rfl
    have e:jN { x with f:={ x.f with state:=0,p:=qr x.f.p 6 0 (-1) } }=ww { x with f:={ x.f with state:=0,p:=qr x.f.p 6 0 (-1) } } 4:=by rw[kG (by rw[ef,iQ od,ee];exact vG hb.c) (by rw[ef];decide),ef,iQ od,ee]
    rw[e];refine⟨⟨hb.me,hb.set,hb.c⟩,.p4 rfl j v r bl ⟨rfl,r,rfl,rfl⟩ h4,rfl,λ_=>?_⟩;exact(ot h4).2 h
   ·rw[iQ (by show¬x.f.af<1;rw[f.af,h];decide)];refine going _ f.fin ⟨f.at_,f.st,f.af,f.fin,f.tf,.inr (.inr (.inl ⟨rfl,rfl,h4,h⟩))⟩ λ_=>?_;have:dR { x with f:={ x.f with lk:=(1,false,0),state:=1 } }=3:=by
     unfold dR;rw[iQ (by show¬x.state=0;omega),iQ (by show¬x.state=1;omega),iQ (by show¬x.state=2;omega),iJ (by show x.state=3;exact s),iQ (by show¬(1:Int)=2;decide),iJ (by show(1:Int)=1;rfl),iJ rfl]
    rw[this];exact(ot h4).1 h
theorem qzS (W:kE S) (T:fh S y q M) (hy:1≤y) (hb:DX S x) (X:X0 S y q al x):∃o,jC x=some o∧fh S y q (qu M o).2∧(qu M o).2.w=M.w∧(qu M o).2.l=M.l∧(qu M o).2.n=M.n∧o.kind≠5∧(qu M o).1.err=0∧
  (if x.state=7 then jY x (qu M o).1={ x with state:=8 }else sj S y q al x (jY x (qu M o).1)):=by
 have hw:=vG hb.c;have hq:=T.q4;have dl:=W.pO (p:=8) od;have PO:ofM 8 x.set.ax x.set.wide=ofM 8 8 S.wide:=by rw[hb.set,W.ax]
 cases X with
 |p0 s j v r bl=>refine⟨bi 9 0 1,by unfold jC;rw[iJ s,hb.me],?_⟩;rw[ym T od];refine⟨T.ep,rfl,rfl,rfl,by show(9:Int)≠5;decide,rfl,?_⟩;rw[iQ omQ,zX omQ rfl,iJ s];exact⟨⟨hb.me,hb.set,hb.c⟩,.p1 rfl j v r bl,rfl,λ_=>by unfold dR;rw[iJ s];exact(by decide:(10:Nat)<11)⟩
 |p1 s j v r bl=>
  refine⟨bi 6 0 0,by unfold jC;rw[iQ omQ,iJ s],?_⟩;rw[wg];refine⟨T.bump 1,rfl,rfl,rfl,by show(6:Int)≠5;decide,rfl,?_⟩;rw[iQ omQ,zX omQ rfl,iQ omQ,iJ s];refine⟨⟨hb.me,hb.set,hb.c⟩,.p2 rfl j v r bl ?_,rfl,λ_=>by unfold dR;rw[iQ (by omega:¬x.state=0),iJ s];exact(by decide:(9:Nat)<10)⟩;show M.n=0∨M.n=1∧2≤q;rw[T.n];by_cases h:q≤1
  ·rw[iJ h];exact .inl rfl
  ·rw[iQ h];exact .inr ⟨rfl,by omega⟩
 |p2 s j v r bl st=>
  refine⟨bi 9 0 (zg .u64 (x.af+1)),by unfold jC;rw[iQ omQ,iQ omQ,iJ s,hb.me],?_⟩;rw[ym T od];refine⟨T.ep,rfl,rfl,rfl,by show(9:Int)≠5;decide,rfl,?_⟩;rw[iQ omQ,zX omQ rfl,iQ omQ,iQ omQ,iJ s];have e:xl x=Qr { x with au:=jW,v:={ vW with aC:=8 } } 8:=by unfold xl yY;rw[j,v];dsimp only;rw[show vW={ vW with aC:=0 }from rfl,CE];rfl
  rw[e];refine⟨⟨hb.me,hb.set,hb.c⟩,.p3 rfl rfl rfl r bl st ⟨rfl,PO,rfl,rfl,hb.me,.inl rfl⟩,rfl,λ_=>?_⟩;have h9:dR x=9:=by unfold dR;rw[iQ omQ,iQ omQ,iJ s]
  rw[h9];unfold dR Qr OR;dsimp only;rw[iQ od,iQ od,iQ od,iJ rfl,iQ od,iQ od]
  split<;>omega
 |p3 s j v r bl st f=>
  have o8:jC x=gW x.f:=by unfold jC;rw[iQ omQ,iQ omQ,iQ omQ,iQ omQ,iQ omQ,iJ s]
  have sk:dR x=(if x.f.state=2 then(if x.f.lk.1=1 then 2 else 7)else if x.f.state=1 then(if x.f.lk.1=1 then 3 else 8)else if x.af=1 then 4 else 6):=by unfold dR;rw[iQ omQ,iQ omQ,iQ omQ,iJ s]
  have eQ:∀a:cO,a.err=0→jY x a=jN { x with f:=xY x.f a }:=λa ha=>by
   rw[zX omQ ha,iQ omQ,iQ omQ,iQ omQ,iQ omQ,iJ s]
  have ft:∀a:cO,a.err=0→xY x.f a=(if x.f.state=1 then{ x.f with word:=a.word,state:=2 }else if x.f.state=2∧a.lk=x.f.lk then{ x.f with p:=qr x.f.p 2 0 (-1) }else vX x.f a.lk):=λa ha=>by
   unfold xY;rw[JA f.fin ha,iQ (λh=>by cases h)]
  have h7:¬x.state=7:=by omega
  have n7:x.f.state≠1→jC x=some (bi 3 (ofM 8 8 S.wide) 0):=λh=>by
   rw[o8];unfold gW;rw[iQ (λh'=>h' f.fin),iQ h,f.st]
  rcases f.ph with p |⟨p,pl⟩ |⟨p,pl,p4,ps⟩ |⟨p,pl,pw⟩ |⟨p,pl,p4,ps,pw⟩
  ·--the lock ahead
   refine⟨_,n7 omQ,?_⟩;rw[Ql T dl];refine⟨T.bump 1,rfl,rfl,rfl,by show(3:Int)≠5;decide,rfl,?_⟩;rw[iQ h7,eQ _ rfl,ft _ rfl,iQ omQ,iQ omQ];refine PN W T hb s j v r bl st f λh4=>?_;rw[sk,iQ omQ,iQ omQ];rcases st with h |⟨h,_⟩
   ·rw[h];exact⟨λh=>(by cases h),λ_=>by decide⟩
   ·rw[h];exact⟨λ_=>by decide,λh=>by cases h⟩
  ·--the word,the lock being free at 0
   have CK:jC x=some (bi 1 8 0):=by rw[o8];unfold gW;rw[iQ (λh'=>h' f.fin),iJ p,f.at_]
   refine⟨_,CK,?_⟩;rw[NZ T od];refine⟨T.bump 1,rfl,rfl,rfl,by show(1:Int)≠5;decide,rfl,?_⟩;rw[iQ h7,eQ _ rfl,ft _ rfl,iJ p];have e:jN { x with f:={ x.f with word:=qO M.w 8,state:=2 } }={ x with f:={ x.f with word:=qO M.w 8,state:=2 } }:=ky (by unfold jn;rw[iJ (by show x.state=3;exact s)];exact f.fin) hw;rw[e];refine⟨⟨hb.me,hb.set,hb.c⟩,.p3 s j v r bl st ⟨f.at_,f.st,f.af,f.fin,f.tf,.inr (.inr (.inr (.inl ⟨rfl,pl,?_⟩)))⟩,by show jq x=0;unfold jq;rw[iJ omQ],λ_=>?_⟩
   ·show qO M.w 8=0∨3≤q;rw[T.w8];by_cases h:q≤2
    ·rw[iJ h];exact .inl rfl
    ·exact .inr omQ
   ·rw[sk,iQ omQ,iJ p,iQ (by rw[pl];decide)];unfold dR;rw[iQ (by show¬x.state=0;omega),iQ (by show¬x.state=1;omega),iQ (by show¬x.state=2;omega),iJ (by show x.state=3;exact s),iJ rfl,iQ (by show¬x.f.lk.1=1;rw[pl];decide)];decide
  ·--the word,the lock being free at 1
   have CK:jC x=some (bi 1 8 0):=by rw[o8];unfold gW;rw[iQ (λh'=>h' f.fin),iJ p,f.at_]
   refine⟨_,CK,?_⟩;rw[NZ T od];refine⟨T.bump 1,rfl,rfl,rfl,by show(1:Int)≠5;decide,rfl,?_⟩;rw[iQ h7,eQ _ rfl,ft _ rfl,iJ p];have e:jN { x with f:={ x.f with word:=qO M.w 8,state:=2 } }={ x with f:={ x.f with word:=qO M.w 8,state:=2 } }:=ky (by unfold jn;rw[iJ (by show x.state=3;exact s)];exact f.fin) hw;rw[e];refine⟨⟨hb.me,hb.set,hb.c⟩,.p3 s j v r bl st ⟨f.at_,f.st,f.af,f.fin,f.tf,.inr (.inr (.inr (.inr ⟨rfl,pl,p4,ps,?_⟩)))⟩,by show jq x=0;unfold jq;rw[iJ omQ],λ_=>?_⟩
   ·show qO M.w 8=y;rw[T.w8,iQ omQ]
   ·rw[sk,iQ omQ,iJ p,iJ (by rw[pl])];unfold dR;rw[iQ (by show¬x.state=0;omega),iQ (by show¬x.state=1;omega),iQ (by show¬x.state=2;omega),iJ (by show x.state=3;exact s),iJ rfl,iJ (by show x.f.lk.1=1;rw[pl])];decide
  ·--the lock behind,free at 0 ahead of the word
   refine⟨_,n7 omQ,?_⟩;rw[Ql T dl];refine⟨T.bump 1,rfl,rfl,rfl,by show(3:Int)≠5;decide,rfl,?_⟩;rw[iQ h7,eQ _ rfl,ft _ rfl,iQ omQ];by_cases he:xg M.l (ofM 8 8 S.wide)=x.f.lk
   ·--0 was read: it waits
    rw[iJ ⟨p,he⟩];have h0:q=0:=by
     rw[T.lk,pl]at he;by_cases h:q=0
     ·exact h
     ·rw[iQ h]at he
      split at he<;>cases he
    have eZ:x.f.word=0:=by omega
    have ef:jn { x with f:={ x.f with p:=qr x.f.p 2 0 (-1) } }=(2,-1):=by unfold jn;exact iJ s
    obtain⟨s',er⟩:=CF (mt:=qp pW) (nd:=8);have ee:zQ { x with f:={ x.f with p:=qr x.f.p 2 0 (-1) } }=ww { x with f:={ x.f with p:=qr x.f.p 2 0 (-1) },r:=[(ofM 8 8 S.wide,0)],v:={ vW with K:=[(8,0)],aC:=8 },au:=.prog ⟨pW,s',3,0,17⟩,bt:=true } 5:=by
     unfold zQ;rw[iJ (by show x.state=3;exact s)];unfold xW;have es:xN { x.f with p:=qr x.f.p 2 0 (-1) }=(ofM 8 8 S.wide,0):=by unfold xN;rw[iQ (by show¬¬(2:Int)=2;decide)];show(x.f.bV,x.f.lk.1)=_;rw[f.st,pl]
     have ew:xq { x.f with p:=qr x.f.p 2 0 (-1) }=0:=by unfold xq;rw[iQ (by show¬¬(2:Int)=2;decide)];exact eZ
     dsimp only;rw[es,ew,r,v,iQ (by show¬(2:Int)=6;decide)];have ea:gr [] (ofM 8 8 S.wide,0)=(0,[(ofM 8 8 S.wide,0)]):=by unfold gr;rw[iQ (by dsimp only;omega)];rfl
     rw[ea,iJ rfl];have ek:yK { vW with aC:=8 } 8 0=(0,{ vW with K:=[(8,0)],aC:=8 }):=rfl;dsimp only;rw[ek];unfold xl yY;rw[show({ x with f:={ x.f with p:=qr x.f.p 2 0 (-1) },r:=[(ofM 8 8 S.wide,0)],v:={ vW with K:=[(8,0)],aC:=8 } }:q9).au=jW from j];dsimp only;rw[er];rfl
    have e:jN { x with f:={ x.f with p:=qr x.f.p 2 0 (-1) } }=_:=kG (by rw[ef,iQ od,ee];exact vG hb.c) (by rw[ef];decide);rw[e,ef,iQ od,ee];exact⟨⟨hb.me,hb.set,hb.c⟩,.p5 rfl rfl rfl ⟨rfl,rfl,rfl,hb.me⟩ λh=>by omega,rfl,λh=>by omega⟩
   ·rw[iQ (λh=>he h.2)];refine PN W T hb s j v r bl st f λh4=>?_;rw[sk,iJ p,iQ (by rw[pl];decide)];exact⟨λ_=>by decide,λ_=>by decide⟩
  ·--the lock behind,free at 1 ahead of the word: it is told
   refine⟨_,n7 omQ,?_⟩;rw[Ql T dl];refine⟨T.bump 1,rfl,rfl,rfl,by show(3:Int)≠5;decide,rfl,?_⟩;rw[iQ h7,eQ _ rfl,ft _ rfl,iQ omQ];have he:xg M.l (ofM 8 8 S.wide)=x.f.lk:=by rw[T.lk,iQ omQ,iQ omQ,pl]
   rw[iJ ⟨p,he⟩];have ef:jn { x with f:={ x.f with p:=qr x.f.p 2 0 (-1) } }=(2,-1):=by unfold jn;exact iJ s
   obtain⟨s',er,eo⟩:=CG (mt:=qp pW) (nd:=8) (y:=y) omQ;have ee:zQ { x with f:={ x.f with p:=qr x.f.p 2 0 (-1) } }=xH { x with f:={ x.f with p:=qr x.f.p 2 0 (-1) },r:=[(ofM 8 8 S.wide,1)],v:={ vW with K:=[(8,y)],aC:=8 },au:=.prog ⟨pW,s',2,0,16⟩ } 2 0 (-1):=by
    unfold zQ;rw[iJ (by show x.state=3;exact s)];unfold xW;have es:xN { x.f with p:=qr x.f.p 2 0 (-1) }=(ofM 8 8 S.wide,1):=by unfold xN;rw[iQ (by show¬¬(2:Int)=2;decide)];show(x.f.bV,x.f.lk.1)=_;rw[f.st,pl]
    have ew:xq { x.f with p:=qr x.f.p 2 0 (-1) }=y:=by unfold xq;rw[iQ (by show¬¬(2:Int)=2;decide)];exact pw
    dsimp only;rw[es,ew,r,v,iQ (by show¬(2:Int)=6;decide)];have ea:gr [] (ofM 8 8 S.wide,1)=(0,[(ofM 8 8 S.wide,1)]):=by unfold gr;rw[iQ (by dsimp only;omega)];rfl
    rw[ea,iJ rfl];have ek:yK { vW with aC:=8 } 8 y=(0,{ vW with K:=[(8,y)],aC:=8 }):=rfl;dsimp only;rw[ek];unfold xl yY;rw[show({ x with f:={ x.f with p:=qr x.f.p 2 0 (-1) },r:=[(ofM 8 8 S.wide,1)],v:={ vW with K:=[(8,y)],aC:=8 } }:q9).au=jW from j];dsimp only;rw[er];rfl
   have e:jN { x with f:={ x.f with p:=qr x.f.p 2 0 (-1) } }=_:=kG (by rw[ef,iQ od,ee];exact vG hb.c) (by rw[ef];decide);rw[e,ef,iQ od,ee];refine⟨⟨hb.me,hb.set,hb.c⟩,.CJ rfl rfl rfl ⟨_,rfl,eo⟩ rfl p4 rfl bl,rfl,λ_=>?_⟩;rw[sk,iJ p,iJ (by rw[pl])];exact(by decide:(1:Nat)<2)
 |p4 s j v r bl e q4=>
  obtain⟨e1,e2,e3,e4⟩:=e;refine⟨bi 6 0 0,by unfold jC QV;rw[iQ omQ,iQ omQ,iQ omQ,iQ omQ,iQ omQ,iQ omQ,iQ omQ,iQ (λh=>h e3),iJ e1],?_⟩;rw[wg];refine⟨T.bump 1,rfl,rfl,rfl,by show(6:Int)≠5;decide,rfl,?_⟩;rw[iQ omQ,zX omQ rfl,iQ omQ,iQ omQ,iQ omQ,iQ omQ,iQ omQ,iQ omQ];have et:xO x.e ⟨M.n,cB,false,0⟩={ x.e with bH:=true,af:=M.n,p:=qr x.e.p 2 0 (-1) }:=by unfold xO;rw[JA e3 rfl,iQ (λh=>by cases h),iJ e1];unfold XF;rw[iJ (by show x.e.at_=(x.e.seen.length:Int);rw[e2,e4];rfl)]
  rw[et];have uS:M.n=1:=by rw[T.n,iQ omQ]
  rw[uS];have ef:jn { x with e:={ x.e with bH:=true,af:=1,p:=qr x.e.p 2 0 (-1) } }=(2,-1):=by unfold jn;rw[iQ (by show¬x.state=3;omega),iQ (by show¬x.state=6;omega)];rfl
  have ee:zQ { x with e:={ x.e with bH:=true,af:=1,p:=qr x.e.p 2 0 (-1) } }=Qr { x with e:={ x.e with bH:=true,af:=1,p:=qr x.e.p 2 0 (-1) },af:=1 } 8:=by
   unfold zQ;rw[iQ (by show¬x.state=3;omega),iJ (by show x.state=4;exact s)];have:yr { x.e with bH:=true,af:=1,p:=qr x.e.p 2 0 (-1) }=1:=by unfold yr;rw[iQ (by show¬¬(2:Int)=2;decide)]
   dsimp only;rw[this,v]
  have eq:jN { x with e:={ x.e with bH:=true,af:=1,p:=qr x.e.p 2 0 (-1) } }=_:=kG (by rw[ef,iQ od,ee];exact vG hb.c) (by rw[ef];decide);rw[eq,ef,iQ od,ee];refine⟨⟨hb.me,hb.set,hb.c⟩,.p3 rfl j v r bl (.inr ⟨rfl,by omega⟩) ⟨rfl,PO,rfl,rfl,hb.me,.inl rfl⟩,rfl,λ_=>?_⟩;have h5:dR x=5:=by unfold dR;rw[iQ omQ,iQ omQ,iQ omQ,iQ omQ,iJ s]
  rw[h5];exact(by decide:(4:Nat)<5)
 |p5 s r bl e a=>
  obtain⟨e1,e2,e3,e4⟩:=e;have cx:jC x=QV x.e:=by unfold jC;rw[iQ omQ,iQ omQ,iQ omQ,iQ omQ,iQ omQ,iQ omQ,iQ omQ]
  have tg:∀w:cO,w.err=0→jY x w=jN { x with e:=xO x.e w }:=λw Bh=>by
   rw[zX omQ Bh,iQ omQ,iQ omQ,iQ omQ,iQ omQ,iQ omQ,iQ omQ]
  have ef:∀e:Qv,jn { x with e:=e }=(e.p.fin,e.p.cU):=λe=>by
   unfold jn;rw[iQ (by show¬x.state=3;omega),iQ (by show¬x.state=6;omega)]
  have PP:dR x=if x.e.bH=true then 23 else 24:=by unfold dR;rw[iQ omQ,iQ omQ,iQ omQ,iQ omQ,iQ omQ,iJ s]
  have going:∀e:Qv,e.seen=[(ofM 8 8 S.wide,0)]∧e.p.fin=0∧e.at_=0∧e.p.me=0→(q=4→dR { x with e:=e }<dR x)→sj S y q al x (jN { x with e:=e }):=λe he hm=>by
   have q:jN { x with e:=e }={ x with e:=e }:=ky (by rw[ef];exact he.2.1) hw;rw[q];exact⟨⟨hb.me,hb.set,hb.c⟩,.p5 s r bl he a,by show jq x=0;unfold jq;rw[iJ omQ],hm⟩
  cases hl:x.e.bH with
  |false=>
   refine⟨bi 6 0 0,by rw[cx];unfold QV;rw[iQ (λh=>h e2),iJ hl],?_⟩;rw[wg];refine⟨T.bump 1,rfl,rfl,rfl,by show(6:Int)≠5;decide,rfl,?_⟩;rw[iQ omQ,tg _ rfl];have et:xO x.e ⟨M.n,cB,false,0⟩={ x.e with bH:=true,af:=M.n }:=by unfold xO;rw[JA e2 rfl,iQ (λh=>by cases h),iJ hl];unfold XF;rw[iQ (by show¬x.e.at_=(x.e.seen.length:Int);rw[e1,e3];simp)]
   rw[et];refine going _ ⟨e1,e2,e3,e4⟩ λ_=>?_;rw[PP,hl];unfold dR;rw[iQ (by show¬x.state=0;omega),iQ (by show¬x.state=1;omega),iQ (by show¬x.state=2;omega),iQ (by show¬x.state=3;omega),iQ (by show¬x.state=4;omega),iJ (by show x.state=5;exact s),iJ rfl,iQ od];decide
  |true=>
   have PQ:(z6 x.e.seen x.e.at_)=(ofM 8 8 S.wide,0):=by rw[e1,e3];rfl
   refine⟨bi 3 (ofM 8 8 S.wide) 0,by rw[cx];unfold QV;rw[iQ (λh=>h e2),iQ (by rw[hl];decide),PQ],?_⟩;rw[Ql T dl];refine⟨T.bump 1,rfl,rfl,rfl,by show(3:Int)≠5;decide,rfl,?_⟩;rw[iQ omQ,tg _ rfl,T.lk];have et:∀l:dy,xO x.e ⟨0,l,false,0⟩=(if l.2.1=true then(if(jE x.e.p l).1=true then{ x.e with p:=(jE x.e.p l).2 }else{ x.e with p:=qr (jE x.e.p l).2 5 0 l.2.2 })else if l.1≠0 then{ x.e with p:=qr x.e.p 5 0 (-1) }else XF { x.e with at_:=x.e.at_+1 }):=λl=>by
    unfold xO;rw[JA e2 rfl,iQ (λh=>by cases h),iQ (by rw[hl];decide),PQ]
   rw[et];by_cases h0:q=0
   ·rw[iJ h0,iQ aN,iQ (λh=>h rfl)];unfold XF;rw[iJ (by show x.e.at_+1=(x.e.seen.length:Int);rw[e1,e3];rfl)];have ee:zQ { x with e:={ x.e with at_:=x.e.at_+1,p:=qr x.e.p 2 0 (-1) } }=xH { x with e:={ x.e with at_:=x.e.at_+1,p:=qr x.e.p 2 0 (-1) },af:=yr { x.e with at_:=x.e.at_+1,p:=qr x.e.p 2 0 (-1) } } 3 0 (-1):=by
     unfold zQ;rw[iQ (by show¬x.state=3;omega),iQ (by show¬x.state=4;omega),iJ (by show x.state=5;exact s)]
    have eq:jN { x with e:={ x.e with at_:=x.e.at_+1,p:=qr x.e.p 2 0 (-1) } }=_:=kG (by rw[ef,iQ (by show¬(2:Int)=5;decide),ee];exact vG hb.c) (by rw[ef];show(2:Int)≠0;decide);dsimp only at eq ⊢;rw[eq,ef,iQ (by show¬(2:Int)=5;decide),ee];exact⟨⟨hb.me,hb.set,hb.c⟩,.uG rfl rfl r bl a,rfl,λh=>by omega⟩
   ·rw[iQ h0];by_cases h3:q≤3
    ·rw[iJ h3];have ew:jE x.e.p (0,true,1)=(true,x.e.p):=by unfold jE;rw[iJ (by show x.e.p.me<1;rw[e4];decide)]
     rw[iJ rfl,ew];dsimp only;rw[iJ rfl];exact going _ ⟨e1,e2,e3,e4⟩ λh=>by omega
    ·rw[iQ h3,iQ aN,iJ od];have eq:jN { x with e:={ x.e with p:=qr x.e.p 5 0 (-1) } }=xH { x with e:={ x.e with p:=qr x.e.p 5 0 (-1) } } 5 0 (-1):=by
      rw[kG (by rw[ef,iJ (by rfl)];exact vG hb.c) (by rw[ef];show(5:Int)≠0;decide),ef,iJ (by rfl)];rfl
     rw[eq];refine⟨⟨hb.me,hb.set,hb.c⟩,.si rfl rfl rfl,rfl,λ_=>?_⟩;rw[PP,hl];exact(by decide:(22:Nat)<23)
 |uG s fin r bl a=>refine⟨bi 9 0 0,by unfold jC;rw[iQ omQ,iQ omQ,iQ omQ,iJ s,hb.me],?_⟩;rw[ym T od];refine⟨T.ep,rfl,rfl,rfl,by show(9:Int)≠5;decide,rfl,?_⟩;rw[iJ s,zX omQ rfl,iQ omQ,iQ omQ,iQ omQ,iJ s]
 |si s fin cU=>refine⟨bi 9 0 0,by unfold jC;rw[iQ omQ,iQ omQ,iQ omQ,iJ s,hb.me],?_⟩;rw[ym T od];refine⟨T.ep,rfl,rfl,rfl,by show(9:Int)≠5;decide,rfl,?_⟩;rw[iJ s,zX omQ rfl,iQ omQ,iQ omQ,iQ omQ,iJ s]
 |CJ s fin err j fr q4 r bl=>refine⟨bi 9 0 0,by unfold jC;rw[iQ omQ,iQ omQ,iQ omQ,iJ s,hb.me],?_⟩;rw[ym T od];refine⟨T.ep,rfl,rfl,rfl,by show(9:Int)≠5;decide,rfl,?_⟩;rw[iJ s,zX omQ rfl,iQ omQ,iQ omQ,iQ omQ,iJ s]
end
section
structure n8 (S:zK) (t:qt):Prop where
  me:t.me=0
  set:t.set=S
  jobs:t.jobs=[pW]
  au:t.state≠6→t.au=0
  aj:t.aj=false
  ae:t.ae=[]
  ad:t.ad=[]
inductive T0 (S:zK) (y:Int) (q:Nat) (t:qt):Prop
  |run (s:t.state=1) (x:q9) (hx:t.now=some x) (b:DX S x) (xx:X0 S y q t.bR x) (r:t.results=[])
  |dE (s:t.state=3) (p:1≤t.aV∧t.aV≤8) (r:t.results=[])
  |wait (s:t.state=4) (x:q9) (hx:t.now=some x) (xr:x.r=[(ofM 8 8 S.wide,0)]) (q3:q≤3) (r:t.results=[])
  |done (s:t.state=6) (r:∃z,t.results=[⟨2,0,YX [(1,y)],z⟩]) (q4:q=4) (nw:t.now=none)
def iy (t:qt):Nat:=if t.state=6 then 0 else if t.state=3 then 11+t.aV.toNat else match t.now with |some x=>dR x |none=>0
variable {S:zK} {y:Int} {q:Nat} {M:zZ} {t:qt}
theorem kE.ok (W:kE S):QG S:=by
 refine⟨?_,?_,?_,?_,?_,?_,?_,?_⟩
 ·rw[W.words];decide
 ·rw[W.ax];decide
 ·have:=W.wide;omega
 ·rw[W.aa];decide
 ·rw[W.start];decide
 ·rw[W.ao];decide
 ·rw[W.writes];decide
 ·rw[W.fuel];decide
theorem Hr (W:kE S) {me:Int} {l:List qa}:yg me S l=Ou me S (.prog ⟨l,Qc,0,0,20⟩)∧(yg me S l).v=vW:=by
 have hh:=kY W.ok;refine⟨?_,?_⟩
 ·unfold yg;rw[hh,W.fuel];rfl
 ·unfold yg Ou;rw[hh];show U1 S.words S.writes=vW;rw[W.words,W.writes];rfl
theorem X9 (W:kE S) (A:n8 S t) (h6:t.state≠6) (hr:t.results=[]):n8 S (jg t)∧T0 S y q (jg t)∧iy (jg t)=11:=by
 have hj:=A.au h6;obtain⟨e1,e2⟩:=Hr W (me:=0) (l:=pW);have e:jg t={ t with born:=0,bR:=false,state:=1,now:=some (yg 0 S pW) }:=by unfold jg;rw[iQ (by rw[hj,A.jobs];decide),A.aj,iQ od,A.me,A.set,A.jobs,hj];rfl
 rw[e];refine⟨⟨A.me,A.set,A.jobs,λ_=>hj,A.aj,A.ae,A.ad⟩,.run rfl _ rfl ⟨by rw[e1];rfl,by rw[e1];rfl,by rw[e1];rfl⟩ (.p0 (by rw[e1];rfl) (by rw[e1];rfl) e2 (by rw[e1];rfl) (by rw[e1];rfl)) hr,?_⟩;unfold iy;rw[iQ (by show¬(1:Int)=6;decide),iQ (by show¬(1:Int)=3;decide)];show dR (yg 0 S pW)=11;rw[e1];rfl
theorem qks (W:kE S) (A:n8 S t) (h6:t.state≠6) (hr:t.results=[]) {d:Int} (hd:0≤d):n8 S (xQ t d)∧T0 S y q (xQ t d)∧iy (xQ t d)≤19:=by
 have hb:=KJ t.aD;unfold xQ;by_cases h0:d%(yX t.aD+1)=0
 ·rw[iJ h0];obtain⟨a,b,c⟩:=X9 (y:=y) (q:=q) W (t:={ t with aV:=0,state:=3 }) ⟨A.me,A.set,A.jobs,λ_=>A.au h6,A.aj,A.ae,A.ad⟩ (by show(3:Int)≠6;decide) hr;exact⟨a,b,by omega⟩
 ·rw[iQ h0];have h1:=Int.emod_nonneg d (show yX t.aD+1≠0 by omega);have h2:=Int.emod_lt_of_pos d (show 0<yX t.aD+1 by omega);refine⟨⟨A.me,A.set,A.jobs,λ_=>A.au h6,A.aj,A.ae,A.ad⟩,.dE rfl (by show 1≤d%(yX t.aD+1)∧d%(yX t.aD+1)≤8;omega) hr,?_⟩;unfold iy;rw[iQ (by show¬(3:Int)=6;decide),iJ rfl];show 11+(d%(yX t.aD+1)).toNat≤19;omega
inductive Pk0 (S:zK) (y:Int) (q:Nat) (M:zZ) (t:qt):Prop
  |rest (hn:z7 t=none) (a:n8 S (jc t)) (b:T0 S y q (jc t)) (mu:q=4→t.state≠6→iy (jc t)<iy t)
  |go (o:dF) (hn:z7 t=some o) (m:fh S y q (qu M o).2) (k5:o.kind≠5) (g:∀d p,0≤d→n8 S (zj t (qu M o).1 d p)∧T0 S y q (zj t (qu M o).1 d p)∧(q=4→iy (zj t (qu M o).1 d p)<iy t))
theorem qzB (W:kE S) (T:fh S y q M) (hy:1≤y) (A:n8 S t) (B:T0 S y q t):Pk0 S y q M t:=by
 have hq:=T.q4;cases B with
 |run s x hx b xx r=>
  obtain⟨o,h1,h2,_,_,_,h5,h6,h7⟩:=qzS W T hy b xx;refine .go o ((GZ s hx).trans h1) h2 h5 λd p hd=>?_;generalize(qu M o).1=a at*;rw[Gk s hx];have mt:iy t=dR x:=by unfold iy;rw[iQ omQ,iQ omQ,hx]
  by_cases c7:x.state=7
  ·rw[iJ c7]at h7;rw[h7];unfold vv;dsimp only;have dA:jq { x with state:=8 }=x.fin:=by unfold jq;rw[iQ (λh=>h rfl)]
   rw[dA];have hm:x.fin≠2→dR x=22:=λh=>by unfold dR;rw[iQ omQ,iQ omQ,iQ omQ,iQ omQ,iQ omQ,iQ omQ,iQ h]
   cases xx with
   |p0 s0 j v r bl=>omega
   |p1 s0 j v r bl=>omega
   |p2 s0 j v r bl st=>omega
   |p3 s0 j v r bl st f=>omega
   |p4 s0 j v r bl e q4=>omega
   |p5 s0 r bl e a=>omega
   |uG s0 fin xr bl al=>
    rw[iQ omQ];unfold xU;dsimp only;rw[dA,iQ omQ,iJ fin];by_cases ha:t.bR=true
    ·rw[iJ ha];obtain⟨g1,g2,g3⟩:=X9 (y:=y) (q:=q) W (t:={ t with now:=some { x with state:=8 },born:=if x.begun=true∧x.begun=false then p else t.born,az:=t.az++[jM { t with now:=some { x with state:=8 },born:=if x.begun=true∧x.begun=false then p else t.born } { x with state:=8 } p],ag:=t.ag+1 })
      ⟨A.me,A.set,A.jobs,A.au,A.aj,A.ae,A.ad⟩ (by show t.state≠6;omega) r
     exact⟨g1,g2,λ_=>by rw[g3,mt,hm omQ];decide⟩
    ·rw[iQ ha];refine⟨⟨A.me,A.set,A.jobs,λ_=>A.au omQ,A.aj,A.ae,A.ad⟩,.wait rfl _ rfl xr ?_ r,λh=>absurd (al h) ha⟩;by_cases h:q=4
     ·exact absurd (al h) ha
     ·omega
   |si s0 fin cU=>
    rw[iQ omQ];unfold xU;dsimp only;rw[dA,iJ fin];have uW:wE { x with state:=8 }= -1:=by unfold wE;rw[iQ (λh=>h rfl)];exact cU
    rw[uW,iQ omQ];obtain⟨g1,g2,g3⟩:=qks (y:=y) (q:=q) W (t:={ t with now:=some { x with state:=8 },born:=if x.begun=true∧x.begun=false then p else t.born,az:=t.az++[jM { t with now:=some { x with state:=8 },born:=if x.begun=true∧x.begun=false then p else t.born } { x with state:=8 } p],ag:=t.ag+1,aD:=t.aD+1 })
     ⟨A.me,A.set,A.jobs,A.au,A.aj,A.ae,A.ad⟩ (by show t.state≠6;omega) r hd
    exact⟨g1,g2,λ_=>by rw[mt,hm omQ];omega⟩
   |CJ s0 fin err j fr q4 xr bl=>
    obtain⟨rs,hj,ho⟩:=j;rw[iQ omQ];unfold xU;dsimp only;rw[dA,iQ omQ,iQ omQ,A.aj,iQ od];have sU:zM { x with state:=8 }=true:=by unfold zM;rw[dA,fin];rfl
    have uq:zJ { x with state:=8 }=[]:=by unfold zJ;rw[iJ sU];dsimp only;rw[hj];exact fr
    have mV:zG { x with state:=8 }=YX [(1,y)]:=by unfold zG;rw[iJ sU];dsimp only;rw[hj];dsimp only;rw[ho]
    have her:xB { x with state:=8 }=0:=by unfold xB;rw[iQ (λh=>h rfl)];exact err
    rw[uq,mV,her,A.ad,r,fin];have ov:∀u:qt,u.ad=[]→gE u=jD u:=λu h=>by unfold gE;rw[iJ h]
    rw[ov _ rfl];unfold jD jg;dsimp only;rw[iJ (by rw[A.au omQ,A.jobs];rfl)];refine⟨⟨A.me,A.set,A.jobs,λh=>absurd rfl h,rfl,rfl,rfl⟩,.done rfl ⟨_,rfl⟩ q4 rfl,λ_=>?_⟩;rw[mt];have:dR x=1:=by unfold dR;rw[iQ omQ,iQ omQ,iQ omQ,iQ omQ,iQ omQ,iQ omQ,iJ fin]
    rw[this];exact(by decide:(0:Nat)<1)
  ·rw[iQ c7]at h7;unfold vv;dsimp only;rw[iJ h7.end_];refine⟨⟨A.me,A.set,A.jobs,A.au,A.aj,A.ae,A.ad⟩,.run s _ rfl h7.b h7.xx r,λh4=>?_⟩;rw[mt];unfold iy;rw[iQ (by show¬t.state=6;omega),iQ (by show¬t.state=3;omega)];exact h7.mu h4
 |dE s p r=>
  refine .rest (by unfold z7;rw[iQ omQ,iQ omQ,iQ omQ]) ?_ ?_ λ_ _=>?_
  all_goals unfold jc
  all_goals rw[iJ s]
  all_goals by_cases h:t.aV-1=0
  ·rw[iJ h];exact(X9 (y:=y) (q:=q) W (t:={ t with aV:=0 }) ⟨A.me,A.set,A.jobs,A.au,A.aj,A.ae,A.ad⟩ (by show t.state≠6;omega) r).1
  ·rw[iQ h];exact⟨A.me,A.set,A.jobs,A.au,A.aj,A.ae,A.ad⟩
  ·rw[iJ h];exact(X9 (y:=y) (q:=q) W (t:={ t with aV:=0 }) ⟨A.me,A.set,A.jobs,A.au,A.aj,A.ae,A.ad⟩ (by show t.state≠6;omega) r).2.1
  ·rw[iQ h];exact .dE s (by show 1≤t.aV-1∧t.aV-1≤8;omega) r
  ·rw[iJ h,(X9 (y:=y) (q:=q) W (t:={ t with aV:=0 }) ⟨A.me,A.set,A.jobs,A.au,A.aj,A.ae,A.ad⟩ (by show t.state≠6;omega) r).2.2];unfold iy;rw[iQ omQ,iJ s];omega
  ·rw[iQ h];unfold iy;rw[iQ (by show¬t.state=6;omega),iJ (by show t.state=3;exact s),iQ omQ,iJ s];show 11+(t.aV-1).toNat<11+t.aV.toNat;omega
 |wait s x hx xr q3 r=>
  have e:jc t=t:=by unfold jc;rw[iQ omQ]
  exact .rest (by unfold z7;rw[iQ omQ,iQ omQ,iQ omQ]) (by rw[e];exact A) (by rw[e];exact .wait s x hx xr q3 r) λh=>by omega
 |done s r q4 nw=>
  have e:jc t=t:=by unfold jc;rw[iQ omQ]
  exact .rest (by unfold z7;rw[iQ omQ,iQ omQ,iQ omQ]) (by rw[e];exact A) (by rw[e];exact .done s r q4 nw) λ_ h=>absurd s h
theorem X0.mono {al:Bool} {x:q9} (X:X0 S y q al x) (h:q+1≤3):X0 S y (q+1) al x:=by
 cases X with
 |p0 s j v r bl=>exact .p0 s j v r bl
 |p1 s j v r bl=>exact .p1 s j v r bl
 |p2 s j v r bl st=>exact .p2 s j v r bl omQ
 |p3 s j v r bl st f=>
  refine .p3 s j v r bl omQ ⟨f.at_,f.st,f.af,f.fin,f.tf,?_⟩;rcases f.ph with p |⟨p,pl⟩ |⟨p,pl,p4,ps⟩ |⟨p,pl,pw⟩ |⟨p,pl,p4,ps,pw⟩
  ·exact .inl p
  ·exact .inr (.inl ⟨p,pl⟩)
  ·omega
  ·exact .inr (.inr (.inr (.inl ⟨p,pl,by omega⟩)))
  ·omega
 |p4 s j v r bl e q4=>omega
 |p5 s r bl e a=>exact .p5 s r bl e λh=>by omega
 |uG s fin r bl a=>exact .uG s fin r bl λh=>by omega
 |si s fin cU=>exact .si s fin cU
 |CJ s fin err j fr q4 r bl=>omega
theorem T0.mono (B:T0 S y q t) (h:q+1≤3):T0 S y (q+1) t:=by
 cases B with
 |run s x hx b xx r=>exact .run s x hx b (xx.mono h) r
 |dE s p r=>exact .dE s p r
 |wait s x hx xr q3 r=>exact .wait s x hx xr h r
 |done s r q4 nw=>omega
theorem Q9 {x:q9} {s v:Int} (hx:t.now=some x):zl t s v=if zE x.r s v=true then(if t.state=4 then jg t else if t.state=1∧zx x=true then{ t with bR:=true }else t)else t:=by
 unfold zl
 split
 ·rename_i h;rw[hx]at h;cases h
 ·rename_i z h;rw[hx]at h;cases h;rfl
theorem qka (W:kE S) (A:n8 S t) (B:T0 S y 3 t):n8 S (zl t (ofM 8 8 S.wide) 1)∧T0 S y 4 (zl t (ofM 8 8 S.wide) 1)∧(zl t (ofM 8 8 S.wide) 1).results=t.results:=by
 have so:∀r:List xD,r=[(ofM 8 8 S.wide,0)]→zE r (ofM 8 8 S.wide) 1=true:=λr h=>by
  subst h;unfold zE;simp
 have sn:zE [] (ofM 8 8 S.wide) 1=false:=rfl;cases B with
 |run s x hx b xx r=>
  rw[Q9 hx];have li:x.r=[]→(∀al,X0 S y 3 al x→X0 S y 4 al x)→n8 S (if zE x.r (ofM 8 8 S.wide) 1=true then(if t.state=4 then jg t else if t.state=1∧zx x=true then{ t with bR:=true }else t)else t)∧
    T0 S y 4 (if zE x.r (ofM 8 8 S.wide) 1=true then(if t.state=4 then jg t else if t.state=1∧zx x=true then{ t with bR:=true }else t)else t)∧(if zE x.r (ofM 8 8 S.wide) 1=true then(if t.state=4 then jg t else if t.state=1∧zx x=true then{ t with bR:=true }else t)else t).results=t.results:=λhr h=>by
   rw[hr,sn,iQ od];exact⟨A,.run s x hx b (h _ xx) r,rfl⟩
  have CL:x.r=[(ofM 8 8 S.wide,0)]→x.state≠8→x.bt=true→X0 S y 4 true x→n8 S (if zE x.r (ofM 8 8 S.wide) 1=true then(if t.state=4 then jg t else if t.state=1∧zx x=true then{ t with bR:=true }else t)else t)∧
    T0 S y 4 (if zE x.r (ofM 8 8 S.wide) 1=true then(if t.state=4 then jg t else if t.state=1∧zx x=true then{ t with bR:=true }else t)else t)∧(if zE x.r (ofM 8 8 S.wide) 1=true then(if t.state=4 then jg t else if t.state=1∧zx x=true then{ t with bR:=true }else t)else t).results=t.results:=λhr h8 hb h=>by
   rw[so _ hr,iJ rfl,iQ omQ,iJ ⟨s,by unfold zx;rw[iG h8,hb];rfl⟩];exact⟨⟨A.me,A.set,A.jobs,A.au,A.aj,A.ae,A.ad⟩,.run s x hx b h r,rfl⟩
  cases xx with
  |p0 s0 j v xr bl=>exact li xr λal _=>.p0 s0 j v xr bl
  |p1 s0 j v xr bl=>exact li xr λal _=>.p1 s0 j v xr bl
  |p2 s0 j v xr bl st=>exact li xr λal _=>.p2 s0 j v xr bl omQ
  |p3 s0 j v xr bl st f=>
   refine li xr λal _=>.p3 s0 j v xr bl omQ ⟨f.at_,f.st,f.af,f.fin,f.tf,?_⟩;rcases f.ph with p |⟨p,pl⟩ |⟨p,pl,p4,ps⟩ |⟨p,pl,pw⟩ |⟨p,pl,p4,ps,pw⟩
   ·exact .inl p
   ·exact .inr (.inl ⟨p,pl⟩)
   ·omega
   ·exact .inr (.inr (.inr (.inl ⟨p,pl,.inr omQ⟩)))
   ·omega
  |p4 s0 j v xr bl e q4=>omega
  |p5 s0 xr bl e a=>exact CL xr omQ bl (.p5 s0 xr bl e λ_=>rfl)
  |uG s0 fin xr bl a=>exact CL xr omQ bl (.uG s0 fin xr bl λ_=>rfl)
  |si s0 fin cU=>
   split
   ·rw[iQ omQ]
    split
    ·exact⟨⟨A.me,A.set,A.jobs,A.au,A.aj,A.ae,A.ad⟩,.run s x hx b (.si s0 fin cU) r,rfl⟩
    ·exact⟨A,.run s x hx b (.si s0 fin cU) r,rfl⟩
   ·exact⟨A,.run s x hx b (.si s0 fin cU) r,rfl⟩
  |CJ s0 fin err j fr q4 xr bl=>omega
 |dE s p r=>
  cases hx:t.now with
  |none=>
   have e:zl t (ofM 8 8 S.wide) 1=t:=by unfold zl;rw[hx]
   rw[e];exact⟨A,.dE s p r,rfl⟩
  |some x=>
   rw[Q9 hx]
   split
   ·rw[iQ omQ,iQ omQ];exact⟨A,.dE s p r,rfl⟩
   ·exact⟨A,.dE s p r,rfl⟩
 |wait s x hx xr q3 r=>rw[Q9 hx];rw[so _ xr,iJ rfl,iJ s];obtain⟨g1,g2,_⟩:=X9 (y:=y) (q:=4) W A omQ r;exact⟨g1,g2,by unfold jg;split<;>rfl⟩
 |done s r q4 nw=>omega
end
section
variable {S:zK} {y:Int} {q:Nat} {M:zZ} {x:q9}
theorem Hs (W:kE S):ofM 8 8 S.wide≠ofM 15 8 S.wide∧xF [(8,y)] 8 S.wide=[ofM 8 8 S.wide]:=by
 have hw:=W.wide;have h3:S.wide=1∨S.wide=2∨S.wide=3:=by omega
 rcases h3 with h |h |h<;>rw[h]<;>exact⟨by decide,rfl⟩
theorem fh.lock (W:kE S) (T:fh S y 0 M) {k:Int}:fh S y 1 { M with l:=M.l.set (ofM 8 8 S.wide).toNat (0,true,1),b6:=k }:=by
 have h8:=W.pO (p:=8) od;have mg:=W.pO (p:=15) od;have hl:=T.l;have cx:=(Hs (y:=0) W).1;refine⟨T.w,by show(M.l.set _ _).length=8;rw[List.length_set];exact hl,T.s,T.n,?_,T.w8,?_,by decide⟩
 ·show xg (M.l.set _ _) _=_;rw[MA h8.1 h8.1 omQ,iJ rfl];rfl
 ·show xg (M.l.set _ _) _=_;rw[MA h8.1 mg.1 omQ,iQ cx];exact T.l8
theorem fh.free (W:kE S) (T:fh S y 3 M) {k:Int}:fh S y 4 { M with l:=M.l.set (ofM 8 8 S.wide).toNat (1,false,0),b6:=k }:=by
 have h8:=W.pO (p:=8) od;have mg:=W.pO (p:=15) od;have hl:=T.l;have cx:=(Hs (y:=0) W).1;refine⟨T.w,by show(M.l.set _ _).length=8;rw[List.length_set];exact hl,T.s,T.n,?_,T.w8,?_,by decide⟩
 ·show xg (M.l.set _ _) _=_;rw[MA h8.1 h8.1 omQ,iJ rfl];rfl
 ·show xg (M.l.set _ _) _=_;rw[MA h8.1 mg.1 omQ,iQ cx];exact T.l8
abbrev jI:Yc:=.prog ⟨pI,Qc,0,0,20⟩
abbrev jS (y:Int):Yc:=.prog ⟨pS y,Qc,0,0,20⟩
structure uH (S:zK) (x:q9):Prop where
  me:x.me=1
  set:x.set=S
structure F15 (S:zK) (x:q9):Prop where
  at_:x.f.at_=15
  st:x.f.bV=ofM 15 8 S.wide
  af:x.f.af=0
  fin:x.f.p.fin=0
  ph:x.f.state=0∨(x.f.state=1∧x.f.lk=(0,false,0))∨(x.f.state=2∧x.f.lk=(0,false,0))
inductive XI (S:zK) (x:q9):Prop
  |p0 (s:x.state=0) (j:x.au=jI) (v:x.v=vW) (r:x.r=[]) (c:x.c=none)
  |p1 (s:x.state=1) (j:x.au=jI) (v:x.v=vW) (r:x.r=[]) (c:x.c=none)
  |p2 (s:x.state=2) (j:x.au=jI) (v:x.v=vW) (r:x.r=[]) (c:x.c=none) (st:x.af=0)
  |p3 (s:x.state=3) (j:x.au=jI) (v:x.v={ vW with aC:=15 }) (r:x.r=[]) (c:x.c=none) (f:F15 S x)
  |p7 (s:x.state=7) (fin:x.fin=2) (j:∃r,x.au=.prog r) (fr:xy x.v.lv=[])
def cW (s y:Int) (aZ:List dy) (st:Int) (lk:dy) (wr:Bool):zL:=⟨NE 1 0,1,0,[],[(8,y)],[s],aZ,st,0,lk,0,wr,0,0,0⟩
inductive XS (S:zK) (y:Int) (q:Nat) (x:q9):Prop
  |p0 (s:x.state=0) (j:x.au=jS y) (v:x.v=vW) (r:x.r=[]) (c:x.c=none) (q0:q=0)
  |p1 (s:x.state=1) (j:x.au=jS y) (v:x.v=vW) (r:x.r=[]) (c:x.c=none) (q0:q=0)
  |p2 (s:x.state=2) (j:x.au=jS y) (v:x.v=vW) (r:x.r=[]) (c:x.c=none) (q0:q=0) (st:x.af=0)
  |c0 (s:x.state=6) (j:∃r,x.au=.prog r) (fr:xy x.v.lv=[]) (c:x.c=some (cW (ofM 8 8 S.wide) y [] 0 cB false)) (q0:q=0)
  |c1 (s:x.state=6) (j:∃r,x.au=.prog r) (fr:xy x.v.lv=[]) (c:x.c=some (cW (ofM 8 8 S.wide) y [] 1 (0,false,0) false)) (q0:q=0)
  |c2 (s:x.state=6) (j:∃r,x.au=.prog r) (fr:xy x.v.lv=[]) (c:x.c=some (cW (ofM 8 8 S.wide) y [(0,false,0)] 2 (0,false,0) false)) (q1:q=1)
  |c3 (s:x.state=6) (j:∃r,x.au=.prog r) (fr:xy x.v.lv=[]) (c:x.c=some (cW (ofM 8 8 S.wide) y [(0,false,0)] 3 (0,false,0) false)) (q1:q=1)
  |c5 (s:x.state=6) (j:∃r,x.au=.prog r) (fr:xy x.v.lv=[]) (c:x.c=some (cW (ofM 8 8 S.wide) y [(0,false,0)] 5 (0,false,0) true)) (q2:q=2)
  |c6 (s:x.state=6) (j:∃r,x.au=.prog r) (fr:xy x.v.lv=[]) (c:x.c=some (cW (ofM 8 8 S.wide) y [(0,false,0)] 6 (0,false,0) true)) (q3:q=3)
  |p7 (s:x.state=7) (fin:x.fin=2) (j:∃r,x.au=.prog r) (fr:xy x.v.lv=[]) (q4:q=4)
def DY (x:q9):Nat:=match x.c with |some c=>10-c.state.toNat |none=>0
def eS (x:q9):Nat:=if x.state=0 then 20 else if x.state=1 then 19 else if x.state=2 then 18
 else if x.state=3 then 12-x.f.state.toNat else if x.state=6 then DY x else 1
theorem qGH {c:zL} (h6:x.state=6) (h0:c.p.fin=0):∃z,jN { x with c:=some c }={ x with c:=some c,af:=z }:=by
 have ef:jn { x with c:=some c }=(c.p.fin,c.p.cU):=by unfold jn;rw[iQ (by show¬x.state=3;omega),iJ (by show x.state=6;exact h6)]
 unfold jN;rw[ef,iJ h0];unfold xK
 split
 ·exact⟨_,rfl⟩
 ·exact⟨x.af,rfl⟩
theorem qKS {c:zL} (h6:x.state=6) (h2:c.p.fin=2):∃z,jN { x with c:=some c }={ xH { x with c:=some c } 2 c.p.err (-1)with af:=z }:=by
 have ef:jn { x with c:=some c }=(c.p.fin,c.p.cU):=by unfold jn;rw[iQ (by show¬x.state=3;omega),iJ (by show x.state=6;exact h6)]
 unfold jN;rw[ef,h2,iQ (by show¬(2:Int)=0;decide),iQ (by show¬(2:Int)=5;decide)];unfold zQ;rw[iQ (by show¬x.state=3;omega),iQ (by show¬x.state=4;omega),iQ (by show¬x.state=5;omega)];dsimp only;rw[h2];unfold xK
 split
 ·exact⟨_,rfl⟩
 ·exact⟨x.af,rfl⟩
structure CM (S:zK) (y:Int) (q:Nat) (M:zZ) (o:dF) (q':Nat):Prop where
  m:fh S y q' (qu M o).2
  qq:q'=q∨(q'=q+1∧q'≤3∧o.kind≠5)∨(q=3∧q'=4∧o.kind=5∧o.at_=ofM 8 8 S.wide∧o.lk.1=1)
  k5:q'=q→o.kind≠5
theorem qjf (W:kE S) (T:fh S y 0 M) (hb:uH S x) (X:XI S x):∃o,jC x=some o∧CM S y 0 M o 0∧
  (if x.state=7 then jY x (qu M o).1={ x with state:=8 }else uH S (jY x (qu M o).1)∧XI S (jY x (qu M o).1)∧jq (jY x (qu M o).1)=0∧eS (jY x (qu M o).1)<eS x):=by
 have dl:=W.pO (p:=15) od;cases X with
 |p0 s j v r c=>refine⟨bi 9 1 1,by unfold jC;rw[iJ s,hb.me],?_⟩;rw[ym T od];refine⟨⟨by rw[ym T od];exact T.ep,.inl rfl,λ_=>by show(9:Int)≠5;decide⟩,?_⟩;rw[iQ omQ,zX omQ rfl,iJ s];exact⟨⟨hb.me,hb.set⟩,.p1 rfl j v r c,rfl,by unfold eS;rw[iJ s];exact(by decide:(19:Nat)<20)⟩
 |p1 s j v r c=>refine⟨bi 6 0 0,by unfold jC;rw[iQ omQ,iJ s],?_⟩;rw[wg];refine⟨⟨by rw[wg];exact T.bump 1,.inl rfl,λ_=>by show(6:Int)≠5;decide⟩,?_⟩;rw[iQ omQ,zX omQ rfl,iQ omQ,iJ s];exact⟨⟨hb.me,hb.set⟩,.p2 rfl j v r c T.n,rfl,by unfold eS;rw[iQ (by omega:¬x.state=0),iJ s];exact(by decide:(18:Nat)<19)⟩
 |p2 s j v r c st=>
  refine⟨bi 9 1 (zg .u64 (x.af+1)),by unfold jC;rw[iQ omQ,iQ omQ,iJ s,hb.me],?_⟩;rw[ym T od];refine⟨⟨by rw[ym T od];exact T.ep,.inl rfl,λ_=>by show(9:Int)≠5;decide⟩,?_⟩;rw[iQ omQ,zX omQ rfl,iQ omQ,iQ omQ,iJ s];have e:xl x=Qr { x with au:=jI,v:={ vW with aC:=15 } } 15:=by unfold xl yY;rw[j,v];dsimp only;rw[show vW={ vW with aC:=0 }from rfl,CH];rfl
  rw[e];refine⟨⟨hb.me,hb.set⟩,.p3 rfl rfl rfl r c ⟨rfl,?_,st,rfl,.inl rfl⟩,rfl,?_⟩
  ·show ofM 15 x.set.ax x.set.wide=_;rw[hb.set,W.ax]
  ·have h9:eS x=18:=by unfold eS;rw[iQ omQ,iQ omQ,iJ s]
   rw[h9];exact(by decide:(12:Nat)<18)
 |p3 s j v r c f=>
  have o8:jC x=gW x.f:=by unfold jC;rw[iQ omQ,iQ omQ,iQ omQ,iQ omQ,iQ omQ,iJ s]
  have hw:=vG c;have sk:eS x=12-x.f.state.toNat:=by unfold eS;rw[iQ omQ,iQ omQ,iQ omQ,iJ s]
  have eQ:∀a:cO,a.err=0→jY x a=jN { x with f:=xY x.f a }:=λa ha=>by
   rw[zX omQ ha,iQ omQ,iQ omQ,iQ omQ,iQ omQ,iJ s]
  have ft:∀a:cO,a.err=0→xY x.f a=(if x.f.state=1 then{ x.f with word:=a.word,state:=2 }else if x.f.state=2∧a.lk=x.f.lk then{ x.f with p:=qr x.f.p 2 0 (-1) }else vX x.f a.lk):=λa ha=>by
   unfold xY;rw[JA f.fin ha,iQ (λh=>by cases h)]
  have n7:x.f.state≠1→jC x=some (bi 3 (ofM 15 8 S.wide) 0):=λh=>by
   rw[o8];unfold gW;rw[iQ (λh'=>h' f.fin),iQ h,f.st]
  have going:∀f':kK,f'.p.fin=0→jN { x with f:=f' }={ x with f:=f' }:=λf' h0=>ky (by unfold jn;rw[iJ (by show x.state=3;exact s)];exact h0) hw;have CN:∀f':kK,jq { x with f:=f' }=0:=λf'=>by show jq x=0;unfold jq;rw[iJ omQ]
  have PR:∀f':kK,eS { x with f:=f' }=12-f'.state.toNat:=λf'=>by
   unfold eS;rw[iQ (by show¬x.state=0;omega),iQ (by show¬x.state=1;omega),iQ (by show¬x.state=2;omega),iJ (by show x.state=3;exact s)]
  rcases f.ph with p |⟨p,pl⟩ |⟨p,pl⟩
  ·refine⟨_,n7 omQ,⟨by rw[Ql T dl];exact T.bump 1,.inl rfl,λ_=>by show(3:Int)≠5;decide⟩,?_⟩;rw[Ql T dl,iQ omQ,eQ _ rfl,ft _ rfl,iQ omQ,iQ omQ,T.l8];unfold vX;rw[iQ aN,iQ (by show¬x.f.af<0;rw[f.af];decide)];dsimp only;rw[going { x.f with lk:=(0,false,0),state:=1 } f.fin];exact⟨⟨hb.me,hb.set⟩,.p3 s j v r c ⟨f.at_,f.st,f.af,f.fin,.inr (.inl ⟨rfl,rfl⟩)⟩,CN _,by rw[PR,sk,p];exact(by decide:(11:Nat)<12)⟩
  ·have CK:jC x=some (bi 1 15 0):=by
    rw[o8];unfold gW;rw[iQ (λh'=>h' f.fin),iJ p,f.at_]
   refine⟨_,CK,⟨by rw[NZ T od];exact T.bump 1,.inl rfl,λ_=>by show(1:Int)≠5;decide⟩,?_⟩;rw[NZ T od,iQ omQ,eQ _ rfl,ft _ rfl,iJ p];dsimp only;rw[going { x.f with word:=qO M.w 15,state:=2 } f.fin];exact⟨⟨hb.me,hb.set⟩,.p3 s j v r c ⟨f.at_,f.st,f.af,f.fin,.inr (.inr ⟨rfl,pl⟩)⟩,CN _,by rw[PR,sk,p];exact(by decide:(10:Nat)<11)⟩
  ·refine⟨_,n7 omQ,⟨by rw[Ql T dl];exact T.bump 1,.inl rfl,λ_=>by show(3:Int)≠5;decide⟩,?_⟩;rw[Ql T dl,iQ omQ,eQ _ rfl,ft _ rfl,iQ omQ,iJ ⟨p,by rw[T.l8,pl]⟩];have ef:jn { x with f:={ x.f with p:=qr x.f.p 2 0 (-1) } }=(2,-1):=by unfold jn;exact iJ s
   obtain⟨s',er⟩:=CI (mt:=qp pI) (nd:=15) (y:=x.f.word);have ee:zQ { x with f:={ x.f with p:=qr x.f.p 2 0 (-1) } }=xH { x with f:={ x.f with p:=qr x.f.p 2 0 (-1) },r:=[(ofM 15 8 S.wide,0)],v:={ vW with K:=[(15,x.f.word)],aC:=15 },au:=.prog ⟨pI,s',2,0,18⟩ } 2 0 (-1):=by
    unfold zQ;rw[iJ (by show x.state=3;exact s)];unfold xW;have es:xN { x.f with p:=qr x.f.p 2 0 (-1) }=(ofM 15 8 S.wide,0):=by unfold xN;rw[iQ (by show¬¬(2:Int)=2;decide)];show(x.f.bV,x.f.lk.1)=_;rw[f.st,pl]
    have ew:xq { x.f with p:=qr x.f.p 2 0 (-1) }=x.f.word:=by unfold xq;rw[iQ (by show¬¬(2:Int)=2;decide)]
    dsimp only;rw[es,ew,r,v,iQ (by show¬(2:Int)=6;decide)];have ea:gr [] (ofM 15 8 S.wide,0)=(0,[(ofM 15 8 S.wide,0)]):=by unfold gr;rw[iQ (by dsimp only;omega)];rfl
    rw[ea,iJ rfl];have ek:yK { vW with aC:=15 } 15 x.f.word=(0,{ vW with K:=[(15,x.f.word)],aC:=15 }):=rfl;dsimp only;rw[ek];unfold xl yY;rw[show({ x with f:={ x.f with p:=qr x.f.p 2 0 (-1) },r:=[(ofM 15 8 S.wide,0)],v:={ vW with K:=[(15,x.f.word)],aC:=15 } }:q9).au=jI from j];dsimp only;rw[er];rfl
   have e:jN { x with f:={ x.f with p:=qr x.f.p 2 0 (-1) } }=_:=kG (by rw[ef,iQ od,ee];exact vG c) (by rw[ef];decide);rw[e,ef,iQ od,ee];exact⟨⟨hb.me,hb.set⟩,.p7 rfl rfl ⟨_,rfl⟩ rfl,rfl,by rw[sk,p];exact(by decide:(1:Nat)<10)⟩
 |p7 s fin j fr=>refine⟨bi 9 1 0,by unfold jC;rw[iQ omQ,iQ omQ,iQ omQ,iJ s,hb.me],?_⟩;rw[ym T od];refine⟨⟨by rw[ym T od];exact T.ep,.inl rfl,λ_=>by show(9:Int)≠5;decide⟩,?_⟩;rw[iJ s,zX omQ rfl,iQ omQ,iQ omQ,iQ omQ,iJ s]
theorem qz9 (W:kE S) (T:fh S y q M) (hb:uH S x) (X:XS S y q x):∃o q',jC x=some o∧CM S y q M o q'∧
  (if x.state=7 then jY x (qu M o).1={ x with state:=8 }∧q'=q else uH S (jY x (qu M o).1)∧XS S y q' (jY x (qu M o).1)∧jq (jY x (qu M o).1)=0∧eS (jY x (qu M o).1)<eS x):=by
 have dl:=W.pO (p:=8) od;have hq4:=T.q4;have PS:∀c,x.state=6→x.c=some c→jC x=wU c:=λc h6 hc=>qYi h6 hc;have CO:∀(c d:zL) (o:dF) (a:cO) (N:zZ) (q':Nat),x.state=6→x.c=some c→(∃r,x.au=.prog r)→xy x.v.lv=[]→wU c=some o→qu M o=(a,N)→a.err=0→xL c a=d→d.p.fin=0→CM S y q M o q'→
   (∀z:q9,z.state=6→(∃r,z.au=.prog r)→xy z.v.lv=[]→z.c=some d→XS S y q' z)→10-d.state.toNat<10-c.state.toNat→
   ∃o q',jC x=some o∧CM S y q M o q'∧(if x.state=7 then jY x (qu M o).1={ x with state:=8 }∧q'=q else uH S (jY x (qu M o).1)∧XS S y q' (jY x (qu M o).1)∧jq (jY x (qu M o).1)=0∧eS (jY x (qu M o).1)<eS x) :=
  λc d o a N q' h6 hc hj hf hn hm ha ht h0 hO hX ot=>by
   refine⟨o,q',(PS c h6 hc).trans hn,hO,?_⟩;rw[iQ omQ,hm];dsimp only;rw[Og h6 ha hc,ht];obtain⟨z,ez⟩:=qGH (x:=x) h6 h0;rw[ez];have m0:eS x=10-c.state.toNat:=by unfold eS DY;rw[iQ omQ,iQ omQ,iQ omQ,iQ omQ,iJ h6,hc]
   refine⟨⟨hb.me,hb.set⟩,hX _ h6 hj hf rfl,by unfold jq;rw[iJ (by show x.state≠8;omega)],?_⟩;rw[m0];unfold eS DY;rw[iQ (by show¬x.state=0;omega),iQ (by show¬x.state=1;omega),iQ (by show¬x.state=2;omega),iQ (by show¬x.state=3;omega),iJ (by show x.state=6;exact h6)];exact ot
 cases X with
 |p0 s j v r c q0=>refine⟨bi 9 1 1,q,by unfold jC;rw[iJ s,hb.me],⟨by rw[ym T od];exact T.ep,.inl rfl,λ_=>by show(9:Int)≠5;decide⟩,?_⟩;rw[ym T od,iQ omQ,zX omQ rfl,iJ s];exact⟨⟨hb.me,hb.set⟩,.p1 rfl j v r c q0,rfl,by unfold eS;rw[iJ s];exact(by decide:(19:Nat)<20)⟩
 |p1 s j v r c q0=>refine⟨bi 6 0 0,q,by unfold jC;rw[iQ omQ,iJ s],⟨by rw[wg];exact T.bump 1,.inl rfl,λ_=>by show(6:Int)≠5;decide⟩,?_⟩;rw[wg,iQ omQ,zX omQ rfl,iQ omQ,iJ s];exact⟨⟨hb.me,hb.set⟩,.p2 rfl j v r c q0 (by show M.n=0;rw[T.n,iJ omQ]),rfl,by unfold eS;rw[iQ (by omega:¬x.state=0),iJ s];exact(by decide:(18:Nat)<19)⟩
 |p2 s j v r c q0 st=>
  refine⟨bi 9 1 (zg .u64 (x.af+1)),q,by unfold jC;rw[iQ omQ,iQ omQ,iJ s,hb.me],⟨by rw[ym T od];exact T.ep,.inl rfl,λ_=>by show(9:Int)≠5;decide⟩,?_⟩;rw[ym T od,iQ omQ,zX omQ rfl,iQ omQ,iQ omQ,iJ s];obtain⟨s',er⟩:=Hq (mt:=qp (pS y)) (nd:=0) (v:=y);have e:xl x={ x with au:=.prog ⟨pS y,s',2,0,18⟩,v:={ vW with aC:=0,lv:=[([(8,y)],[])] },state:=6,c:=some (cW (ofM 8 8 S.wide) y [] 0 cB false) }:=by
   unfold xl yY;rw[j,v];dsimp only;rw[show vW={ vW with aC:=0 }from rfl,er];unfold wu;dsimp only;rw[iQ od,iQ od,iQ od,iQ (by show¬[((8:Int),y)]=[];simp)];have ec:On x.me x.set.ao x.af x.r (jh [([(8,y)],[])]) x.set.ax x.set.wide=cW (ofM 8 8 S.wide) y [] 0 cB false:=by rw[hb.me,hb.set,W.ao,W.ax,st,r];unfold On Qn cW;rw[show jh [([(8,y)],[])]=[((8:Int),y)]from rfl,(Hs W).2];rfl
   rw[ec];rfl
  rw[e];refine⟨⟨hb.me,hb.set⟩,.c0 rfl ⟨_,rfl⟩ rfl rfl q0,rfl,?_⟩;have h9:eS x=18:=by unfold eS;rw[iQ omQ,iQ omQ,iJ s]
  rw[h9];exact(by decide:(10:Nat)<18)
 |c0 s j fr c q0=>subst q0;have hm:=Ql T dl;rw[T.lk,iJ rfl]at hm;exact CO _ (cW (ofM 8 8 S.wide) y [] 1 (0,false,0) false) (bi 3 (ofM 8 8 S.wide) 0) _ _ 0 s c j fr rfl hm rfl rfl rfl ⟨by rw[hm];exact T.bump 1,.inl rfl,λ_=>by show(3:Int)≠5;decide⟩ (λz a b d e=>.c1 a b d e rfl) (show(9:Nat)<10 by decide)
 |c1 s j fr c q0=>
  subst q0;have hl:=T.l;have hm:qu M ⟨4,ofM 8 8 S.wide,0,0,(0,false,0),(0,true,1)⟩=(⟨0,cB,true,0⟩,{ M with l:=M.l.set (ofM 8 8 S.wide).toNat (0,true,1),b6:=M.b6+1 }):=by refine NO (M:=M) (N:={ M with l:=M.l.set (ofM 8 8 S.wide).toNat (0,true,1) }) (.inr (.inl rfl)) ?_ rfl;unfold Gf;rw[iQ (by show¬(ofM 8 8 S.wide<0∨(M.l.length:Int)≤ofM 8 8 S.wide);omega),iQ (by show¬(4:Int)=3;decide),iQ (by show¬¬Ye (0,true,1);rw[MD];decide),iQ (by show¬(4:Int)=5;decide),iQ (by show¬(xg M.l (ofM 8 8 S.wide)≠(0,false,0));rw[T.lk];exact λh=>h rfl)]
  exact CO _ (cW (ofM 8 8 S.wide) y [(0,false,0)] 2 (0,false,0) false) ⟨4,ofM 8 8 S.wide,0,0,(0,false,0),(0,true,1)⟩ _ _ 1 s c j fr rfl hm rfl rfl rfl ⟨by rw[hm];exact T.lock W,.inr (.inl ⟨rfl,by decide,by show(4:Int)≠5;decide⟩),λh=>by omega⟩ (λz a b d e=>.c2 a b d e rfl) (show(8:Nat)<9 by decide)
 |c2 s j fr c q1=>
  subst q1;have hm:qu M (bi 6 0 0)=(⟨0,cB,false,0⟩,bump M 1):=by rw[wg,T.n];rfl
  exact CO _ (cW (ofM 8 8 S.wide) y [(0,false,0)] 3 (0,false,0) false) (bi 6 0 0) _ _ 1 s c j fr rfl hm rfl rfl rfl ⟨by rw[hm];exact T.bump 1,.inl rfl,λ_=>by show(6:Int)≠5;decide⟩ (λz a b d e=>.c3 a b d e rfl) (show(7:Nat)<8 by decide)
 |c3 s j fr c q1=>
  subst q1;have hm:qu M ⟨7,0,0,1,cB,cB⟩=(⟨0,cB,true,0⟩,{ M with n:=1,b6:=M.b6+1 }):=by refine qxo (M:=M) (N:={ M with n:=1 }) (.inr rfl) ?_ rfl;unfold Xz;rw[iQ (by show¬(7:Int)=6;decide),iQ (by show¬(1:Int)≤0;decide),iQ (by show¬(4611686018427387904:Int)≤1;decide),iQ (by show¬(M.n≠0);rw[T.n];exact λh=>h rfl)]
  exact CO _ (cW (ofM 8 8 S.wide) y [(0,false,0)] 5 (0,false,0) true) ⟨7,0,0,1,cB,cB⟩ _ _ 2 s c j fr rfl hm rfl rfl rfl ⟨by rw[hm];exact⟨T.w,T.l,T.s,rfl,T.lk,T.w8,T.l8,by decide⟩,.inr (.inl ⟨rfl,by decide,by show(7:Int)≠5;decide⟩),λh=>by omega⟩ (λz a b d e=>.c5 a b d e rfl) (show(5:Nat)<7 by decide)
 |c5 s j fr c q2=>
  subst q2;have As:=T.w;have hm:qu M (bi 2 8 y)=(lg,{ M with w:=M.w.set 8 y,b6:=M.b6+1 }):=by refine NP (M:=M) (N:={ M with w:=M.w.set 8 y }) (.inr rfl) ?_ rfl;unfold UV;rw[iQ (by show¬((8:Int)<1∨(M.w.length:Int)≤8);omega),iQ (by show¬(2:Int)=1;decide)];rfl
  exact CO _ (cW (ofM 8 8 S.wide) y [(0,false,0)] 6 (0,false,0) true) (bi 2 8 y) _ _ 3 s c j fr rfl hm rfl rfl rfl ⟨by
    rw[hm];refine⟨by show(M.w.set 8 y).length=32;rw[List.length_set];exact As,T.l,T.s,T.n,T.lk,?_,T.l8,by decide⟩;show((M.w.set 8 y)[8]?).getD 0=y
    rw[List.getElem?_set_self omQ];rfl,.inr (.inl ⟨rfl,by decide,by show(2:Int)≠5;decide⟩),λh=>by omega⟩ (λz a b d e=>.c6 a b d e rfl) (show(4:Nat)<5 by decide)
 |c6 s j fr c q3=>
  subst q3;have hl:=T.l;have hm:qu M ⟨5,ofM 8 8 S.wide,0,0,cB,(1,false,0)⟩=(lg,{ M with l:=M.l.set (ofM 8 8 S.wide).toNat (1,false,0),b6:=M.b6+1 }):=by refine NO (M:=M) (N:={ M with l:=M.l.set (ofM 8 8 S.wide).toNat (1,false,0) }) (.inr (.inr rfl)) ?_ rfl;unfold Gf;rw[iQ (by show¬(ofM 8 8 S.wide<0∨(M.l.length:Int)≤ofM 8 8 S.wide);omega),iQ (by show¬(5:Int)=3;decide),iQ (by show¬¬Ye (1,false,0);rw[Nk];exact λh=>h ⟨by decide,rfl⟩),iJ rfl]
  refine⟨⟨5,ofM 8 8 S.wide,0,0,cB,(1,false,0)⟩,4,(PS _ s c).trans rfl,⟨by rw[hm];exact T.free W,.inr (.inr ⟨rfl,rfl,rfl,rfl,rfl⟩),λh=>by omega⟩,?_⟩;rw[iQ omQ,hm];dsimp only;rw[Og s rfl c];obtain⟨z,ez⟩:=qKS (x:=x) (c:=xL (cW (ofM 8 8 S.wide) y [(0,false,0)] 6 (0,false,0) true) lg) s rfl;rw[ez];refine⟨⟨hb.me,hb.set⟩,.p7 rfl rfl j fr rfl,rfl,?_⟩;have m0:eS x=4:=by unfold eS DY;rw[iQ omQ,iQ omQ,iQ omQ,iQ omQ,iJ s,c];rfl
  rw[m0];exact(by decide:(1:Nat)<4)
 |p7 s fin j fr q4=>refine⟨bi 9 1 0,q,by unfold jC;rw[iQ omQ,iQ omQ,iQ omQ,iJ s,hb.me],⟨by rw[ym T od];exact T.ep,.inl rfl,λ_=>by show(9:Int)≠5;decide⟩,?_⟩;rw[ym T od,iJ s,zX omQ rfl,iQ omQ,iQ omQ,iQ omQ,iJ s];exact⟨rfl,rfl⟩
end
section
variable {S:zK} {y:Int} {js:List (List qa)} {q:Nat} {M:zZ}
structure CP (S:zK) (js:List (List qa)) (u:qt):Prop where
  me:u.me=1
  set:u.set=S
  jobs:u.jobs=js
  aj:u.aj=false
  ae:u.ae=[]
  ad:u.ad=[]
def uI (y:Int) (js:List (List qa)):Prop:=js=[pS y]∨js=[pI,pS y]
inductive T1 (S:zK) (y:Int) (js:List (List qa)) (q:Nat) (u:qt):Prop
  |idle (s:u.state=1) (j:u.au=0) (e:js=[pI,pS y]) (x:q9) (hx:u.now=some x) (b:uH S x) (xx:XI S x) (q0:q=0)
  |set (s:u.state=1) (j:u.au+1=js.length) (x:q9) (hx:u.now=some x) (b:uH S x) (xx:XS S y q x)
  |done (s:u.state=6) (q4:q=4)
def n9 (u:qt):Nat:=if u.state=6 then 0 else match u.now with |some x=>eS x+(if u.au+1=(u.jobs.length:Int)then 0 else 30) |none=>0
theorem PU {x:q9}:dR x≤24:=by
 unfold dR
 repeat' split
 all_goals omega
theorem Kj {t:qt} {x:q9} (dP:t.aj=false) (hr:t.ad=[]) (hf:x.fin=2) (hj:∃r,x.au=.prog r) (fr:xy x.v.lv=[]) (d p:Int) :
  ∃az results,xU t { x with state:=8 } d p=jD { t with az:=az,ag:=t.ag+1,results:=results,ad:=[] }:=by
 have dA:jq { x with state:=8 }=2:=by unfold jq;rw[iQ (λh=>h rfl)];exact hf
 have sU:zM { x with state:=8 }=true:=by unfold zM;rw[dA];rfl
 have uq:zJ { x with state:=8 }=[]:=by obtain⟨r,hj⟩:=hj;unfold zJ;rw[iJ sU];dsimp only;rw[hj];exact fr
 have ov:∀u:qt,u.ad=[]→gE u=jD u:=λu h=>by unfold gE;rw[iJ h]
 refine⟨t.az++[jM t { x with state:=8 } p],t.results++[⟨jq { x with state:=8 },xB { x with state:=8 },zG { x with state:=8 },x.af⟩],?_⟩;unfold xU;dsimp only;rw[iQ omQ,iQ omQ,iQ (by rw[dP];decide),uq,hr,List.map_nil,List.append_nil,ov _ rfl]
theorem PV (W:kE S) {u:qt} (h1:u.me=1) (h2:u.set=S) (h3:u.jobs=js) (hj:u.au+1+1=js.length) (hJ:uI y js) (hr:u.ad=[]):CP S js (jD u)∧T1 S y js 0 (jD u)∧n9 (jD u)=20:=by
 obtain⟨e1,e2⟩:=Hr W (me:=1) (l:=pS y);have hl:(js[(u.au+1).toNat]?).getD []=pS y:=by
  rcases hJ with rfl |rfl
  ·have:u.au= -1:=by simp at hj;omega
   rw[this];rfl
  ·have:u.au=0:=by simp at hj;omega
   rw[this];rfl
 have e:jD u={ u with au:=u.au+1,aj:=false,ae:=[],ag:=0,aD:=0,born:=0,bR:=false,state:=1,now:=some (yg 1 S (pS y)) }:=by unfold jD jg;dsimp only;rw[iQ (by rw[h3];omega),iQ od,h1,h2,h3,hl]
 rw[e];refine⟨⟨h1,h2,h3,rfl,rfl,hr⟩,.set rfl hj _ rfl ⟨by rw[e1];rfl,by rw[e1];rfl⟩ (.p0 (by rw[e1];rfl) (by rw[e1];rfl) e2 (by rw[e1];rfl) (by rw[e1];rfl) rfl),?_⟩;unfold n9;rw[iQ (by show¬(1:Int)=6;decide)];dsimp only;rw[iJ (by rw[h3];exact hj),e1];rfl
inductive Pk1 (S:zK) (y:Int) (js:List (List qa)) (q:Nat) (M:zZ) (u:qt):Prop
  |rest (s:u.state=6) (q4:q=4) (hn:z7 u=none) (e:jc u=u)
  |go (s:u.state≠6) (o:dF) (q':Nat) (hn:z7 u=some o) (op:CM S y q M o q') (g:∀d p,CP S js (zj u (qu M o).1 d p)∧T1 S y js q' (zj u (qu M o).1 d p)∧n9 (zj u (qu M o).1 d p)<n9 u)
theorem qx6 (W:kE S) (hJ:uI y js) {u:qt} (T:fh S y q M) (A:CP S js u) (B:T1 S y js q u):Pk1 S y js q M u:=by
 cases B with
 |idle s j e x hx b xx q0=>
  subst q0;obtain⟨o,h1,h2,h3⟩:=qjf W T b xx;have ot:n9 u=eS x+30:=by unfold n9;rw[iQ omQ,hx];dsimp only;rw[iQ (by rw[A.jobs,e,j];show¬(0:Int)+1=2;decide)]
  refine .go omQ o 0 ((GZ s hx).trans h1) h2 λd p=>?_;rw[Gk s hx];by_cases c7:x.state=7
  ·rw[iJ c7]at h3;rw[h3];cases xx with
   |p0 s0 j v r c=>omega
   |p1 s0 j v r c=>omega
   |p2 s0 j v r c st=>omega
   |p3 s0 j v r c f=>omega
   |p7 s0 fin jj fr=>
    unfold vv;dsimp only;have dA:jq { x with state:=8 }=2:=by unfold jq;rw[iQ (λh=>h rfl)];exact fin
    rw[dA,iQ od];obtain⟨pa,re,ee⟩:=Kj (t:={ u with now:=some { x with state:=8 },born:=if x.begun=true∧x.begun=false then p else u.born }) A.aj A.ad fin jj fr d p;rw[ee];obtain⟨g1,g2,g3⟩:=PV (y:=y) (js:=js) W (u:={ u with now:=some { x with state:=8 },born:=if x.begun=true∧x.begun=false then p else u.born,az:=pa,ag:=u.ag+1,results:=re,ad:=[] }) A.me A.set A.jobs (by show u.au+1+1=js.length;rw[j,e];rfl) hJ rfl;refine⟨g1,g2,?_⟩;rw[g3,ot];omega
  ·rw[iQ c7]at h3;unfold vv;dsimp only;rw[iJ h3.2.2.1];refine⟨⟨A.me,A.set,A.jobs,A.aj,A.ae,A.ad⟩,.idle s j e _ rfl h3.1 h3.2.1 rfl,?_⟩;have:=h3.2.2.2;rw[ot];unfold n9;rw[iQ (by show¬u.state=6;omega)];dsimp only;rw[iQ (by rw[A.jobs,e,j];show¬(0:Int)+1=2;decide)];omega
 |set s j x hx b xx=>
  obtain⟨o,q',h1,h2,h3⟩:=qz9 W T b xx;have ot:n9 u=eS x:=by unfold n9;rw[iQ omQ,hx];dsimp only;rw[iJ (by rw[A.jobs];exact j)];rfl
  refine .go omQ o q' ((GZ s hx).trans h1) h2 λd p=>?_;rw[Gk s hx];by_cases c7:x.state=7
  ·rw[iJ c7]at h3;obtain⟨h3,rfl⟩:=h3;rw[h3];cases xx with
   |p0 s0 j v r c q0=>omega
   |p1 s0 j v r c q0=>omega
   |p2 s0 j v r c q0 st=>omega
   |c0 s0 j fr c q0=>omega
   |c1 s0 j fr c q0=>omega
   |c2 s0 j fr c q0=>omega
   |c3 s0 j fr c q0=>omega
   |c5 s0 j fr c q0=>omega
   |c6 s0 j fr c q0=>omega
   |p7 s0 fin jj fr q4=>
    unfold vv;dsimp only;have dA:jq { x with state:=8 }=2:=by unfold jq;rw[iQ (λh=>h rfl)];exact fin
    rw[dA,iQ od];obtain⟨pa,re,ee⟩:=Kj (t:={ u with now:=some { x with state:=8 },born:=if x.begun=true∧x.begun=false then p else u.born }) A.aj A.ad fin jj fr d p;rw[ee];unfold jD jg;dsimp only;rw[iJ (by rw[A.jobs];exact j)];refine⟨⟨A.me,A.set,A.jobs,rfl,rfl,rfl⟩,.done rfl q4,?_⟩;have m1:eS x=1:=by unfold eS;rw[iQ omQ,iQ omQ,iQ omQ,iQ omQ,iQ omQ]
    rw[ot,m1];exact(by decide:(0:Nat)<1)
  ·rw[iQ c7]at h3;unfold vv;dsimp only;rw[iJ h3.2.2.1];refine⟨⟨A.me,A.set,A.jobs,A.aj,A.ae,A.ad⟩,.set s j _ rfl h3.1 h3.2.1,?_⟩;have:=h3.2.2.2;rw[ot];unfold n9;rw[iQ (by show¬u.state=6;omega)];dsimp only;rw[iJ (by rw[A.jobs];exact j)];omega
 |done s q4=>exact .rest s q4 (by unfold z7;rw[iQ omQ,iQ omQ,iQ omQ]) (by unfold jc;rw[iQ omQ])
structure Yp (S:zK) (y:Int) (js:List (List qa)) (q:Nat) (m:gK) (t u:qt):Prop where
  s:m.s=S
  ts:m.t=[t,u]
  st:fh S y q m.m
  a0:n8 S t
  b0:T0 S y q t
  a1:CP S js u
  b1:T1 S y js q u
def fE (t u:qt):Nat:=n9 u+(if u.state=6 then iy t else 25)
theorem NA {t:qt} (B:T0 S y q t):iy t≤24:=by
 unfold iy;cases B with
 |run s x hx b xx r=>rw[iQ omQ,iQ omQ,hx];exact PU
 |dE s p r=>rw[iQ omQ,iJ s];omega
 |wait s x hx xr q3 r=>rw[iQ omQ,iQ omQ,hx];exact PU
 |done s r q4 nw=>rw[iJ s];omega
theorem CQ (W:kE S) (hy:1≤y) {m:gK} {t u:qt} (Y:Yp S y js q m t u) {d:Int} (hd:0≤d):∃t',Yp S y js q (xj m 0 d) t' u∧fE t' u≤fE t u∧(u.state=6→t.state≠6→fE t' u<fE t u):=by
 have hg:m.t[0]? =some t:=by rw[Y.ts];rfl
 have q4:u.state=6→q=4:=λh=>by
  cases Y.b1 with
  |idle s j e x hx b xx q0=>omega
  |set s j x hx b xx=>omega
  |done s q4=>exact q4
 have fin:∀t':qt,(q=4→t.state≠6→iy t'<iy t)→(t.state=6→iy t'≤iy t)→fE t' u≤fE t u∧(u.state=6→t.state≠6→fE t' u<fE t u):=λt' h1 h2=>by
  unfold fE;by_cases hu:u.state=6
  ·rw[iJ hu,iJ hu];by_cases ht:t.state=6
   ·have:=h2 ht;exact⟨by omega,λ_ h=>absurd ht h⟩
   ·have:=h1 (q4 hu) ht;exact⟨by omega,λ_ _=>by omega⟩
  ·rw[iQ hu,iQ hu];exact⟨Nat.le_refl _,λh=>absurd h hu⟩
 cases qzB W Y.st hy Y.a0 Y.b0 with
 |rest hn a b mu=>
  have e:xj m 0 d={ m with aK:=m.aK+1,last:=bi 0 0 0,did:=false,t:=m.t.set 0 (jc t) }:=by unfold xj;rw[hg];dsimp only;rw[hn]
  rw[e];refine⟨jc t,⟨Y.s,by show m.t.set 0 _=_;rw[Y.ts];rfl,Y.st,a,b,Y.a1,Y.b1⟩,fin _ mu λh=>?_⟩;rw[show jc t=t by unfold jc;rw[iQ omQ]];exact Nat.le_refl _
 |go o hn mm k5 g=>
  obtain⟨g1,g2,g3⟩:=g d (m.aK+1) hd;have e:xj m 0 d={ m with aK:=m.aK+1,last:=o,did:=true,m:=(qu m.m o).2,t:=m.t.set 0 (zj t (qu m.m o).1 d (m.aK+1)) }:=by unfold xj;rw[hg];dsimp only;rw[hn];dsimp only;rw[iQ k5]
  rw[e];refine⟨_,⟨Y.s,by show m.t.set 0 _=_;rw[Y.ts];rfl,mm,g1,g2,Y.a1,Y.b1⟩,fin _ (λh _=>g3 h) λh=>?_⟩;unfold z7 at hn;rw[iQ omQ,iQ omQ,iQ omQ]at hn;cases hn
theorem CR (W:kE S) (hJ:uI y js) {m:gK} {t u:qt} (Y:Yp S y js q m t u) {d:Int}:∃q' t' u',Yp S y js q' (xj m 1 d) t' u'∧fE t' u'≤fE t u∧(u.state≠6→fE t' u'<fE t u)∧(u.state=6→t'=t∧u'=u):=by
 have hg:m.t[1]? =some u:=by rw[Y.ts];rfl
 cases qx6 W hJ Y.st Y.a1 Y.b1 with
 |rest s q4 hn ep=>
  have e:xj m 1 d={ m with aK:=m.aK+1,last:=bi 0 0 0,did:=false,t:=m.t.set 1 (jc u) }:=by unfold xj;rw[hg];dsimp only;rw[hn]
  rw[e,ep];exact⟨q,t,u,⟨Y.s,by show m.t.set 1 u=_;rw[Y.ts];rfl,Y.st,Y.a0,Y.b0,Y.a1,Y.b1⟩,Nat.le_refl _,λh=>absurd s h,λ_=>⟨rfl,rfl⟩⟩
 |go s o q' hn op g=>
  obtain⟨g1,g2,g3⟩:=g d (m.aK+1);have e:xj m 1 d={ m with aK:=m.aK+1,last:=o,did:=true,m:=(qu m.m o).2,t:=if o.kind=5 then yS (m.t.set 1 (zj u (qu m.m o).1 d (m.aK+1))) 1 o.at_ o.lk.1 else m.t.set 1 (zj u (qu m.m o).1 d (m.aK+1)) }:=by unfold xj;rw[hg];dsimp only;rw[hn]
  rw[e];generalize zj u (qu m.m o).1 d (m.aK+1)=u' at*;have fin:∀t':qt,iy t'≤24→fE t' u'≤fE t u∧(u.state≠6→fE t' u'<fE t u):=λt' h=>by
   unfold fE;rw[iQ s]
   split
   ·exact⟨by omega,λ_=>by omega⟩
   ·exact⟨by omega,λ_=>by omega⟩
  have e1:m.t.set 1 u'=[t,u']:=by rw[Y.ts];rfl
  rcases op.qq with rfl |⟨rfl,h3,k5⟩ |⟨rfl,rfl,k5,ka,kl⟩
  ·have k5:=op.k5 rfl;obtain⟨f1,f2⟩:=fin t (NA Y.b0);exact⟨_,t,u',⟨Y.s,by show(if o.kind=5 then _ else _)=_;rw[iQ k5];exact e1,op.m,Y.a0,Y.b0,g1,g2⟩,f1,f2,λh=>absurd h s⟩
  ·obtain⟨f1,f2⟩:=fin t (NA Y.b0);exact⟨_,t,u',⟨Y.s,by show(if o.kind=5 then _ else _)=_;rw[iQ k5];exact e1,op.m,Y.a0,Y.b0.mono h3,g1,g2⟩,f1,f2,λh=>absurd h s⟩
  ·obtain⟨w1,w2,_⟩:=qka W Y.a0 Y.b0;obtain⟨f1,f2⟩:=fin _ (NA w2);refine⟨_,_,u',⟨Y.s,?_,op.m,w1,w2,g1,g2⟩,f1,f2,λh=>absurd h s⟩;show(if o.kind=5 then _ else _)=_;rw[iJ k5,e1,ka,kl];rfl
theorem qVM (W:kE S) (hJ:uI y js) (hy:1≤y) {m:gK} {t u:qt} (Y:Yp S y js q m t u):∃q' t' u',Yp S y js q' (xj (xj m 1 0) 0 0) t' u'∧((t.state=6∧u.state=6)∨fE t' u'<fE t u):=by
 obtain⟨q1,t1,u1,Y1,a1,b1,c1⟩:=CR W hJ Y (d:=0);obtain⟨t2,Y2,a2,b2⟩:=CQ W hy Y1 (d:=0) (Int.le_refl _);refine⟨q1,t2,u1,Y2,?_⟩;by_cases hu:u.state=6
 ·obtain⟨rfl,rfl⟩:=c1 hu;by_cases ht:t1.state=6
  ·exact .inl ⟨ht,hu⟩
  ·exact .inr (b2 hu ht)
 ·have:=b1 hu;exact .inr omQ
theorem Yp.rest {m:gK} {t u:qt} (Y:Yp S y js q m t u):(t.state=6∨t.state=4)∧(u.state=6∨u.state=4)→t.state=6∧u.state=6:=λ⟨h1,h2⟩=>by
 have hu:u.state=6:=by
  cases Y.b1 with
  |idle s j e x hx b xx q0=>omega
  |set s j x hx b xx=>omega
  |done s q4=>exact s
 refine⟨?_,hu⟩;have q4:q=4:=by
  cases Y.b1 with
  |idle s j e x hx b xx q0=>omega
  |set s j x hx b xx=>omega
  |done s q4=>exact q4
 cases Y.b0 with
 |run s x hx b xx r=>omega
 |dE s p r=>omega
 |wait s x hx xr q3 r=>omega
 |done s r q4 nw=>exact s
theorem Yp.calm {m:gK} {t u:qt} (Y:Yp S y js q m t u):¬(t.state=4∧u.state=6):=λ⟨h1,h2⟩=>by
 have:=(Y.rest ⟨.inr h1,.inl h2⟩).1;omega
theorem Yp.told {m:gK} {t u:qt} (Y:Yp S y js q m t u) (h:t.state=6):∃z,t.results=[⟨2,0,YX [(1,y)],z⟩]:=by
 cases Y.b0 with
 |run s x hx b xx r=>omega
 |dE s p r=>omega
 |wait s x hx xr q3 r=>omega
 |done s r q4 nw=>exact r
theorem qxd {s:zK} (h:s.words=32∧s.ax=8∧(1≤s.wide∧s.wide≤3)∧s.start=0∧s.ao=0∧s.writes=5∧s.fuel=20) (hJ:uI y js) :
  kE (jG { s with aa:=2 })∧∃t u,Yp (jG { s with aa:=2 }) y js 0 (ML s [[pW],js]) t u∧fE t u≤100:=by
 obtain⟨h1,h2,h3,h4,h5,h6,h7⟩:=h;have W:kE (jG { s with aa:=2 }):=by
  refine⟨?_,?_,?_,rfl,?_,?_,?_,?_⟩
  ·show vh s.words 32 256=32;rw[h1];decide
  ·show vh s.ax 1 16=8;rw[h2];decide
  ·show 1≤vh s.wide 1 16∧vh s.wide 1 16≤3;unfold vh;omega
  ·show vh s.ao 0 4=0;rw[h5];decide
  ·show vh s.writes 0 96=5;rw[h6];decide
  ·show vh s.fuel 0 400=20;rw[h7];decide
  ·show min s.start 4611686018427387903=0;rw[h4];decide
 refine⟨W,?_⟩;have em:ML s [[pW],js]=⟨jG { s with aa:=2 },(qu (yW (jG { s with aa:=2 })) (bi 2 5 14)).2,(List.range (jG { s with aa:=2 }).aa.toNat).map λi:Nat=>Qj i (jG { s with aa:=2 }) ((([[pW],js].take 4)[i]?).getD []),0,bi 0 0 0,false⟩:=rfl;rw[em];generalize jG { s with aa:=2 }=S at*;have hh:=kY W.ok;have tl:((List.range S.aa.toNat).map λi:Nat=>Qj i S ((([[pW],js].take 4)[i]?).getD []))=[Qj 0 S [pW],Qj 1 S js]:=by rw[W.aa];rfl
 have ny:fh S y 0 (qu (yW S) (bi 2 5 14)).2:=by
  have e:qu (yW S) (bi 2 5 14)=(lg,{ yW S with w:=(yW S).w.set 5 14,b6:=1 }):=by refine NP (M:=yW S) (N:={ yW S with w:=(yW S).w.set 5 14 }) (a:=lg) (.inr rfl) ?_ rfl;unfold UV;rw[iQ (by show¬((5:Int)<1∨((List.replicate S.words.toNat (0:Int)).length:Int)≤5);rw[List.length_replicate,W.words];decide)];rfl
  rw[e];have PW:∀j,xg (List.replicate S.ax.toNat cB) j=cB:=λj=>by
   unfold xg;rw[List.getElem?_replicate]
   split<;>rfl
  refine⟨?_,?_,?_,W.start,?_,?_,?_,by decide⟩
  ·show((List.replicate S.words.toNat (0:Int)).set 5 14).length=32;rw[List.length_set,List.length_replicate,W.words];rfl
  ·show(List.replicate S.ax.toNat cB).length=8;rw[List.length_replicate,W.ax];rfl
  ·show(List.replicate S.aa.toNat (0:Int)).length=2;rw[List.length_replicate,W.aa];rfl
  ·show xg (List.replicate S.ax.toNat cB) _=_;rw[PW];rfl
  ·show qO ((List.replicate S.words.toNat (0:Int)).set 5 14) 8=0;rw[W.words];rfl
  ·show xg (List.replicate S.ax.toNat cB) _=_;rw[PW];rfl
 have BP:max 0 (min (0:Int) (S.aa-1))=0:=by rw[W.aa];decide
 have nH:max 0 (min (1:Int) (S.aa-1))=1:=by rw[W.aa];decide
 have Ds:js.take 6=js:=by rcases hJ with rfl |rfl<;>rfl
 have Ht:n8 S (Qj 0 S [pW])∧T0 S y 0 (Qj 0 S [pW]):=by
  obtain⟨g1,g2,_⟩:=X9 (y:=y) (q:=0) W (t:=⟨max 0 (min 0 (S.aa-1)),S,[pW],0,0,false,[],0,0,none,0,false,[],[],[],[],0,0,false,0⟩) ⟨BP,rfl,rfl,λ_=>rfl,rfl,rfl,rfl⟩ (by show(0:Int)≠6;decide) rfl;have e:Qj 0 S [pW]=jg ⟨max 0 (min 0 (S.aa-1)),S,[pW],0,0,false,[],0,0,none,0,false,[],[],[],[],0,0,false,0⟩:=by unfold Qj;rw[hh];rfl
  rw[e];exact⟨g1,g2⟩
 have Hu:CP S js (Qj 1 S js)∧T1 S y js 0 (Qj 1 S js)∧n9 (Qj 1 S js)≤50:=by
  unfold Qj;rw[hh,nH,Ds];rcases hJ with rfl |rfl
  ·obtain⟨g1,g2,g3⟩:=PV (y:=y) (js:=[pS y]) W (u:=⟨1,S,[pS y],-1,0,false,[],0,0,none,0,false,[],[],[],[],0,0,false,0⟩) rfl rfl rfl rfl (.inl rfl) rfl;exact⟨g1,g2,by rw[g3];decide⟩
  ·obtain⟨e1,e2⟩:=Hr W (me:=1) (l:=pI);have e:jD ⟨1,S,[pI,pS y],-1,0,false,[],0,0,none,0,false,[],[],[],[],0,0,false,0⟩=⟨1,S,[pI,pS y],0,1,false,[],0,0,some (yg 1 S pI),0,false,[],[],[],[],0,0,false,0⟩:=rfl;rw[e];refine⟨⟨rfl,rfl,rfl,rfl,rfl,rfl⟩,.idle rfl rfl rfl _ rfl ⟨by rw[e1];rfl,by rw[e1];rfl⟩ (.p0 (by rw[e1];rfl) (by rw[e1];rfl) e2 (by rw[e1];rfl) (by rw[e1];rfl)) rfl,?_⟩;unfold n9;rw[iQ (by show¬(1:Int)=6;decide)];dsimp only;rw[e1];exact(by decide:20+30≤50)
 refine⟨_,_,⟨rfl,tl,ny,Ht.1,Ht.2,Hu.1,Hu.2.1⟩,?_⟩;have:=NA Ht.2;have:=Hu.2.2;unfold fE
 split<;>omega
end
section
def uJ (n:Nat):List UInt8 :=
 if n<10 then[UInt8.ofNat (48+n)]else if n<100 then[UInt8.ofNat (48+n/10),UInt8.ofNat (48+n%10)]else[UInt8.ofNat (48+n/100),UInt8.ofNat (48+n/10%10),UInt8.ofNat (48+n%10)]
theorem PX {n:Nat} (h:n<1000):Lib.decDigits n=uJ n:=by
 have e:∀k,Lib.decDigits k=if k<10 then[UInt8.ofNat (48+k)]else Lib.decDigits (k/10)++[UInt8.ofNat (48+k%10)]:=λk=>by
  rw[Lib.decDigits];rfl
 unfold uJ;by_cases h1:n<10
 ·rw[iJ h1,e,iJ h1]
 rw[iQ h1];by_cases h2:n<100
 ·rw[iJ h2,e,iQ h1,e,iJ omQ];rfl
 rw[iQ h2,e,iQ h1,e,iQ omQ,e,iJ omQ,show n/10/10=n/100 by omega];rfl
theorem qGN {y:Int} (h0:0≤y) (h1:y<1000):YX [(1,y)]=uJ y.toNat:=by
 have e:YX [(1,y)]=Lib.decDigits y.toNat:=by show Lib.join [nm (1,y)] [32]=_;rw[Lib.join_one];exact iJ rfl
 rw[e,PX omQ]
end
section
variable {g h:AH} {L R:List SP}
theorem PY {e:TypeId} {s:List UInt8} {K:AV→AH→Go.Ae.R} {Q:AV→AH→Prop} (H:HS g h L) (hs:s.length≤1073741824) (w:∀v h',HS g h' (qD e 1 s.length v (mi s)::L)→wp (K v h') Q):wp (Gn h e (.str s) K) Q:=by
 unfold Gn;dsimp only;rw[iY hs,cond_true];obtain⟨a1,a2⟩:=Row.new (h:=h) (e:=e) (o:=true) (CT.bh (s.map λc:UInt8=>AV.int .u8 (.ofNat c.toNat)));rw[CT.aG]at a1;refine w _ _ (H.add (D':=λa=>a=h.nx) a2.none ⟨by simp[mi],.inr ⟨h.nx,0,true,mi s,rfl,λa=>Iff.rfl,a1,by simp[mi],?_,iJ rfl▸rfl⟩⟩ ?_)
 ·rw[Nat.mul_one];exact List.take_of_length_le (by simp[mi])
 ·rintro a rfl;exact⟨Nat.le_refl _,a1.lt⟩
theorem Zn {e:TypeId} {sz n:Nat} {l z:List AV} {vs:List (Nat×Nat×AV)} {K2:AV→AH→Go.Ae.R} {Q:AV→AH→Prop} (H:HS g h L) (hl:l.length=n*sz) (hf:xT (yI z n) vs=some l) (h1:ql l=true)
  (w:∀b h',h.nx≤b→HS g h' (qD e sz n (.slice b 0 n n false) l::L)→wp (K2 (.slice b 0 n n false) h') Q):wp (yC h e z n vs K2) Q:=by
 refine Vw hf h1 λb h' hb A F=>w b h' hb (H.add (D':=λa=>a=b) F.none ⟨hl,.inr ⟨b,n,false,_,rfl,λa=>Iff.rfl,A,by omega,by rw[← hl,List.take_length],?_⟩⟩ ?_)
 ·rw[iQ aN];exact⟨hl,Nat.le_refl _⟩
 ·rintro a rfl;exact⟨hb,A.lt⟩
def ints (s:List UInt8):List Int:=s.map λc=>(c.toNat:Int)
theorem ZB (s:List UInt8):mi s=(ints s).map (.int .u8):=by unfold mi ints;rw[List.map_map];rfl
theorem qqR {D1 D2:Nat→Prop} {n p q:Nat} (hn:1≤n) {a b:AV} {xs ys:List Int} {h:AH} (S1:Sl D1 h 1 p a (xs.map (.int .u8))) (S2:Sl D2 h 1 q b (ys.map (.int .u8))) (hp:p<1000000000) :
  aA n 11 [a,b] h λv h'=>v=.bool (decide (xs=ys))∧h'=h:=by
 have rj:xs.length=p:=by simpa using S1.len
 have fS:ys.length=q:=by simpa using S2.len
 refine ba (S:=S11) rfl omQ λk hk=>?_;unfold S11;try simp only[iZ]
 refine xS S1 (xS S2 (yx (λcx=>?_) λmc=>?_))
 ·refine qZ (qY ⟨?_,rfl⟩);rw[iV];rintro rfl;exact cx omQ
 ·refine qJ (jR (λm s g=>∃i:Nat,s=(.int .i64 (i:Int),b,a,())∧i≤p∧m=p-i∧g=h∧xs.take i=ys.take i) ?_ (m:=p) (by show p<1000000000;omega) ⟨0,rfl,by omega,by omega,rfl,rfl⟩);rintro m ih s g bF ⟨i,rfl,h1,rfl,rfl,h2⟩;dsimp only;refine xS S1 (xz (λap=>qZ ?_) λik=>qJ (qx (qY ⟨?_,rfl⟩)))
  ·have hi:i<p:=by omega
   refine jb S1 (x:=.int .u8 xs[i]) (by rw[List.getElem?_map,iW omQ];rfl) ?_;refine jb S2 (x:=.int .u8 ys[i]) (by rw[List.getElem?_map,iW omQ];rfl) ?_;refine yx (λcx=>qZ (qx (qY ⟨?_,rfl⟩))) λhe=>qJ (qU omQ ?_)
   ·rw[iV];rintro rfl;exact cx rfl
   ·refine bF (p-(i+1)) _ _ omQ ⟨i+1,rfl,by omega,rfl,rfl,?_⟩;rw[List.take_succ_eq_append_getElem omQ,List.take_succ_eq_append_getElem omQ,h2,he]
  ·rw[iG];rw[List.take_of_length_le omQ,List.take_of_length_le omQ]at h2;exact h2
theorem qXd:∀(d:Nat) {n m:Nat} {h:AH},d<n→m<10 ^ (d+1)→m<1000000→HS g h R→aA n 12 [.int .i64 (m:Int)] h λr h'=>r=.str (Lib.decDigits m)∧HS g h' R:=by
 intro d
 induction d with
 |zero=>
  intro n m h hn hm h1 H;refine aB (S:=S12) rfl omQ λk hk=>?_;unfold S12;try simp only[iZ]
  have hc:AV.int .u8 (((48:Nat):Int)+(m:Int))=.int .u8 (.ofNat (UInt8.ofNat (48+m)).toNat):=by
   have:(UInt8.ofNat (48+m)).toNat=48+m:=by simp;omega
   rw[this];rfl
  refine jH omQ (qZ ?_);refine qU omQ (QC ?_);rw[Fg omQ,hc];refine qf (n:=1) (l:=mi [UInt8.ofNat (48+m)]) (sz:=1) H rfl rfl rfl (NK _) λv3 h3 H3=>?_;refine Hp H3 .here ?_;exact qY ⟨by rw[Vt omQ],H3.drop⟩
 |succ d ih=>
  intro n m h hn hm h1 H;refine aB (S:=S12) rfl omQ λk hk=>?_;unfold S12;try simp only[iZ]
  by_cases eu:m<10
  ·have hc:AV.int .u8 (((48:Nat):Int)+(m:Int))=.int .u8 (.ofNat (UInt8.ofNat (48+m)).toNat):=by
    have:(UInt8.ofNat (48+m)).toNat=48+m:=by simp;omega
    rw[this];rfl
   refine jH omQ (qZ ?_);refine qU omQ (QC ?_);rw[Fg omQ,hc];refine qf (n:=1) (l:=mi [UInt8.ofNat (48+m)]) (sz:=1) H rfl rfl rfl (NK _) λv3 h3 H3=>?_;refine Hp H3 .here ?_;exact qY ⟨by rw[Vt omQ],H3.drop⟩
  ·refine jz omQ (qJ (qW ?_))
   try dsimp only
   have hq:Int.tdiv (m:Int) ((10:Nat):Int)=((m/10:Nat):Int):=by rw[Int.tdiv_eq_ediv_of_nonneg omQ];omega
   have hd:Int.tmod (m:Int) ((10:Nat):Int)=((m%10:Nat):Int):=by rw[Int.tmod_eq_emod_of_nonneg omQ];omega
   have hc:AV.int .u8 (((48:Nat):Int)+((m%10:Nat):Int))=.int .u8 (.ofNat (UInt8.ofNat (48+m%10)).toNat):=by
    have:(UInt8.ofNat (48+m%10)).toNat=48+m%10:=by simp;omega
    rw[this];rfl
   refine I5 omQ ?_;rw[hq,VN omQ]
   try dsimp only
   refine qG (ih omQ (by rw[Nat.pow_succ]at hm;omega) omQ H) ?_;rintro _ h3 ⟨rfl,H3⟩;refine Jv omQ ?_;rw[hd];refine qU omQ (QC ?_);rw[Fg omQ,hc];refine Zn (n:=1) (l:=mi [UInt8.ofNat (48+m%10)]) (sz:=1) H3 rfl rfl (NK _) λb4 h4 ul H4=>?_;refine Hp H4 .here ?_;refine qKr ?_ (qzd ul ?_)
   ·rw[List.length_singleton];rw[Lib.decDigits_length];have:=Lib.nDigits_le20 (m/10) omQ;omega
   ·exact qY ⟨by rw[qGo eu],H4.drop⟩
end
end Go.Proofs.YthmopakmcboghaaGreatDoor
