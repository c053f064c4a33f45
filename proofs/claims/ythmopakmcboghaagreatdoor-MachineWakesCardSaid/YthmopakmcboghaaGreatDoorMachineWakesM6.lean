/- Lemmas for 'quietus/quietuslaw28.MachineWakes': MachineWakes comes to true for every argument: its own walk. No condition. -/
import Derived.Test.YthmopakmcboghaaGreatDoorMachineWakesM5
namespace Go.Proofs.YthmopakmcboghaaGreatDoor
open Go Go.Ae
set_option maxRecDepth 100000
namespace machineWakes
variable {g h:AH} {L R:List SP}
theorem MB {v:AV} {l:List qa} (H:HS g h (yy v l::R)):One v:=H.one (e:=26) (sz:=5) (n:=l.length) .here
theorem CS:(xZ pW).2=0∧Quiet pW:=⟨by decide,λx hx=>by
 simp only[pW,List.mem_cons,List.not_mem_nil,or_false]at hx
 rcases hx with rfl |rfl |rfl |rfl |rfl<;>decide⟩
theorem CW:(xZ pI).2=0∧Quiet pI:=⟨by decide,λx hx=>by
 simp only[pI,List.mem_cons,List.not_mem_nil,or_false]at hx
 rcases hx with rfl |rfl<;>decide⟩
theorem PZ {y:Int} (h:0≤y∧y<18446744073709551616):(xZ (pS y)).2=0∧Quiet (pS y):=⟨by
 have m1:Qy (1,0,0,0,y)=true:=by simp[Qy];decide
 have m2:Qy (9,7,0,8,0)=true:=by decide
 have a1:jt 1=0:=by decide
 have a2:jt 9=0:=by decide
 have b1:z8 1=false:=by decide
 have b2:z8 9=false:=by decide
 simp[xZ,iU,zb,pS,jk,vE,JC,Qm,m1,m2,a1,a2,b1,b2],λx hx=>by
 simp only[pS,List.mem_cons,List.not_mem_nil,or_false]at hx;rcases hx with rfl |rfl
 ·exact⟨by show(1:Int)≠23;decide,h⟩
 ·decide⟩
theorem CX {y:Int} {js:List (List qa)} (h:0≤y∧y<18446744073709551616) (hJ:uI y js):∀ks∈[[pW],js],ks.length≤1000000∧∀l∈ks,(xZ l).2=0∧Quiet l:=λks hk=>by
 rcases List.mem_cons.1 hk with rfl |hk
 ·exact⟨Nat.le_of_ble_eq_true rfl,λl hl=>by rw[List.mem_singleton.1 hl];exact CS⟩
 ·rw[List.mem_singleton.1 hk];rcases hJ with rfl |rfl
  ·exact⟨Nat.le_of_ble_eq_true rfl,λl hl=>by rw[List.mem_singleton.1 hl];exact PZ h⟩
  ·refine⟨Nat.le_of_ble_eq_true rfl,λl hl=>?_⟩;rcases List.mem_cons.1 hl with rfl |hl
   ·exact CW
   ·rw[List.mem_singleton.1 hl];exact PZ h
theorem qYa {D:Nat→Prop} {n i f sz:Nat} {v x:AV} {xs:List AV} {k:IntKind} {K:AV→AV→Go.Ae.R} {Q:AV→AH→Prop} (S:Sl D h sz n v xs) (hf:f<sz) (hi:i<n) (hx:xs[i*sz+f]? =some x)
  (w:∀b off,b<h.nx→(∀(h':AH) (D':Nat→Prop) (ys:List AV),Sl D' h' sz n v ys→ys[i*sz+f]? =some x→h'.at b off=some x)→wp (K (.ptr b off) x) Q):wp (vt v (.int k (i:Int)) sz λp=>qn p f λq=>jB h q λy=>K q y) Q:=by
 have ap:i*sz+f<n*sz:=by
  have:i*sz+sz≤n*sz:=by rw[← Nat.succ_mul];exact Nat.mul_le_mul_right sz hi
  omega
 cases S with
 |ak=>omega
 |bU a=>omega
 |tail b o o' i=>omega
 |mk hd hb hr hl ha=>
  refine XV hi (qh (QS (x:=x) ?_ (w _ _ hb λh' D' ys S' hy=>?_)))
  ·rw[Nat.add_assoc,ha _ ap];exact hx
  ·cases S' with
   |mk hd' bA hr' dQ tP=>rw[Nat.add_assoc,tP _ ap];exact hy
structure CY (S:zK) (y:Int) (js:List (List qa)) (m:gK) (t u:qt):Prop where
  sy:∃q,Yp S y js q m t u
  o:V8 m
theorem CY.at {S:zK} {y:Int} {js:List (List qa)} {m:gK} {t u:qt} (I:CY S y js m t u):m.t[0]? =some t∧m.t[1]? =some u∧m.t.length=2∧m.s=S:=by obtain⟨q,Y⟩:=I.sy;rw[Y.ts];exact⟨rfl,rfl,rfl,Y.s⟩
theorem law {k0:Nat} (hk:40≤k0) {a0:AV} {v wi la:Int} {ps:List Bool} (hv:0≤v∧v<256) (hw:0≤wi∧wi<256) (hla:0≤la∧la<256) (SK:Sl (λb=>b<h.nx) h 1 ps.length a0 (ps.map .bool)) :
  wp ((fP S3) (wX 4 (callT tab qz k0)) [a0,.int .u8 v,.int .u8 wi,.int .u8 la] h) λv _=>v=.bool true:=by
 show wp (S3 (wX _ (callT tab qz _)) _ _ _ _ _).1 _;unfold S3
 try simp only[ iZ]
 refine qva (jA (qJ ?_));refine qL (l:=[.int .i64 8,.int .i64 0,.int .i64 7,.int .i64 8,.int .u64 0]) rfl ?_;refine qL (l:=[.int .i64 13,.int .i64 0,.int .i64 0,.int .i64 4,.int .u64 0]) rfl ?_;refine qL (l:=[.int .i64 21,.int .i64 0,.int .i64 0,.int .i64 0,.int .u64 0]) rfl ?_;refine qL (l:=[.int .i64 12,.int .i64 0,.int .i64 0,.int .i64 5,.int .u64 0]) rfl ?_;refine qL (l:=[.int .i64 20,.int .i64 0,.int .i64 0,.int .i64 0,.int .u64 0]) rfl ?_;refine qf (n:=5) (l:=pW.flatMap zD) (sz:=5) (HS.nil h) rfl rfl rfl rfl λvW h1 H1=>?_;have H1:HS h h1 (yy vW pW::[]):=H1;have oW:=MB H1;refine qL (l:=[vW]) (by simp only[xT,oW.1];rfl) ?_;refine qI H1 rfl λbW h2 H2=>?_;refine qd H2 (b:=bW) .here (x:=.agg [vW]) (by simp only[AV.cells,oW.1];rfl) (by show 0+1≤1;omega) (by simp[ql,AV.cells,oW.1,oW.2]) λh3 H3=>?_;have H3:HS h h3 (qy bW [vW]::yy vW pW::[]):=by simp only[AV.cells,wA]at H3;exact H3
 refine qL (l:=[.int .i64 8,.int .i64 0,.int .i64 7,.int .i64 15,.int .u64 0]) rfl ?_;refine qL (l:=[.int .i64 21,.int .i64 0,.int .i64 0,.int .i64 0,.int .u64 0]) rfl ?_;refine qf (n:=2) (l:=pI.flatMap zD) (sz:=5) H3 rfl rfl rfl rfl λvI h4 H4=>?_;have H4:HS h h4 (yy vI pI::qy bW [vW]::yy vW pW::[]):=H4;have oI:=MB H4;refine qL (l:=[vI]) (by simp only[xT,oI.1];rfl) ?_;refine qI H4 rfl λbI h5 H5=>?_;refine qd H5 (b:=bI) .here (x:=.agg [vI]) (by simp only[AV.cells,oI.1];rfl) (by show 0+1≤1;omega) (by simp[ql,AV.cells,oI.1,oI.2]) λh6 H6=>?_;have H6:HS h h6 (qy bI [vI]::yy vI pI::qy bW [vW]::yy vW pW::[]):=by simp only[AV.cells,wA]at H6;exact H6
 refine gc omQ (ya omQ ?_);obtain⟨y,hy,P0⟩:∃y,v+((1:Nat):Int)=y∧1≤y∧y≤256:=⟨_,rfl,by omega⟩;rw[hy];refine qL (l:=[.int .i64 1,.int .i64 0,.int .i64 0,.int .i64 0,.int .u64 y]) rfl ?_;refine qL (l:=[.int .i64 9,.int .i64 7,.int .i64 0,.int .i64 8,.int .u64 0]) rfl ?_;refine qf (n:=2) (l:=(pS y).flatMap zD) (sz:=5) H6 rfl rfl rfl rfl λvS h7 H7=>?_;have H7:HS h h7 (yy vS (pS y)::qy bI [vI]::yy vI pI::qy bW [vW]::yy vW pW::[]):=H7;have oS:=MB H7;refine qL (l:=[vS]) (by simp only[xT,oS.1];rfl) ?_;refine qI H7 rfl λbS h8 H8=>?_;refine qd H8 (b:=bS) .here (x:=.agg [vS]) (by simp only[AV.cells,oS.1];rfl) (by show 0+1≤1;omega) (by simp[ql,AV.cells,oS.1,oS.2]) λh9 H9=>?_;have H9:HS h h9 (qy bS [vS]::yy vS (pS y)::qy bI [vI]::yy vI pI::qy bW [vW]::yy vW pW::[]):=by simp only[AV.cells,wA]at H9;exact H9
 clear H1 H2 H3 H4 H5 H6 H7 H8;refine qE H9 (b:=bI) (off:=0) e_2 (l:=[vI]) rfl omQ rfl ?_;refine qE H9 (b:=bS) (off:=0) .here (l:=[vS]) rfl omQ rfl ?_;refine qf (n:=2) (l:=[vI,vS]) (sz:=1) H9 rfl rfl (by simp only[yI,xT,AV.cells,oI.1,oS.1];rfl) (by simp[ql,oI.2,oS.2]) λv2 hA HA=>?_;refine jm [] (λs g'=>∃(js:List (List qa)) (jv:AV),uI y js∧s=(jv,.ptr bW 0,.int .u8 wi,.int .u8 v,a0,())∧HS h g' (aW js jv::qy bW [vW]::yy vW pW::[])) (λj hj=>?_) ?_
 ·refine Jv od ?_;refine vw (λc=>?_) (λc=>?_)
  ·refine qZ (qE HA (b:=bS) (off:=0) e_1 (l:=[vS]) rfl omQ rfl ?_);refine qf (n:=1) (l:=[vS]) (sz:=1) HA rfl rfl (by simp only[yI,xT,AV.cells,oS.1];rfl) (by simp[ql,oS.2]) λv3 hB HB=>?_;refine hj _ _ ⟨[pS y],v3,.inl rfl,rfl,?_⟩;exact(aW.I (js:=[pS y]) (v:=v3) (vs:=[vS]) rfl ((HS.allI (A:=[yy vS (pS y)]) (HB.sub (.cons e_3 (.cons .here (.drop (.drop (.drop (.drop (.cons .here (.cons .here .refl)))))))))).sub (.cons e_1 (.cons .here .refl))))
  ·refine qJ (hj _ _ ⟨[pI,pS y],v2,.inr rfl,rfl,?_⟩);exact(aW.I (js:=[pI,pS y]) (v:=v2) (vs:=[vI,vS]) rfl ((HS.allI (A:=[yy vI pI,yy vS (pS y)]) (HA.sub (.cons e_4 (.cons e_2 (.cons .here (.drop (.drop (.cons .here (.cons .here .refl))))))))).sub (.cons e_1 (.cons .here .refl))))
 clear HA H9;rintro _ hA ⟨js,jv,hJ,rfl,HA⟩;dsimp only;have hwm:0≤wi.tmod ((3:Nat):Int)∧wi.tmod ((3:Nat):Int)<3:=by rw[Int.tmod_eq_emod_of_nonneg hw.1];omega
 refine Jv od (xV omQ (qU omQ ?_));obtain⟨wd,hwd,hwdb⟩:∃wd,wi.tmod ((3:Nat):Int)+((1:Nat):Int)=wd∧1≤wd∧wd≤3:=⟨_,rfl,by omega⟩;rw[hwd];refine qL (l:=[.int .i64 32,.int .i64 8,.int .i64 wd,.int .i64 0,.int .u64 0]) rfl ?_;refine qL (l:=x5 ⟨32,8,wd,0,0,0,5,20⟩) rfl ?_;refine qE HA (b:=bW) (off:=0) e_1 (l:=[vW]) rfl omQ rfl ?_;refine qf (n:=1) (l:=[vW]) (sz:=1) HA rfl rfl (by simp only[yI,xT,AV.cells,oW.1];rfl) (by simp[ql,oW.2]) λv4 hB HB=>?_;have HB:HS h hB (aW [pW] v4::aW js jv::qy bW [vW]::[]):=aW.I (js:=[pW]) (v:=v4) (vs:=[vW]) rfl ((HS.allI (A:=[yy vW pW]) (HB.sub (.cons e_3 (.cons .here (.cons .here (.cons .here .refl)))))).sub (.cons e_1 (.cons .here .refl)));have o4:One v4:=by obtain⟨us,_,Hx⟩:=aW.E HB;exact Hx.one .here
 have oj:One jv:=by obtain⟨us,_,Hx⟩:=aW.E (HB.aI (P:=aW js jv) e_1);exact Hx.one .here
 refine qf (n:=2) (l:=[v4,jv]) (sz:=1) HB rfl rfl (by simp only[yI,xT,o4.1,oj.1];rfl) (by simp[ql,o4.2,oj.2]) λv5 hC HC=>?_;have HC:HS h hC (rD [[pW],js] v5::qy bW [vW]::[]):=rD.I (vs:=[v4,jv]) rfl ((HS.allI (A:=[aW [pW] v4,aW js jv]) (HC.sub (.cons e_1 (.cons e_1 (.cons .here (.cons .here .refl)))))).sub (.cons e_1 (.cons .here .refl)));clear HA HB;have dB:=CX (y:=y) omQ hJ;refine yV od (qVS (s:=⟨32,8,wd,0,0,0,5,20⟩) (jss:=[[pW],js]) omQ (Int.le_refl _) dB (Nat.le_of_ble_eq_true rfl) HC) ?_;rintro _ hD ⟨mb,rfl,HD⟩;have HN:HS h hD [bY mb (ML ⟨32,8,wd,0,0,0,5,20⟩ [[pW],js])]:=HD.sub (.cons .here (.drop (.drop .refl)));clear HC HD;have MO:=qkO (s:=⟨32,8,wd,0,0,0,5,20⟩) (jobs:=[[pW],js]) (Int.le_refl _) (λks hks=>(dB ks hks).2);obtain⟨W,t0,u0,Y0,P1⟩:=qxd (s:=⟨32,8,wd,0,0,0,5,20⟩) (y:=y) (js:=js) ⟨rfl,rfl,⟨by show 1≤wd;omega,by show wd≤3;omega⟩,rfl,rfl,rfl,rfl⟩ hJ;have hp0:(ML ⟨32,8,wd,0,0,0,5,20⟩ [[pW],js]).aK=0:=rfl;generalize jG { (⟨32,8,wd,0,0,0,5,20⟩:zK)with aa:=2 }=S at*;generalize ML ⟨32,8,wd,0,0,0,5,20⟩ [[pW],js]=m0 at*;refine Gr (qJ ?_);refine jR (λc q h'=>∃(i:Nat) (m:gK) (t u:qt),q=(.int .i64 (i:Int),.ptr mb 0,.int .u8 v,a0,())∧i≤ps.length∧i≤100∧c=100-i∧CY S y js m t u∧fE t u≤100∧m.aK≤i∧HS h h' [bY mb m])
  ?_ (m:=100) od ⟨0,m0,t0,u0,rfl,Nat.zero_le _,Nat.zero_le _,rfl,⟨⟨0,Y0⟩,MO⟩,P1,by omega,HN⟩
 clear HN MO Y0 P1 hp0 dB;clear t0 u0 m0;rintro c ih q h6 bF ⟨i,m,t,u,rfl,sV,hi1,rfl,I,DZ,Dh,H⟩;dsimp only;obtain⟨D4,Hv,Bn,P2⟩:=I.at
 refine xS (SK.cS H.cS) ?_;refine JG (KZ (λz g'=>g'=h6∧∃x:AV,z=(x,.bool (decide ((i:Int)<(ps.length:Int))),.int .i64 (i:Int),.ptr mb 0,.int .u8 v,a0,())∧(i<ps.length→x=.bool (decide (i<100)))) (λj hj=>?_) ?_)
 ·refine I6 (λc1=>?_) (λc1=>?_)
  ·refine JG (hj _ _ ⟨rfl,_,rfl,λ_=>?_⟩)
   congr 1
   exact decide_eq_decide.2 omQ
  ·exact hj _ _ ⟨rfl,_,rfl,λh=>absurd h omQ⟩
 rintro _ g6 ⟨hg6,x,rfl,hx⟩;subst g6;dsimp only;have hp:∀{K:AV→Go.Ae.R} {Q:AV→AH→Prop},(∀b:Bool,(b=true↔(i<ps.length∧i<100))→wp (K (.bool b)) Q)→wp (kV (.bool (decide ((i:Int)<(ps.length:Int)))) x (.bool false) K) Q:=λ{K Q} hw=>by
  by_cases c1:i<ps.length
  ·rw[iG (show(i:Int)<(ps.length:Int) by omega),hx c1];exact qC (hw _ ⟨λh=>⟨c1,of_decide_eq_true h⟩,λh=>iG h.2⟩)
  ·rw[iV (show¬(i:Int)<(ps.length:Int) by omega)];exact qF (hw _ ⟨λh=>(by cases h),λh=>absurd h.1 c1⟩)
 refine hp λbb oH=>?_;clear hp hx;cases bb with
 |true=>
  obtain⟨c1,c2⟩:=oH.1 rfl;clear oH;refine qZ (jm [] (λz g'=>g'=h6∧∃ti:Nat,z=(.int .i64 (ti:Int),.int .i64 (i:Int),.ptr mb 0,.int .u8 v,a0,())∧ti<2) (λj hj=>?_) ?_)
  ·refine jb (SK.cS H.cS) (x:=.bool ps[i]) (by rw[List.getElem?_map,iW c1];rfl) ?_;refine gj (λ_=>?_) (λ_=>?_)
   ·exact hj _ _ ⟨rfl,1,rfl,by omega⟩
   ·exact hj _ _ ⟨rfl,0,rfl,by omega⟩
  rintro _ g7 ⟨hg7,ti,rfl,hti⟩;subst g7;dsimp only;refine QC ?_;rw[show zg .u8 (i:Int)=((i%256:Nat):Int)from rfl];refine yV od (YV (i:=ti) (draw:=((i%256:Nat):Int)) omQ I.o omQ omQ omQ ⟨by omega,by omega⟩ H) ?_;rintro _ h7 ⟨rfl,H7⟩;obtain⟨uK,sS,hpp⟩:=Xt I.o (i:=ti) omQ (draw:=((i%256:Nat):Int)) omQ;obtain⟨t',u',I',Hw⟩:∃t' u',CY S y js (xj m ti ((i%256:Nat):Int)) t' u'∧fE t' u'≤100:=by
   obtain⟨q,Y⟩:=I.sy;rcases(show ti=0∨ti=1 by omega)with rfl |rfl
   ·obtain⟨t',Y',hr,_⟩:=CQ W P0.1 Y (d:=((i%256:Nat):Int)) omQ;exact⟨t',u,⟨⟨q,Y'⟩,uK⟩,by omega⟩
   ·obtain⟨q',t',u',Y',hr,_⟩:=CR W hJ Y (d:=((i%256:Nat):Int));exact⟨t',u',⟨⟨q',Y'⟩,uK⟩,by omega⟩
  clear uK sS;generalize xj m ti ((i%256:Nat):Int)=m2 at*;obtain⟨bt0,bt1,hm2',hmS'⟩:=I'.at
  obtain⟨hq,hY⟩:=I'.sy;have CZ:=hY.calm;have hw32:m2.m.w.length=32:=hY.st.w;refine yV od (Ob omQ omQ H7) λwv h8 H8=>?_;refine qm H8 (n:=m2.m.w.length) (v:=wv) .here ?_;refine jJ omQ ?_;have next:wp (jo .add (.int .i64 (i:Int)) (.int .i64 ((1:Nat):Int)) λv92=>ih (v92,.ptr mb 0,.int .u8 v,a0,()) h8 []) λv _=>v=.bool true:=by refine qU omQ ?_;exact bF (100-(i+1)) _ _ omQ ⟨i+1,m2,t',u',rfl,by omega,by omega,rfl,I',Hw,by omega,H8.drop⟩
  refine qW ?_
  try dsimp only
  refine qc (yV od (kf (i:=0) (t:=t') omQ bt0 omQ H8.drop) ?_);rintro _ _ ⟨rfl,rfl⟩;by_cases c4:t'.state=4
  ·refine qk c4 (qW ?_)
   try dsimp only
   refine qR ?_;have h8w:m2.m.w[8]? =some (m2.m.w[8]'omQ):=iW _;refine jb (i:=8) (H8.sl (v:=wv) (xs:=m2.m.w.map (.int .u64)) .here) (x:=.int .u64 (m2.m.w[8]'omQ)) (by rw[List.getElem?_map,h8w];rfl) ?_;refine yx (λcn=>?_) (λcn=>?_)
   ·refine qW ?_
    try dsimp only
    refine qc (qC (qW ?_))
    try dsimp only
    refine qR (yV od (kf (i:=1) (t:=u') omQ bt1 omQ H8.drop) ?_);rintro _ _ ⟨rfl,rfl⟩;refine qj (λc6=>CZ ⟨c4,c6⟩) (qW ?_)
    try dsimp only
    exact qc (qC (qF (qJ next)))
   ·refine qW ?_
    try dsimp only
    refine qc (qC (qW ?_))
    try dsimp only
    refine qS (qW ?_)
    try dsimp only
    exact qc (qF (qF (qJ next)))
  ·refine qj c4 (qW ?_)
   try dsimp only
   refine qS (qW ?_)
   try dsimp only
   refine qc (qF (qW ?_))
   try dsimp only
   refine qS (qW ?_)
   try dsimp only
   exact qc (qF (qF (qJ next)))
 |false=>
  refine qJ ?_;clear bF ih oH D4 Hv Bn P2;refine jR (λc q h'=>∃(k:Nat) (m:gK) (t u:qt),q=(.int .i64 (k:Int),.ptr mb 0,.int .u8 v,())∧k≤200∧c=200-k∧CY S y js m t u∧((t.state=6∧u.state=6)∨fE t u+k≤100)∧m.aK≤100+2*k∧HS h h' [bY mb m])
   ?_ (m:=200) od ⟨0,m,t,u,rfl,Nat.zero_le _,rfl,I,.inr omQ,by omega,H⟩
  clear H I DZ Dh;clear m t u;rintro c ih q h6 bF ⟨k,m,t,u,rfl,mX,rfl,I,DZ,Dh,H⟩;dsimp only;obtain⟨D4,Hv,Bn,P2⟩:=I.at
  obtain⟨hq,hY⟩:=I.sy;have e9:vq m=true↔(t.state=6∨t.state=4)∧(u.state=6∨u.state=4):=by unfold vq;rw[hY.ts];simp
  refine JG (KZ (λz g'=>g'=h6∧∃x:AV,z=(x,.bool (decide ((k:Int)<((200:Nat):Int))),.int .i64 (k:Int),.ptr mb 0,.int .u8 v,())∧(k<200→x=.bool (!vq m))) (λj hj=>?_) ?_)
  ·refine I6 (λc1=>?_) (λc1=>?_)
   ·refine yV od (Zw omQ omQ H) ?_;rintro _ _ ⟨rfl,rfl⟩;exact qkt (hj _ _ ⟨rfl,_,rfl,λ_=>rfl⟩)
   ·exact hj _ _ ⟨rfl,_,rfl,λh=>absurd h omQ⟩
  rintro _ _ ⟨rfl,x,rfl,hx⟩;dsimp only;have hp:∀{K:AV→Go.Ae.R} {Q:AV→AH→Prop},(∀b:Bool,(b=true↔(k<200∧vq m=false))→wp (K (.bool b)) Q)→wp (kV (.bool (decide ((k:Int)<((200:Nat):Int)))) x (.bool false) K) Q:=λ{K Q} hw=>by
   by_cases c1:k<200
   ·rw[iG (show(k:Int)<((200:Nat):Int) by omega),hx c1];exact qC (hw _ ⟨λh=>⟨c1,by simpa using h⟩,λh=>by rw[h.2];rfl⟩)
   ·rw[iV (show¬(k:Int)<((200:Nat):Int) by omega)];exact qF (hw _ ⟨λh=>(by cases h),λh=>absurd h.1 c1⟩)
  refine hp λbb oH=>?_;clear hp hx;cases bb with
  |true=>
   obtain⟨c1,c2⟩:=oH.1 rfl;clear oH;refine qZ ?_;have dx:¬(t.state=6∧u.state=6):=λhh=>by
    have:=e9.2 ⟨.inl hh.1,.inl hh.2⟩;rw[this]at c2;cases c2
   refine yV od (YV (i:=1) (draw:=0) omQ I.o omQ omQ omQ ⟨by omega,by omega⟩ H) ?_;rintro _ h7 ⟨rfl,H7⟩;obtain⟨uK,sS,hpp⟩:=Xt I.o (i:=1) omQ (draw:=0) omQ;have lF:(xj m 1 0).t.length=2:=by have h1:=uK.len;have h2:=I.o.len;rw[sS]at h1;omega
   refine yV od (YV (i:=0) (draw:=0) omQ uK omQ omQ omQ ⟨by omega,by omega⟩ H7) ?_;rintro _ h8 ⟨rfl,H8⟩;obtain⟨MO3,hs3,hpp3⟩:=Xt uK (i:=0) omQ (draw:=0) omQ;obtain⟨q',t',u',Y',hr⟩:=qVM W hJ P0.1 hY;refine qU omQ ?_;refine bF (200-(k+1)) _ _ omQ ⟨k+1,_,t',u',rfl,by omega,rfl,⟨⟨q',Y'⟩,MO3⟩,?_,by omega,H8⟩;rcases hr with hr |hr
   ·exact absurd hr dx
   ·rcases DZ with h |h
    ·exact absurd h dx
    ·exact .inr omQ
  |false=>
   refine qJ ?_;clear bF ih;have Hy:t.state=6∧u.state=6:=by
    by_cases c1:k<200
    ·have hr:vq m=true:=by
      cases hr:vq m with
      |true=>rfl
      |false=>have:=oH.2 ⟨c1,hr⟩;cases this
     exact hY.rest (e9.1 hr)
    ·rcases DZ with h |h
     ·exact h
     ·omega
   obtain⟨z,hz⟩:=hY.told Hy.1;refine yV od (Ut (i:=0) omQ D4 (by rw[hz];exact Nat.le_of_ble_eq_true rfl) omQ H) λrv h7 H7=>?_;rw[hz]at H7;have H7:HS h h7 (qD 46 4 1 rv (Jb ⟨2,0,YX [(1,y)],z⟩)::bY mb m::[]):=H7;refine qW ?_
   try dsimp only
   refine yV od (kf (i:=0) (t:=t) omQ D4 omQ H7.drop) ?_;rintro _ _ ⟨rfl,rfl⟩;refine qk Hy.1 (qR ?_);refine yV od (kf (i:=1) (t:=u) omQ Hv omQ H7.drop) ?_;rintro _ _ ⟨rfl,rfl⟩;refine qk Hy.2 (qC (qR ?_));refine qm H7 (n:=1) (v:=rv) .here ?_;refine qk rfl (qC (qR ?_));refine y4 (i:=0) (H7.sl (v:=rv) (xs:=Jb ⟨2,0,YX [(1,y)],z⟩) .here) omQ omQ (x:=.int .i64 2) rfl ?_;refine qk rfl (qC (qR ?_));have f2:(Jb ⟨2,0,YX [(1,y)],z⟩)[0*4+2]? =some (.str (YX [(1,y)])):=rfl;refine qYa (i:=0) (H7.sl (v:=rv) (xs:=Jb ⟨2,0,YX [(1,y)],z⟩) .here) omQ omQ f2 λbb off Ep dv=>?_;obtain⟨yn,rfl⟩:∃yn:Nat,y=(yn:Int):=⟨y.toNat,by omega⟩;have etx:YX [(1,(yn:Int))]=Lib.decDigits yn:=by rw[qGN omQ omQ,PX omQ];rfl
   have hdl:(Lib.decDigits yn).length≤20:=by rw[Lib.decDigits_length];exact Lib.nDigits_le20 yn omQ
   rw[etx]at H7 dv f2 ⊢;refine PY H7 omQ λva h8 H8=>?_;refine xV omQ (qU omQ ?_);rw[hy];refine yV od (qXd 2 omQ (by show yn<1000;omega) omQ H8) ?_;rintro _ h9 ⟨rfl,H9⟩;refine PY H9 omQ λvb hA HA=>?_;refine yV od (qqR (xs:=ints (Lib.decDigits yn)) (ys:=ints (Lib.decDigits yn)) omQ (by rw[← ZB];exact HA.sl e_1) (by rw[← ZB];exact HA.sl .here) omQ) ?_;rintro _ _ ⟨rfl,rfl⟩;rw[iG rfl];refine qC (Ld (dv _ _ _ (H8.sl (v:=rv) (xs:=Jb ⟨2,0,Lib.decDigits yn,z⟩) e_1) f2) (dv _ _ _ (H9.sl (v:=rv) (xs:=Jb ⟨2,0,Lib.decDigits yn,z⟩) e_1) f2) Ep ?_);exact qx (qY rfl)
theorem told {h:AH} {l:List AV} (H:Dw Tryz.prog h 8 Tryz.f3.params.toList l):wp ((fP S3) (wX 4 (callT tab qz 60)) l h) λv _=>v=.bool true:=by
 have e:Tryz.f3.params.toList=[22,5,5,5]:=by kernel_rfl
 rw[e]at H;obtain⟨a0,a1,a2,a3,rfl,H0,H1,H2,H3⟩:=Fi H;simp only[sX,Tryz.underlying4,Tryz.underlying5,Tryz.underlying22]at H0 H1 H2 H3;obtain⟨y1,e1,q1⟩:=H1;obtain⟨y2,e2,q2⟩:=H2;obtain⟨y3,e3,q3⟩:=H3;cases e1;cases e2;cases e3;obtain⟨q,xs,S,_,HB⟩:=qVl (sz:=1) Tryz.underlying22 (by kernel_rfl) omQ H0
 obtain⟨ps,g1,_,rfl⟩:=qYN (α:=Bool) (Pr:=λ_=>True) (λb=>[.bool b]) S.len (λi hi=>by
  have:=HB i hi;unfold WT at this;simp only[Tryz.underlying4]at this;obtain⟨b,hb⟩:=this
  exact⟨b,trivial,hb⟩)
 have em:(ps.flatMap λb=>[AV.bool b])=ps.map .bool:=by
  clear g1 S HB
  induction ps with
  |nil=>rfl
  |cons b r ih=>rw[List.flatMap_cons,ih (λ_ _=>trivial)];rfl
 rw[em]at S;subst g1;exact law omQ ⟨q1.1,Int.lt_of_le_of_lt q1.2 od⟩ ⟨q2.1,Int.lt_of_le_of_lt q2.2 od⟩ ⟨q3.1,Int.lt_of_le_of_lt q3.2 od⟩ S
end machineWakes
end Go.Proofs.YthmopakmcboghaaGreatDoor
