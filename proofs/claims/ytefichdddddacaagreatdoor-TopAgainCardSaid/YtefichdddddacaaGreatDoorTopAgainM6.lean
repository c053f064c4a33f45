/- Lemmas for 'quietus/quietustop.TopAgain': TopAgain: by the program: jobs that push and pop;round by round till the machine rests;A list of lists of programs;A new machine: by the program;Records ... No condition. -/
import Derived.Test.YtefichdddddacaaGreatDoorTopAgainM4
import Derived.Test.YtefichdddddacaaGreatDoorTopAgainM5
import Derived.Test.YtefichdddddacaaGreatDoorTopAgainM1
import Derived.Test.YtefichdddddacaaGreatDoorTopAgainM2
namespace Go.Proofs.YtefichdddddacaaGreatDoor
open Go Go.Ae
set_option maxRecDepth 100000
section
variable {g h:AH} {L R:List SP}
theorem Z5 {n:Nat} {a b:Int} {pop:Bool} (hn:1≤n) (H:HS g h R) :
  aA n 7 [.int .i64 ((6:Nat):Int),.int .u64 a,.int .u64 b,.bool pop] h λr h'=>∃pv,r=.agg [pv]∧HS g h' (gI pv (if pop=true then eh else zA a b)::R):=by
 refine nL (S:=S7) rfl omQ λk hk=>?_;unfold S7;try simp only[iZ]
 refine qO H rfl λb0 h1 H1=>?_;cases pop with
 |false=>refine qJ (qM (l:=[.int .i64 1,.int .i64 0,.int .i64 0,.int .i64 0,.int .u64 a]) rfl ?_);refine qM (l:=[.int .i64 10,.int .i64 1,.int .i64 0,.int .i64 0,.int .u64 0]) rfl ?_;refine qM (l:=[.int .i64 8,.int .i64 2,.int .i64 7,.int .i64 6,.int .u64 0]) rfl ?_;refine qM (l:=[.int .i64 9,.int .i64 1,.int .i64 2,.int .i64 0,.int .u64 0]) rfl ?_;refine qM (l:=[.int .i64 1,.int .i64 3,.int .i64 0,.int .i64 0,.int .u64 b]) rfl ?_;refine qM (l:=[.int .i64 9,.int .i64 1,.int .i64 3,.int .i64 1,.int .u64 0]) rfl ?_;refine qM (l:=[.int .i64 9,.int .i64 7,.int .i64 1,.int .i64 6,.int .u64 0]) rfl ?_;refine qm (n:=7) (l:=(zA a b).flatMap zM) (sz:=5) H1 rfl rfl rfl rfl λv3 h4 H4=>?_;have ov:=H4.one .here;refine qM (l:=[v3]) (by simp only[yV,ov.1];rfl) ?_;refine qh H4 (b:=b0) e_1 (x:=.agg [v3]) (by simp only[AV.cells];rfl) (by show 0+1≤1;omega) (by simp[qn,AV.cells,ov.2]) λh8 H8=>?_;refine qF H8 (b:=b0) (off:=0) .here (l:=[v3]) rfl omQ (by simp only[AV.cells];rfl) ?_;exact qG ⟨v3,rfl,H8.sub (.cons e_1 (.drop .refl))⟩
 |true=>refine qX (qM (l:=[.int .i64 8,.int .i64 0,.int .i64 7,.int .i64 6,.int .u64 0]) rfl ?_);refine qM (l:=[.int .i64 13,.int .i64 0,.int .i64 0,.int .i64 7,.int .u64 0]) rfl ?_;refine qM (l:=[.int .i64 8,.int .i64 1,.int .i64 0,.int .i64 0,.int .u64 0]) rfl ?_;refine qM (l:=[.int .i64 8,.int .i64 2,.int .i64 0,.int .i64 1,.int .u64 0]) rfl ?_;refine qM (l:=[.int .i64 9,.int .i64 7,.int .i64 1,.int .i64 6,.int .u64 0]) rfl ?_;refine qM (l:=[.int .i64 11,.int .i64 0,.int .i64 0,.int .i64 0,.int .u64 0]) rfl ?_;refine qM (l:=[.int .i64 21,.int .i64 2,.int .i64 0,.int .i64 0,.int .u64 0]) rfl ?_;refine qm (n:=7) (l:=eh.flatMap zM) (sz:=5) H1 rfl rfl rfl rfl λv3 h4 H4=>?_;have ov:=H4.one .here;refine qM (l:=[v3]) (by simp only[yV,ov.1];rfl) ?_;refine qh H4 (b:=b0) e_1 (x:=.agg [v3]) (by simp only[AV.cells];rfl) (by show 0+1≤1;omega) (by simp[qn,AV.cells,ov.2]) λh8 H8=>?_;refine qF H8 (b:=b0) (off:=0) .here (l:=[v3]) rfl omQ (by simp only[AV.cells];rfl) ?_;exact qG ⟨v3,rfl,H8.sub (.cons e_1 (.drop .refl))⟩
theorem qQ2 {n b kk:Nat} {m:kK} {th D9:qr} {ME:jD} (hn:31≤n) (MO:G9 m) (ht:m.t=[th]) (hp:m.aM=0) (q:Xe (λ_=>((0:Nat):Int)) (λj=>(j:Int)+1) 0 kk th m.m D9 ME) (hkk:kk≤100000) (hE:D9.state=6) (H:HS g h (bH b m::R)) :
  aA n 9 [.ptr b 0,.ak] h λr h'=>r=.bool true∧∃m':kK,m'.t=[D9]∧m'.m=ME∧G9 m'∧HS g h' (bH b m'::R):=by
 refine ba (S:=S9) rfl omQ λk hk=>?_;unfold S9;try simp only[iZ]
 refine jL (λc s h'=>∃(r j:Nat) (mr:kK) (tr:qr),s=(.int .i64 (r:Int),.ak,.ptr b 0,())∧c=200000-r∧r+j=kk∧G9 mr∧mr.t=[tr]∧mr.aM=(r:Int)∧Xe (λ_=>((0:Nat):Int)) (λj=>(j:Int)+1) r j tr mr.m D9 ME∧HS g h' (bH b mr::R))
  ?_ (m:=200000) od ⟨0,kk,m,th,rfl,rfl,by omega,MO,ht,hp,q,H⟩
 clear H q hp ht MO;rintro c ih s h0 bG ⟨r,j,mr,tr,rfl,rfl,hrj,MO,ht,hp,q,H⟩;dsimp only;have hl:mr.t.length=1:=by rw[ht];rfl
 refine jF omQ (qX ?_);refine qV (Zn omQ omQ H) ?_;rintro _ _ ⟨rfl,rfl⟩;cases q with
 |nil=>
  have hr:we mr=true:=by unfold we;rw[ht];simp[hE]
  rw[hr];exact qX (qk (qG ⟨rfl,mr,ht,rfl,MO,H⟩))
 |cons Iv q'=>
  rename_i j o;obtain⟨r1,r2,r3,r4⟩:=qWf ht rfl Iv ((0:Nat):Int);rw[r1];refine qJ (qW ?_)
  try dsimp only
  refine x5 (h:=g) (D:=λ_=>True) (n:=0) (sz:=1) (xs:=[]) .ak ?_;refine yQ omQ (qJ ?_);obtain⟨MO2,_,_⟩:=qJO MO (i:=0) omQ (draw:=((0:Nat):Int)) omQ;refine jL (λc s h'=>∃t:Nat,s=(.int .i64 (t:Int),.int .u8 ((0:Nat):Int),.int .i64 (r:Int),.ak,.ptr b 0,())∧t≤1∧c=1-t∧HS g h' (bH b (if t=0 then mr else vB mr 0 ((0:Nat):Int))::R))
   ?_ (m:=1) od ⟨0,rfl,by omega,rfl,H⟩
  clear H;rintro c ih2 s h1 IB ⟨t,rfl,ht1,rfl,H⟩;dsimp only;have lq:(vB mr 0 ((0:Nat):Int)).t.length=1:=by rw[r2];rfl
  refine qV (Vv omQ H) ?_;rintro _ _ ⟨rfl,rfl⟩;by_cases c0:t=0
  ·subst c0;rw[iJ rfl]at H ⊢;rw[hl];refine jF omQ (qX ?_);refine qV (qZF (i:=0) (draw:=((0:Nat):Int)) omQ MO omQ omQ omQ ⟨by omega,by omega⟩ H) ?_;rintro _ h2 ⟨rfl,H2⟩;refine qb omQ ?_;exact IB 0 _ _ omQ ⟨1,rfl,Nat.le_refl _,rfl,H2⟩
  ·obtain rfl:t=1:=by omega
   rw[iQ c0]at H ⊢;rw[lq];refine jV omQ (qJ ?_);refine qb omQ ?_;refine bG (200000-(r+1)) _ _ omQ ⟨r+1,j,_,_,rfl,rfl,by omega,MO2,r2,by rw[r4,hp];omega,?_,H⟩;rw[hp,r3];exact q'
end
section
variable {g h:AH} {L R:List SP}
def se (jss:List (List (List qT))) (v:AV):SP:=.ex λvs:List AV=>.all [.fg (vs.length=jss.length),qB 24 1 jss.length v vs,.all (List.zipWith (λv js=>aT js v) vs jss)]
theorem se.E {jss:List (List (List qT))} {v:AV} (H:HS g h (se jss v::R)):∃vs:List AV,vs.length=jss.length∧HS g h (qB 24 1 jss.length v vs:: .all (List.zipWith (λv js=>aT js v) vs jss)::R):=by obtain⟨vs,H⟩:=H.dU;exact⟨vs,H.b9.dZ⟩
theorem se.I {jss:List (List (List qT))} {v:AV} {vs:List AV} (hl:vs.length=jss.length) (H:HS g h (qB 24 1 jss.length v vs:: .all (List.zipWith (λv js=>aT js v) vs jss)::R)):HS g h (se jss v::R) :=
 HS.ei vs (HS.allI (A:=[_,_,_]) (HS.eH hl H))
end
section
variable {g h:AH} {L R:List SP}
def Vo (S:zR) (k:Nat):jD:=if k≤5 then gU S else(jC (gU S) (bg 2 5 14)).2
theorem qqs {S:zR} (O:yY S) {k:Nat} (hk:k<S.words.toNat):(K5 S.words)[k]? =some (if k=5 then 14 else 0):=by
 have h1:=O.words;have e:dt S.words=S.words.toNat:=by unfold dt;omega
 unfold K5;rw[e,List.getElem?_set,List.getElem?_replicate];by_cases c:k=5
 ·subst c;rw[iJ rfl,iJ rfl,List.length_replicate,iJ hk]
 ·rw[iQ (λh=>c h.symm),iQ c,iJ hk]
theorem XR {jss:List (List (List qT))} {i:Nat}:(((jss.take 4)[i]?).getD []:List (List qT))=if i<4 then(jss[i]?).getD []else[]:=by
 rw[List.getElem?_take]
 split<;>rfl
section
variable {n:Nat}
theorem qGo {s:zR} {jss:List (List (List qT))} {v:AV} (hn:16≤n) (hs:0≤s.start) (hj:∀js∈jss,js.length≤1000000∧∀l∈js,(zf l).2=0∧Quiet l) (fE:jss.length≤1000) (H:HS g h (se jss v::R)) :
  aA n 8 [.agg (yd s),v] h λr h'=>∃b,r=.ptr b 0∧HS g h' (bH b (QU s jss)::se jss v::R):=by
 refine ba (S:=S8) rfl omQ λk hk=>?_;unfold S8;try simp only[iZ]
 obtain⟨vs,CX,H⟩:=se.E H;refine qO H rfl λb0 h1 H1=>?_;clear H;refine qo H1 (n:=jss.length) (v:=v) e_1 ?_;refine zk ?_;rw[show min ((jss.length:Nat):Int) ((4:Nat):Int)=((min jss.length 4:Nat):Int) by omega];have hm4:min jss.length 4≤jss.length∧min jss.length 4≤4:=by omega
 have Iy:(jss.take 4).length=min jss.length 4:=by rw[List.length_take];omega
 generalize hm:min jss.length 4=m at*;refine RS (hi:=m) H1.drop .here omQ hm4.1 λv' SV=>?_;refine x5 (SV.more.sl H1) ?_;refine qQ (qi ?_);refine qw H1 (b:=b0) .here (x:=.int .i64 (m:Int)) ⟨rfl,rfl⟩ (by show 3<8;omega) λh2 H2=>?_;have H2:HS g h2 (qA b0 (yd { s with aa:=((jss.take 4).length:Int) })::qB 24 1 jss.length v vs:: .all (List.zipWith (λv js=>aT js v) vs jss)::R):=by rw[Iy];exact H2
 unfold QU;have so:yY (jK { s with aa:=((jss.take 4).length:Int) }):=yq hs;have hid:=kL so;dsimp only;refine qF H2 (b:=b0) (off:=0) .here rfl omQ (l:=yd { s with aa:=((jss.take 4).length:Int) }) rfl ?_;refine qV (UU omQ H2) ?_;rintro _ h3 ⟨rfl,H3⟩;refine qh H3 (b:=b0) .here rfl (by show 0+8≤8;omega) rfl λh4 H4=>?_;generalize jK { s with aa:=((jss.take 4).length:Int) }=S at*;have H4:HS g h4 (qA b0 (yd S)::qB 24 1 jss.length v vs:: .all (List.zipWith (λv js=>aT js v) vs jss)::R):=H4;clear H1 H2 H3;have q1:=so.words;have q3:=so.aa;refine qW ?_
 try dsimp only
 refine qF H4 (b:=b0) (off:=0) .here rfl omQ (l:=yd S) rfl ?_;refine qQ (qF H4 (b:=b0) (off:=0) .here rfl omQ (l:=QO S) rfl ?_);refine qV (qku omQ so.start.1 H4) ?_;rw[hid];rintro _ h5 ⟨p,rfl,H5⟩
 let M0:kK:=⟨S,gU S,[],0,bg 0 0 0,false⟩
 refine qM (l:=Ju M0 p .ak) rfl ?_;refine qO H5 rfl λb h6 H6=>?_;have H7:HS g h6 (qA b (Ju M0 p .ak)::bS p S (gU S)::qA b0 (yd S)::qB 24 1 jss.length v vs:: .all (List.zipWith (λv js=>aT js v) vs jss)::R):=H6;refine zU H4 .here rfl H5 e_1 rfl rfl omQ (HS.lt H4 .here) ?_
 try dsimp only
 clear H4 H5 H6;refine qQ (qi (qZ H7 (b:=b0) e_2 (x:=.int .i64 S.words) rfl ?_));refine qV (qKe omQ H7) ?_;rintro wv h8 ⟨e,H8⟩;have ez:dt S.words=S.words.toNat:=by unfold dt;omega
 rw[ez]at H8;refine qo H8 (n:=S.words.toNat) (v:=wv) .here ?_;refine jL (λc q h'=>∃i:Nat,q=(.int .i64 (i:Int),.int .i64 ((S.words.toNat:Nat):Int),wv,.ptr b 0,.ptr b0 0,v',())∧i≤S.words.toNat∧c=S.words.toNat-i∧HS g h' (qB e 1 S.words.toNat wv ((K5 S.words).map (.int .u64))::qA b (Ju M0 p .ak)::bS p S (Vo S i)::qA b0 (yd S)::qB 24 1 jss.length v vs:: .all (List.zipWith (λv js=>aT js v) vs jss)::R))
  ?_ (m:=S.words.toNat) (by show _<1000000000;omega) ⟨0,rfl,Nat.zero_le _,rfl,H8⟩
 clear H7 H8;rintro c ih q h9 bG ⟨i,rfl,hi,rfl,H⟩;dsimp only;by_cases au:i<S.words.toNat
 ·refine jF omQ (qX ?_);refine qW ?_
  try dsimp only
  have hf:=qqs so au;refine jd (H.sl .here) (x:=.int .u64 (if i=5 then 14 else 0)) (by rw[List.getElem?_map,hf];rfl) ?_;by_cases c5:i=5
  ·subst c5;refine jQ od (qX ?_);refine qK (qQ (qZ H (b:=b) e_1 (x:=.ptr p 0) rfl ?_));refine qM (l:=x8 (bg 2 5 14)) rfl ?_;refine qV (PU (o:=bg 2 5 14) omQ ⟨Int.le_refl _,by show(0:Int)<1000000000;decide⟩ (H.aG (P:=bS p S (gU S)) e_2)) ?_;rintro _ dR ⟨rfl,HA⟩;refine qb omQ ?_;exact bG (S.words.toNat-(5+1)) _ _ omQ ⟨5+1,rfl,by omega,rfl,HA.sub (.cons e_1 (.cons e_1 (.cons .here .refl)))⟩
  ·rw[iQ c5];refine qs rfl (qJ ?_);refine qb omQ ?_;have em:Vo S (i+1)=Vo S i:=by
    unfold Vo;by_cases h5:i<5
    ·rw[iJ omQ,iJ omQ]
    ·rw[iQ omQ,iQ omQ]
   exact bG (S.words.toNat-(i+1)) _ _ omQ ⟨i+1,rfl,by omega,rfl,by rw[em];exact H⟩
 ·obtain rfl:i=S.words.toNat:=by omega
  refine jV omQ (qJ ?_);have em:Vo S S.words.toNat=(jC (gU S) (bg 2 5 14)).2:=by unfold Vo;rw[iQ omQ]
  rw[em]at H
  replace H:=H.drop
  clear bG ih;generalize(jC (gU S) (bg 2 5 14)).2=M5 at*
  let T:Nat→List qr:=λk=>(List.range k).map λi:Nat=>kF i S (((jss.take 4)[i]?).getD [])
  have C0:∀k,(T k).length=k:=λk=>by show((List.range k).map _).length=k;rw[List.length_map,List.length_range]
  refine qQ (qi (qZ H (b:=b0) e_2 (x:=.int .i64 S.aa) rfl ?_));rw[show S.aa=((S.aa.toNat:Nat):Int) by omega];have q0:HS g h9 (bH b ⟨S,M5,T 0,0,bg 0 0 0,false⟩::qA b0 (yd S)::qB 24 1 jss.length v vs:: .all (List.zipWith (λv js=>aT js v) vs jss)::R):=by have N1:=HS.allI (A:=[]) H;have N2:=N1.ak (e:=71) (sz:=1);exact bH.I (m:=⟨S,M5,T 0,0,bg 0 0 0,false⟩) (p:=p) (tv:=.ak) (ps:=[]) rfl (N2.sub (.cons e_2 (.cons .here (.cons e_1 (.cons .here .refl)))))
  clear H;refine jL (λc q h'=>∃i:Nat,q=(.int .i64 (i:Int),.int .i64 ((S.aa.toNat:Nat):Int),.ptr b 0,.ptr b0 0,v',())∧i≤S.aa.toNat∧c=S.aa.toNat-i∧HS g h' (bH b ⟨S,M5,T i,0,bg 0 0 0,false⟩::qA b0 (yd S)::qB 24 1 jss.length v vs:: .all (List.zipWith (λv js=>aT js v) vs jss)::R))
   ?_ (m:=S.aa.toNat) (by show _<1000000000;omega) ⟨0,rfl,Nat.zero_le _,rfl,q0⟩
  clear q0;rintro c ih q dR bG ⟨i,rfl,hi,rfl,H⟩;dsimp only;by_cases au:i<S.aa.toNat
  ·refine jF omQ (qX ?_)
   refine jo [] (λz h'=>∃(jv:AV) (B:List SP),z=(.int .i64 (i:Int),.int .i64 ((S.aa.toNat:Nat):Int),jv,.int .i64 (i:Int),.ptr b 0,.ptr b0 0,v',())∧
     HS g h' (aT (((jss.take 4)[i]?).getD []) jv::bH b ⟨S,M5,T i,0,bg 0 0 0,false⟩::qA b0 (yd S)::qB 24 1 jss.length v vs:: .all B::R)∧
     (∀{nu:AH} {L:List SP},HS g nu (aT (((jss.take 4)[i]?).getD []) jv:: .all B::L)→HS g nu (.all (List.zipWith (λv js=>aT js v) vs jss)::L))) (λj hj=>?_) ?_
   ·refine x5 (SV.more.more.sl H) ?_;by_cases him:i<m
    ·have oL:i<jss.length:=by omega
     have D8:i<vs.length:=by omega
     have ej:((jss.take 4)[i]?).getD []=jss[i]:=by rw[XR,iJ omQ,iW oL];rfl
     have hz:(List.zipWith (λv js=>aT js v) vs jss)[i]? =some (aT jss[i] vs[i]):=by rw[List.getElem?_zipWith,iW D8,iW oL]
     refine jF omQ (qX ?_);refine jd (SV.more.more.sl H) (x:=vs[i]) (by rw[Nat.mul_one,List.getElem?_take_of_lt him,iW D8]) ?_;rw[ej]at hj;refine hj _ _ ⟨vs[i],(List.zipWith (λv js=>aT js v) vs jss).eraseIdx i,rfl,?_,λH=>HS.pu (VK hz) H⟩;have H1:=HS.mI (VK hz) (H.aG (P:=.all (List.zipWith (λv js=>aT js v) vs jss)) e_3);exact H1.sub (.cons .here (.cons e_1 (.cons e_1 (.cons e_1 (.cons .here .refl)))))
    ·have ej:((jss.take 4)[i]?).getD []=[]:=by
      rw[XR]
      split
      ·rw[List.getElem?_eq_none omQ];rfl
      ·rfl
     refine jV omQ (qJ ?_);rw[ej]at hj;refine hj _ _ ⟨.ak,List.zipWith (λv js=>aT js v) vs jss,rfl,?_,λH=>H.drop⟩;exact aT.I (js:=[]) (v:=.ak) (vs:=[]) rfl ((HS.allI (A:=[]) H).ak)
   ·clear H;rintro _ cD ⟨jv,B,rfl,H,back⟩;dsimp only;refine qW ?_
    try dsimp only
    have hjj:∀l∈(((jss.take 4)[i]?).getD []),(zf l).2=0∧Quiet l:=λl hl=>by
     rw[XR]at hl
     split at hl
     ·cases hx:jss[i]? with
      |none=>rw[hx]at hl;cases hl
      |some js=>rw[hx]at hl;exact(hj js (List.mem_of_getElem? hx)).2 l hl
     ·cases hl
    have IC:(((jss.take 4)[i]?).getD []).length≤1000000:=by
     rw[XR]
     split
     ·cases hx:jss[i]? with
      |none=>exact Nat.zero_le _
      |some js=>exact(hj js (List.mem_of_getElem? hx)).1
     ·exact Nat.zero_le _
    have eT:T (i+1)=T i++[kF i S (((jss.take 4)[i]?).getD [])]:=by show(List.range (i+1)).map _=(List.range i).map _++_;rw[List.range_succ,List.map_append];rfl
    generalize((jss.take 4)[i]?).getD []=js at*;obtain⟨p',tv,ps,nA,HU⟩:=bH.E (H.aG (P:=bH b ⟨S,M5,T i,0,bg 0 0 0,false⟩) e_1);have nA:ps.length=i:=by rw[nA];exact C0 i
    have HU:HS g cD (qA b (Ju ⟨S,M5,T i,0,bg 0 0 0,false⟩ p' tv)::qB 71 1 i tv (Jk ps)::bS p' S M5:: .all (vO ps (T i))::aT js jv::qA b0 (yd S)::qB 24 1 jss.length v vs:: .all B::R):=by have:=HU;unfold Vg at this;rw[show(⟨S,M5,T i,0,bg 0 0 0,false⟩:kK).t.length=i from C0 i]at this;exact this
    refine qK (qQ (qZ HU (b:=b) .here (x:=tv) rfl ?_));refine qF HU (b:=b0) (off:=0) e_5 rfl omQ (l:=yd S) rfl ?_;have HV:HS g cD (aT js jv::qA b (Ju ⟨S,M5,T i,0,bg 0 0 0,false⟩ p' tv)::qB 71 1 i tv (Jk ps)::bS p' S M5:: .all (vO ps (T i))::qA b0 (yd S)::qB 24 1 jss.length v vs:: .all B::R):=HU.aG e_4;refine qV (qQ6 (me:=(i:Int)) (s:=S) (js:=js) omQ omQ so.start.1 hjj IC HV) ?_;rintro _ la ⟨tb,rfl,HW⟩;refine qm (n:=1) (l:=[.ptr tb 0]) (sz:=1) HW rfl rfl rfl rfl λv2 Hc HX=>?_;refine ja (HX.aG (P:=qB 71 1 i tv (Jk ps)) e_4) (HX.sl .here) omQ omQ rfl λv3 rJ HY=>?_;have o3:=HY.one .here;refine qK (qQ ?_);refine qw HY (b:=b) e_4 o3 (by simp[Ju]) λoh HZ=>?_;refine qc HU .here rfl HW e_2 rfl (HS.lt HU .here) ?_
    try dsimp only
    refine qb omQ ?_;refine bG (S.aa.toNat-(i+1)) _ _ omQ ⟨i+1,rfl,by omega,rfl,?_⟩;have eb:vO (ps++[tb]) (T (i+1))=vO ps (T i)++[aD tb (kF i S js)]:=by unfold vO;rw[eT,List.zipWith_append (by rw[nA];exact(C0 i).symm)];rfl
    have ep:Jk (ps++[tb])=Jk ps++[.ptr tb 0]:=by unfold Jk;rw[List.map_append];rfl
    have B1:=KI (A:=vO ps (T i)) (B:=[aD tb (kF i S js)]) (HZ.sub (.cons e_6 (.cons e_3 .refl)))
    have B2:=bH.I (b:=b) (p:=p') (tv:=v3) (m:=⟨S,M5,T (i+1),0,bg 0 0 0,false⟩) (ps:=ps++[tb]) (by rw[List.length_append,nA];exact(C0 (i+1)).symm) (by
     unfold Vg;rw[show(⟨S,M5,T (i+1),0,bg 0 0 0,false⟩:kK).t=T (i+1)from rfl,eb,ep,C0 (i+1)]
     exact B1.sub (.cons e_1 (.cons e_1 (.cons e_3 (.cons .here .refl)))))
    exact HS.sub (back (B2.sub (.cons e_2 (.cons e_4 .refl)))) (.cons e_1 (.cons e_2 (.cons e_2 (.cons .here (.drop .refl)))))
  ·obtain rfl:i=S.aa.toNat:=by omega
   refine jV omQ (qJ ?_);refine qk (qG ⟨b,rfl,?_⟩);refine HS.bZ e_1 (se.I CX (H.sub (.cons e_2 (.cons e_2 (.cons .here (.drop .refl))))))
end
end
section
variable {g h:AH} {L R:List SP}
theorem RU {P:SP}:∀{A:List SP},P∈A→∃A',aZ A P A'
 |x::A,h=>by
  rcases List.mem_cons.1 h with rfl |h
  ·exact⟨_,.here⟩
  ·obtain⟨A',s⟩:=RU h;exact⟨_,.there s⟩
theorem Rd.C1 {A:List SP} {e:TypeId} {sz n:Nat} {v:AV} {xs:List AV} (s:aZ L (.all A) R) (m:qB e sz n v xs∈A):Rd g L sz n v xs:=λh H=>by
 obtain⟨A',s'⟩:=RU m;exact(HS.mI s' (H.aG s)).sl .here
structure Ea (g:AH) (L:List SP) (z:kY×Gg):Prop where
  r:Rd g L 2 z.1.reads.length z.2.rv (z.1.reads.flatMap jI)
  c:Rd g L 2 z.1.cells.length z.2.cv (z.1.cells.flatMap jI)
  f:Rd g L 1 z.1.eO.length z.2.fv (z.1.eO.map (.int .i64))
def C5 (g:AH) (L:List SP) (rs:List kY) (v:AV):Prop:=∃zs:List (kY×Gg),zs.map (·.1)=rs∧Rd g L 14 zs.length v (zs.flatMap λz=>QP z.1 z.2)∧∀z∈zs,Ea g L z
theorem Ea.C1 {zs:List (kY×Gg)} {z:kY×Gg} (s:aZ L (.all (zs.flatMap λz=>Y0 z.1 z.2)) R) (hz:z∈zs):Ea g L z :=
 ⟨Rd.C1 s (List.mem_flatMap.2 ⟨z,hz,iK ..⟩),Rd.C1 s (List.mem_flatMap.2 ⟨z,hz,iX _ (iK ..)⟩),Rd.C1 s (List.mem_flatMap.2 ⟨z,hz,iX _ (iX _ (iK ..))⟩)⟩
theorem C5.aw {rs:List kY} {v:AV} {zs:List (kY×Gg)} (e:zs.map (·.1)=rs):C5 g (qB 114 14 zs.length v (zs.flatMap λz=>QP z.1 z.2):: .all (zs.flatMap λz=>Y0 z.1 z.2)::R) rs v :=
 ⟨zs,e,Rd.own .here,λ_ hz=>Ea.C1 e_1 hz⟩
section
variable {t:qr} {x:q8}
theorem RV:∀{zs:List (kY×Gg)} {R:List SP},HS g h ((zs.flatMap λz=>Y0 z.1 z.2)++R)→qn (zs.flatMap λz=>QP z.1 z.2)=true
 |[],_,_=>rfl
 |z::zs,R,H=>by
  have H:HS g h (qB 164 2 z.1.reads.length z.2.rv (z.1.reads.flatMap jI)::qB 164 2 z.1.cells.length z.2.cv (z.1.cells.flatMap jI)::qB z.2.fe 1 z.1.eO.length z.2.fv (z.1.eO.map (.int .i64))::((zs.flatMap λz=>Y0 z.1 z.2)++R)):=H;have o1:=H.one (v:=z.2.rv) .here;have o2:=H.one (v:=z.2.cv) e_1;have o3:=H.one (v:=z.2.fv) e_2;have ih:=RV (zs:=zs) (R:=R) H.drop.drop.drop;rw[List.flatMap_cons,qn,List.all_append];have:qn (QP z.1 z.2)=true:=by simp only[qn,QP,List.all_cons,o1.2,o2.2,o3.2];rfl
  unfold qn at this ih;rw[this,ih];rfl
theorem dr.one {r:List kY} {v:AV} (H:HS g h (dr r v::R)):∃zs:List (kY×Gg),zs.map (·.1)=r∧qn (zs.flatMap λz=>QP z.1 z.2)=true∧HS g h (qB 114 14 zs.length v (zs.flatMap λz=>QP z.1 z.2):: .all (zs.flatMap λz=>Y0 z.1 z.2)::R):=by obtain⟨zs,e,H⟩:=dr.E H;exact⟨zs,e,RV H.drop.b9,H⟩
end
def uK (r:kY):Prop:=r.reads.length≤1000000∧r.cells.length≤1000000∧r.eO.length≤1000000
end
section
variable {g h:AH} {L R:List SP}
section
variable {n a b:Nat} {t:qr} {q:Um} {x:q8}
theorem qKT (hn:4≤n) (hl:t.ad.length+t.ag.length≤1000000) (H:HS g h (aD b t::R)) :
  aA n 27 [.ptr b 0] h λr h'=>HS g h' (qB 142 2 (wS t).length r ((wS t).flatMap jI)::aD b t::R):=by
 refine ay (S:=S27) rfl omQ λk hk=>?_;unfold S27;try simp only
 obtain⟨q,H0⟩:=aD.E H;clear H;refine qW ?_
 try dsimp only
 refine qK (qQ (qZ H0 (b:=b) .here (x:=.ptr q.lb 0) rfl ?_));refine qV (qVf omQ omQ (H0.aG (P:=cA q.lb t.ad) e_6)) λv h1 H1=>?_;refine qK (qQ (qi (qZ H1 (b:=b) e_2 (x:=q.gv) rfl ?_)));refine ja H1 (H1.sl (n:=t.ag.length) (v:=q.gv) (xs:=t.ag.flatMap jI) e_4) omQ omQ (ke (λ_=>rfl) _) λv2 h2 H2=>?_;refine qc H0 (b:=b) .here (x:=q.gv) rfl H1 e_2 rfl (HS.lt H0 .here) ?_;refine qG ?_;have e:wS t=t.ad++t.ag:=rfl;rw[e,List.length_append,List.flatMap_append];exact HS.bZ e_1 (aD.I (q:=q) (H2.sub (.cons e_2 (.cons e_2 (.cons e_2 (.cons e_2 (.cons e_2 (.cons e_2 (.cons e_1 (.cons e_1 (.cons .here .refl)))))))))))
end
end
section
section
variable {t u:qr} {x:q8}
theorem RX {p:Int} (O:zE x):uK (jH t x p):=by
 refine⟨?_,?_,?_⟩
 ·show x.v.K.length≤1000000;have:=O.aC.ok.uq;omega
 ·show(Qb x).length≤1000000;unfold Qb
  split
  ·have:=(Ym O.aC.ok).1;omega
  ·exact Nat.zero_le _
 ·show(zZ x).length≤1000000;unfold zZ
  split
  ·split
   ·rename_i bs k hj;have:=O.ax;rw[hj]at this;have:=this.2;omega
   ·have:=O.fr;rw[qZE];omega
  ·exact Nat.zero_le _
theorem OK {d p:Int}:(xX t x d p).aw=t.aw++[jH t x p]:=by
 unfold xX;dsimp only
 split
 ·split
  ·rfl
  ·exact(Q5 _ _).aw
 ·split
  ·split
   ·exact(vF _).aw
   ·rfl
  ·split
   ·exact(Ut _ _).aw
   ·exact(Mg _).aw
def dV (t:qr):Prop:=∀r∈t.aw,uK r
theorem dV.keep (P:dV t) (h:u.aw=t.aw):dV u:=λr hr=>P r (h▸hr)
theorem dV.tell {a:cO} {d p:Int} (O:xn t) (ha:J1 a) (P:dV t):dV (zO t a d p):=by
 unfold zO
 split
 ·rename_i h1;have C:=O.c omQ;cases hx:t.now with
  |none=>exact P
  |some x=>
   dsimp only;have hN:=C.now x hx;unfold kZ;dsimp only
   split
   ·exact P
   ·intro r hr;rw[OK]at hr;rcases List.mem_append.1 hr with hr |hr
    ·exact P r hr
    ·rw[List.mem_singleton.1 hr];exact RX (XO hN.1 ha)
 ·split
  ·split
   ·exact P
   ·exact P.keep (Q5 t d).aw
  ·split
   ·exact P.keep (GT _).aw
   ·exact P
theorem dV.new {me:Int} {s:zR} {js:List (List qT)}:dV (kF me s js):=λr hr=>by
 have:(kF me s js).aw=[]:=(zm _).aw;rw[this]at hr;cases hr
theorem dV.all (O:xn t) (P:dV t):∀r∈G3 t,uK r:=λr hr=>by
 unfold G3 at hr;rcases List.mem_append.1 hr with hr |hr
 ·exact P r hr
 ·split at hr
  ·rename_i x hx
   split at hr
   ·rename_i h;rw[List.mem_singleton.1 hr];exact RX ((O.c omQ).now x hx).1
   ·cases hr
  ·cases hr
end
end
section
variable {g h:AH} {L R:List SP}
section
variable {n b:Nat} {m:kK}
theorem Z3 {i:Nat} {t:qr} (hn:6≤n) (ht:m.t[i]? =some t) (hr:t.ad.length+t.ag.length≤1000000) (hb:m.t.length≤1000) (H:HS g h (bH b m::R)) :
  aA n 12 [.ptr b 0,.int .i64 (i:Int)] h λr h'=>HS g h' (qB 142 2 (wS t).length r ((wS t).flatMap jI)::bH b m::R):=by
 refine ba (S:=S12) rfl omQ λk hk=>?_;unfold S12;try simp only
 obtain⟨p,tv,ps,hl,H⟩:=bH.E H;have hi:=(List.getElem?_eq_some_iff.1 ht).1;have h1:ps[i]? =some (ps[i]'omQ):=iW omQ;refine qV (Zt omQ hl h1 hb H) ?_;rintro _ _ ⟨rfl,rfl⟩;refine Ky (qX ?_);have H2:=Kp h1 ht (H.aG (P:=.all (vO ps m.t)) e_3);refine qV (qKT omQ hr H2) λv h3 H3=>?_;refine qG ?_;have H4:=ZC h1 ht (H3.sub (.cons e_1 (.cons e_1 .refl)));exact bH.I1 hl (H4.sub (.cons e_1 (.cons e_1 (.cons e_1 (.cons e_1 (.cons .here .refl))))))
end
end
section
variable {g h:AH} {L R:List SP}
def pP (bs:List UInt8):List AV:=bs.map λc=>.int .u8 (.ofNat c.toNat)
theorem qGH:∀(bs:List UInt8),wD (pP bs)=some bs:=by
 intro bs
 induction bs with
 |nil=>rfl
 |cons b bs ih=>show(wD (pP bs)).bind (λs=>some (UInt8.ofNat b.toNat::s))=_;rw[ih];simp
theorem NI (bs:List UInt8):qn (pP bs)=true:=by unfold qn pP;rw[List.all_eq_true];intro y hy;obtain⟨z,_,rfl⟩:=List.mem_map.1 hy;rfl
theorem qgr {e:TypeId} {n:Nat} {v:AV} {bs:List UInt8} {K:AV→Go.Ae.R} {Q:AV→AH→Prop} (H:HS g h L) (s:aZ L (qB e 1 n v (pP bs)) R) (w:wp (K (.str bs)) Q):wp (Xd h v K) Q:=by
 obtain⟨D,hl,⟨rfl,rfl,_⟩ |⟨b,cp,o,ys,rfl,_,A,h1,h2,_⟩⟩:=H.p s
 ·have:bs=[]:=iA (by simpa[pP]using hl);subst this;exact w
 ·unfold Xd;dsimp only;rw[Yz A omQ,List.drop_zero];rw[Nat.mul_one]at h2;rw[h2];simp only[ob,qGH];exact w
theorem GU {u:Nat} (h:u<10):Lib.decDigits u=[UInt8.ofNat (48+u)]:=Lib.decDigits_one h
theorem O0 {u:Nat} (h:¬u<10):Lib.decDigits u=Lib.decDigits (u/10)++[UInt8.ofNat (48+u%10)]:=by rw[Lib.decDigits,dif_neg h]
def Ui (m:Nat):List UInt8:=if m<10 then[]else Lib.decDigits (m/10)
theorem qQL {m:Nat} (h:¬m<10):Ui m=Ui (m/10)++[UInt8.ofNat (48+m/10%10)]:=by
 unfold Ui;rw[iQ h];by_cases h1:m/10<10
 ·rw[iJ h1,GU h1,Nat.mod_eq_of_lt h1];rfl
 ·rw[iQ h1,← O0 h1]
theorem qXs (u:Nat):Lib.decDigits u=Ui u++[UInt8.ofNat (48+u%10)]:=by
 unfold Ui;by_cases h:u<10
 ·rw[iJ h,GU h,Nat.mod_eq_of_lt h];rfl
 ·rw[iQ h,← O0 h]
theorem Z2 {n:Nat} (hn:1≤n) {u:Nat} (h2:u<18446744073709551616) (H:HS g h R):aA n 13 [.int .u64 (u:Int)] h λr h'=>r=.str (Lib.decDigits u)∧HS g h' R:=by
 refine ay (S:=S13) rfl omQ λk hk=>?_;unfold S13;try simp only[iZ]
 have hd:∀m:Nat,Int.tmod (m:Int) ((10:Nat):Int)=((m%10:Nat):Int):=λm=>by rw[Int.tmod_eq_emod_of_nonneg omQ];omega
 have hc:∀m:Nat,AV.int .u8 (((48:Nat):Int)+((m%10:Nat):Int))=.int .u8 (.ofNat (UInt8.ofNat (48+m%10)).toNat):=λm=>by
  have:(UInt8.ofNat (48+m%10)).toNat=48+m%10:=by simp;omega
  rw[this];rfl
 refine Ja omQ ?_;rw[hd];refine yv omQ (Ya ?_);rw[LL omQ,hc];refine qm (n:=1) (l:=pP [UInt8.ofNat (48+u%10)]) (sz:=1) H rfl rfl rfl (NI _) λv3 h3 H3=>?_;refine jL (λc s h'=>∃(m:Nat) (bs:List UInt8) (bv:AV),s=(bv,.int .u64 (m:Int),())∧m<10 ^ c∧m<18446744073709551616∧bs.length+c≤21∧Lib.decDigits u=Ui m++bs∧HS g h' (qB 5 1 bs.length bv (pP bs)::R))
  ?_ (m:=20) (by show 20<1000000000;omega) ⟨u,_,v3,rfl,by omega,h2,by simp,qXs u,H3⟩
 clear H3 H;rintro c ih s h4 bG ⟨m,bs,bv,rfl,hm,sC,hl,rT,H⟩;dsimp only;by_cases dR:m<10
 ·refine zK omQ (qJ ?_);refine qgr H .here ?_;refine qk (qG ⟨?_,H.drop⟩);rw[rT];unfold Ui;rw[iJ dR];rfl
 ·refine zx omQ (qX ?_);have hq:Int.tdiv (m:Int) ((10:Nat):Int)=((m/10:Nat):Int):=by rw[Int.tdiv_eq_ediv_of_nonneg omQ];omega
  refine Fq omQ ?_;rw[hq,Dz omQ];refine Ja omQ ?_;rw[hd];refine yv omQ (Ya ?_);rw[LL omQ,hc];refine qm (n:=1) (l:=pP [UInt8.ofNat (48+m/10%10)]) (sz:=1) H rfl rfl rfl (NI _) λv5 h5 H5=>?_;refine ja (H5.aG (P:=qB 5 1 1 v5 (pP [UInt8.ofNat (48+m/10%10)])) .here) (H5.sl e_1) omQ omQ (NI _) λv6 h6 H6=>?_;obtain⟨c,rfl⟩:∃c',c=c'+1:=by
   cases c with
   |zero=>simp at hm;omega
   |succ c=>exact⟨c,rfl⟩
  refine bG c _ _ omQ ⟨m/10,UInt8.ofNat (48+m/10%10)::bs,v6,rfl,by rw[Nat.pow_succ]at hm;omega,by omega,by simp;omega,?_,?_⟩
  ·rw[rT,qQL dR,List.append_assoc];rfl
  ·have e:(UInt8.ofNat (48+m/10%10)::bs).length=1+bs.length:=by simp;omega
   rw[e];have H7:HS g h6 (qB 5 1 (1+bs.length) v6 (pP (UInt8.ofNat (48+m/10%10)::bs))::_):=H6;exact H7.sub (.cons .here (.drop .refl))
end
namespace topAgain
variable {g h:AH} {L R:List SP}
theorem qjH {s:List UInt8} {K:AV→Go.Ae.R} {Q:AV→AH→Prop} (w:wp (K (.bool false)) Q):wp (Vj .neq (.str s) (.str s) K) Q:=by show wp (K (.bool (!ft s s))) Q;rw[Zm];exact w
theorem Zr {b off n sz a:Nat} {k:IntKind} {K:AV→Go.Ae.R} {Q:AV→AH→Prop} (ha:a<n) (w:wp (K (.ptr b (off+a*sz))) Q):wp (kU (.ptr b off) (.int k (a:Int)) n sz K) Q:=KM ha w
theorem qW8 {D:Nat→Prop} {n i f sz:Nat} {v x:AV} {xs:List AV} {k:IntKind} {K:AV→AV→Go.Ae.R} {Q:AV→AH→Prop} (S:Sl D h sz n v xs) (hf:f<sz) (hi:i<n) (hx:xs[i*sz+f]? =some x)
  (w:∀b off,b<h.nx→(∀(h':AH) (D':Nat→Prop) (ys:List AV),Sl D' h' sz n v ys→ys[i*sz+f]? =some x→h'.at b off=some x)→wp (K (.ptr b off) x) Q):wp (vG v (.int k (i:Int)) sz λp=>qp p f λq=>jj h q (K q)) Q:=by
 have au:i*sz+f<n*sz:=by
  have:i*sz+sz≤n*sz:=by rw[← Nat.succ_mul];exact Nat.mul_le_mul_right sz hi
  omega
 cases S with
 |ak=>omega
 |bT a=>omega
 |tail b o o' i=>omega
 |mk hd hb hr hl ha=>
  refine XS hi (qi (Ql (x:=x) ?_ (w _ _ hb λh' D' ys S' hy=>?_)))
  ·rw[Nat.add_assoc,ha _ au];exact hx
  ·cases S' with
   |mk hd' bB hr' dO tM=>rw[Nat.add_assoc,tM _ au];exact hy
theorem RY {l:List GS} {i f:Nat} {x:GS} (h:l[i]? =some x) (hf:f<4):(l.flatMap Qr)[i*4+f]? =(Qr x)[f]?:=by rw[← vw (sz:=4) (enc:=Qr) (λ_=>rfl) h,List.getElem?_take_of_lt hf,List.getElem?_drop]
def nZ (cs:List Nat):List AV:=(List.range 5).map λc=>.bool (decide (c∈cs))
theorem NY {cs:List Nat} {c:Nat} (hc:c<5):(nZ cs)[c]? =some (.bool (decide (c∈cs))):=by unfold nZ;rw[List.getElem?_map,List.getElem?_range hc];rfl
theorem qxh {cs:List Nat} {c:Nat} (hc:c<5):(nZ cs).set c (.bool true)=nZ (cs++[c]):=by
 refine List.ext_getElem? λj=>?_;have hl:(nZ cs).length=5:=by unfold nZ;rw[List.length_map,List.length_range]
 by_cases e:c=j
 ·subst e;rw[List.getElem?_set_self omQ,NY hc];simp
 ·rw[List.getElem?_set_ne e];by_cases hj:j<5
  ·rw[NY hj,NY hj];have:(j∈cs++[c])↔j∈cs:=by
    rw[List.mem_append,List.mem_singleton];exact⟨λh=>h.resolve_right λh=>e h.symm,.inl⟩
   simp only[this]
  ·have h1:∀l:List Nat,(nZ l)[j]? =none:=λl=>List.getElem?_eq_none (by unfold nZ;rw[List.length_map,List.length_range];omega);rw[h1,h1]
theorem qGU {cs:List Nat} {c:Nat} (hc:1≤c∧c≤4):Qm (cs++[c])=if c∈cs then Qm cs else Qm cs+1+2 ^ c:=by
 have h:∀d:Nat,oo (cs++[c]) d=if d=c then 1+2 ^ c else oo cs d:=λd=>by
  unfold oo;by_cases e:d=c
  ·subst e;rw[iJ (List.mem_append_right _ (List.mem_singleton.2 rfl)),iJ rfl]
  ·rw[iQ e];have:(d∈cs++[c])↔d∈cs:=by
    rw[List.mem_append,List.mem_singleton];exact⟨λh=>h.resolve_right e,.inl⟩
   simp only[this]
 have hi:oo cs c=if c∈cs then 1+2 ^ c else 0:=rfl
 have key:∀d:Nat,oo (cs++[c]) d=oo cs d+(if d=c then(if c∈cs then 0 else 1+2 ^ c)else 0):=λd=>by
  rw[h];by_cases e:d=c
  ·subst e;rw[iJ rfl,iJ rfl,hi]
   split<;>simp
  ·rw[iQ e,iQ e,Nat.add_zero]
 unfold Qm;rw[key,key,key,key];have one:∀x:Nat,(if 1=c then x else 0)+(if 2=c then x else 0)+(if 3=c then x else 0)+(if 4=c then x else 0)=x:=λx=>by
  rcases(show c=1∨c=2∨c=3∨c=4 by omega)with rfl |rfl |rfl |rfl<;>simp
 have:=one (if c∈cs then 0 else 1+2 ^ c);by_cases ci:c∈cs
 ·simp only[iJ ci]at this ⊢;omega
 ·simp only[iQ ci]at this ⊢;omega
theorem RZ {cs:List Nat}:Qm cs≤100:=by
 have h:∀d:Nat,oo cs d≤1+2 ^ d:=λd=>by
  unfold oo
  split
  ·exact Nat.le_refl _
  ·exact Nat.zero_le _
 have:=h 1;have:=h 2;have:=h 3;have:=h 4;unfold Qm;omega
theorem qKM {n:Nat} (h:2≤n∧n≤16):zX (n:Int)=(x7 n:Int)∧1≤x7 n∧x7 n≤4:=by
 unfold zX x7
 repeat' split
 all_goals omega
theorem qjT {c:Nat} (h:1≤c∧c≤4):vZ (c:Int)=((2 ^ c:Nat):Int):=by
 rcases(show c=1∨c=2∨c=3∨c=4 by omega)with rfl |rfl |rfl |rfl<;>rfl
theorem law {k0:Nat} (hk:60≤k0) {ns:List Int} {a0:AV} {st wi:Int} (SN:Sl (λb=>b<h.nx) h 1 ns.length a0 (ns.map (.int .u8))) (Aa:∀x∈ns,0≤x∧x<256) :
  wp ((cG S3) (wC 4 (callT tab qx k0)) [a0,.int .i64 st,.int .i64 wi] h) λv _=>v=.bool true:=by
 show wp (S3 (wC _ (callT tab qx _)) _ _ _ _).1 _;unfold S3
 try simp only[ iZ]
 refine qg3 (jY (qJ ?_));refine qO (HS.nil h) rfl λbi h1 H1=>?_;have H2:HS h h1 [qA bi (nZ []),aT [] .ak]:=(aT.I (js:=[]) (v:=.ak) (vs:=[]) rfl ((HS.allI (A:=[]) (show HS h h1 [qA bi (nZ [])]from H1)).ak)).sub (.cons e_1 (.cons .here .refl));refine jL (λc q h'=>∃(ls:List Nat) (jv:AV),q=(.int .i64 (ls.length:Int),.ptr bi 0,.int .i64 (Qm (ls.map x7):Int),jv,.int .i64 wi,.int .i64 st,a0,())∧ls.length≤ns.length∧ls.length≤3∧c=3-ls.length∧(∀n∈ls,2≤n∧n≤16)∧HS h h' [qA bi (nZ (ls.map x7)),aT (zP 0 ls) jv])
  ?_ (m:=3) od ⟨[],.ak,rfl,Nat.zero_le _,Nat.zero_le _,rfl,λn hn=>(by cases hn),H2⟩
 clear H1 H2;rintro c ih q h6 bG ⟨ls,jv,rfl,pY,EO,rfl,sM,H⟩;dsimp only;refine x5 (SN.cW H.cW) ?_;refine Xt ?_;refine Ni (λz g'=>g'=h6∧∃u:AV,z=(u,.bool (decide ((ls.length:Int)<(ns.length:Int))),.int .i64 (ls.length:Int),.ptr bi 0,.int .i64 (Qm (ls.map x7):Int),jv,.int .i64 wi,.int .i64 st,a0,())∧(ls.length<ns.length→u=.bool (decide (ls.length<3)))) (λj hj=>?_) ?_
 ·refine qxi (λc1=>?_) (λc1=>?_)
  ·refine Xt (hj _ _ ⟨rfl,_,rfl,λ_=>?_⟩)
   congr 1
   exact decide_eq_decide.2 omQ
  ·exact hj _ _ ⟨rfl,_,rfl,λh=>absurd h omQ⟩
 rintro _ _ ⟨rfl,u,rfl,hu⟩;dsimp only;have hp:∀{K:AV→Go.Ae.R} {Q:AV→AH→Prop},(∀b:Bool,(b=true↔(ls.length<ns.length∧ls.length<3))→wp (K (.bool b)) Q)→wp (gG (.bool (decide ((ls.length:Int)<(ns.length:Int)))) u (.bool false) K) Q:=λ{K Q} hw=>by
  by_cases c1:ls.length<ns.length
  ·rw[iG (show(ls.length:Int)<(ns.length:Int) by omega),hu c1];exact qH (hw _ ⟨λh=>⟨c1,of_decide_eq_true h⟩,λh=>iG h.2⟩)
  ·rw[iV (show¬(ls.length:Int)<(ns.length:Int) by omega)];exact qI (hw _ ⟨λh=>(by cases h),λh=>absurd h.1 c1⟩)
 refine hp λbb tx=>?_;clear hp hu;cases bb with
 |true=>
  obtain⟨c1,c2⟩:=tx.1 rfl;clear tx;refine qX ?_;have hx:ns[ls.length]? =some ns[ls.length]:=iW c1;have hxb:=Aa _ (List.getElem_mem c1);refine jd (SN.cW H.cW) (x:=.int .u8 ns[ls.length]) (by rw[List.getElem?_map,hx];rfl) ?_;generalize ns[ls.length]=x at*;refine xg omQ ?_;refine Ja od ?_;obtain⟨n,hn,n0⟩:∃n:Nat,x.tmod ((15:Nat):Int)+((2:Nat):Int)=(n:Int)∧2≤n∧n≤16:=by rw[Int.tmod_eq_emod_of_nonneg hxb.1];exact⟨(x%15+2).toNat,by omega,by omega,by omega⟩
  refine qb omQ ?_;rw[hn];obtain⟨k1,k2,k3⟩:=qKM n0;refine vj od (V8 omQ) ?_;rintro _ _ ⟨rfl,rfl⟩;rw[k1];refine jV omQ ?_;refine qW ?_
  try dsimp only
  refine qd (yQ omQ (qI (qJ ?_)));refine jo [] (λz g'=>z=(.int .i64 (x7 n:Int),.int .i64 (n:Int),.int .i64 (ls.length:Int),.ptr bi 0,.int .i64 (Qm ((ls.map x7)++[x7 n]):Int),jv,.int .i64 wi,.int .i64 st,a0,())∧HS h g' [qA bi (nZ (ls.map x7)),aT (zP 0 ls) jv]) (λj hj=>?_) ?_
  ·refine Zr omQ ?_;refine qZ H (b:=bi) .here (x:=.bool (decide (x7 n∈(ls.map x7)))) (by rw[Nat.zero_add,Nat.mul_one];exact NY omQ) ?_;have hm:=qGU (cs:=(ls.map x7)) (c:=x7 n) ⟨k2,k3⟩;have hle:=RZ (cs:=(ls.map x7));have h2:2 ^ x7 n≤16:=by
    rcases(show x7 n=1∨x7 n=2∨x7 n=3∨x7 n=4 by omega)with e |e |e |e<;>rw[e]<;>decide
   by_cases ci:x7 n∈(ls.map x7)
   ·rw[iJ ci]at hm;rw[iG ci];refine jY (qJ ?_);exact hj _ _ ⟨by rw[hm],H⟩
   ·rw[iQ ci]at hm;rw[iV ci];refine jB (qX ?_);refine qb omQ ?_;refine vj od (J4 omQ) ?_;rintro _ _ ⟨rfl,rfl⟩;rw[qjT ⟨k2,k3⟩];refine qb omQ ?_;refine hj _ _ ⟨?_,H⟩;rw[hm]
    congr 5
  clear H;rintro _ h7 ⟨rfl,H⟩;dsimp only;refine Zr omQ ?_;refine qw H (b:=bi) .here ⟨rfl,rfl⟩ (by rw[Nat.zero_add,Nat.mul_one];unfold nZ;rw[List.length_map,List.length_range];omega) λh8 H8=>?_;rw[Nat.zero_add,Nat.mul_one,qxh omQ]at H8;refine yM omQ ?_;refine yM omQ ?_;refine vj od (Z5 (pop:=false) omQ H8) ?_;rintro _ h9 ⟨p1,rfl,H9⟩;refine vj od (Z5 (pop:=true) omQ H9) ?_;rintro _ dR ⟨p2,rfl,HA⟩;rw[iJ rfl,iQ od]at HA;have o2:=HA.one (v:=p2) .here;have o1:=HA.one (v:=p1) e_1;refine qm (n:=2) (l:=[p1,p2]) (sz:=1) HA rfl rfl (by simp only[yr,yV,AV.cells];rfl) (by simp[qn,o1.2,o2.2]) λv2 cD HB=>?_;obtain⟨us,rZ,HC⟩:=aT.E (HB.aG (P:=aT (zP 0 ls) jv) e_4);have fE:(zP 0 ls).length=2*ls.length:=Uo;refine ja HC (HC.sl e_2) omQ omQ (by simp[qn,o1.2,o2.2]) λv3 la HD=>?_;have ej:zP 0 (ls++[n])=zP 0 ls++[zA n ls.length,eh]:=by rw[qqO,Nat.zero_add]
  have ez:List.zipWith gI (us++[p1,p2]) (zP 0 (ls++[n]))=List.zipWith gI us (zP 0 ls)++[gI p1 (zA n ls.length),gI p2 eh]:=by rw[ej,List.zipWith_append rZ];rfl
  have HE:=KI (A:=List.zipWith gI us (zP 0 ls)) (B:=[gI p1 (zA n ls.length),gI p2 eh]) (HD.sub (.cons e_1 (.cons e_3 (.cons e_2 (.cons .here (.drop (.cons .here .refl)))))));rw[← ez]at HE;have HF:=aT.I (v:=v3) (js:=zP 0 (ls++[n])) (vs:=us++[p1,p2]) (by rw[ej,List.length_append,List.length_append,rZ];rfl) (by rw[show(zP 0 (ls++[n])).length=(zP 0 ls).length+2 by rw[ej,List.length_append];rfl];exact HE.sub (.cons e_1 (.cons .here .refl)));refine qb omQ ?_;refine bG (3-(ls.length+1)) _ _ omQ ⟨ls++[n],v3,?_,by rw[List.length_append];exact c1,by rw[List.length_append];exact c2,by rw[List.length_append];rfl,λz hz=>?_,?_⟩
  ·rw[List.length_append,List.map_append];rfl
  ·rcases List.mem_append.1 hz with hz |hz
   ·exact sM z hz
   ·rw[List.mem_singleton.1 hz];exact n0
  ·rw[List.map_append];exact HF.sub (.cons e_1 (.cons .here .refl))
 |false=>
  refine qJ ?_;clear bG ih tx;have fE:(zP 0 ls).length=2*ls.length:=Uo;obtain⟨us,rZ,HJ⟩:=aT.E (H.aG (P:=aT (zP 0 ls) jv) e_1);have oj:=HJ.one (v:=jv) .here;have lj:=(HJ.sl (v:=jv) (xs:=us) .here).pd;clear HJ rZ us;refine qM (l:=[.int .i64 100,.int .i64 st,.int .i64 wi,.int .i64 0,.int .u64 0]) rfl ?_;refine qM (l:=yd (GX st wi)) rfl ?_;refine qm (n:=1) (l:=[jv]) (sz:=1) H rfl rfl (by simp only[yr,yV,oj.1];rfl) (by simp[qn,oj.2]) λtv h7 H7=>?_;have HT:=se.I (jss:=[zP 0 ls]) (v:=tv) (vs:=[jv]) rfl ((HS.allI (A:=[aT (zP 0 ls) jv]) (H7.sub (.cons e_2 (.cons .here (.cons .here .refl))))).sub (.cons e_1 (.cons .here .refl)));have mc:∀js∈[zP 0 ls],∀l∈js,(zf l).2=0∧Quiet l:=λjs Az l hl=>by
   rw[List.mem_singleton.1 Az]at hl;exact(RD (i:=0) omQ sM l hl).1
  refine vj od (qGo (s:=GX st wi) (jss:=[zP 0 ls]) omQ (show(0:Int)≤0 by decide) (λjs Az=>⟨by rw[List.mem_singleton.1 Az];omega,mc js Az⟩) (show 1≤1000 by decide) HT) ?_;rintro _ h8 ⟨mb,rfl,H8⟩;obtain⟨S,k,tE,ME,iR,e1,q,Ar,lim,hw,h5,tC,bL⟩:=qVL (st:=st) (wi:=wi) EO sM;have MO:=qvu (s:=GX st wi) (jobs:=[zP 0 ls]) (show(0:Int)≤0 by decide) mc;have CC:(QU (GX st wi) [zP 0 ls]).aM=0:=rfl;generalize QU (GX st wi) [zP 0 ls]=m0 at*;refine Kj (qW ?_)
  try dsimp only
  refine qd (vj od (qQ2 omQ MO e1 CC q iR Ar H8) ?_);rintro _ h9 ⟨rfl,m',ly,sC,MO',H9⟩;have H9:HS h h9 [bH mb m']:=H9.sub (.cons .here (.drop (.drop .refl)));clear H H7 HT H8 MO e1 CC q;refine jY (qI (qJ ?_));have s4:m'.m.w.length=100:=by rw[sC];exact hw
  refine vj od (ZW omQ omQ H9) ?_;intro wv dR eZ;refine vj od (Vx (i:=0) (t:=tE) omQ (by rw[ly];rfl) omQ (by rw[ly];show 1≤1000;omega) (eZ.aG (P:=bH mb m') e_1)) ?_;intro rv cD iE;refine qo iE (sz:=1) (n:=m'.m.w.length) (v:=wv) e_2 ?_;refine qs omQ ?_;refine qW (qd ?_);refine qo iE (sz:=4) (n:=tE.results.length) (v:=rv) .here ?_;refine xo lj ?_;refine qs omQ (qI ?_);refine qW (qd ?_);have mf:=RZ (cs:=(ls.map x7));refine jd (i:=5) (iE.sl (v:=wv) (xs:=m'.m.w.map (.int .u64)) e_2) (x:=.int .u64 (Qm (ls.map x7):Int)) (by rw[List.getElem?_map,sC,h5];rfl) ?_;refine yM omQ ?_;refine qs rfl (qI ?_);refine qW (qd ?_);have lim2:tE.ad.length+tE.ag.length=0:=by have:=congrArg List.length lim;unfold wS at this;rw[List.length_append]at this;exact this
  refine vj od (Z3 (i:=0) (t:=tE) omQ (by rw[ly];rfl) omQ (by rw[ly];show 1≤1000;omega) (iE.aG (P:=bH mb m') e_1)) ?_;intro lv la bN;rw[lim]at bN;refine qo bN (sz:=2) (n:=0) (v:=lv) .here ?_;refine qs rfl (qI (qJ ?_));have HR:HS h la [qB 48 4 tE.results.length rv (tE.results.flatMap Qr)]:=bN.sub (.cons e_2 (.drop (.drop (.drop .refl))));clear H9 eZ iE bN;refine jL (λc s h'=>∃j:Nat,s=(.int .i64 ((2*j+1:Nat):Int),rv,())∧j≤ls.length∧c=ls.length-j∧HS h h' [qB 48 4 tE.results.length rv (tE.results.flatMap Qr)])
   ?_ (m:=ls.length) (by show _<1000000000;omega) ⟨0,rfl,Nat.zero_le _,rfl,HR⟩
  clear HR;rintro c ih s Hc bG ⟨j,rfl,hj,rfl,H⟩;dsimp only;refine qo H (sz:=4) (n:=tE.results.length) (v:=rv) .here ?_;by_cases au:j<ls.length
  rotate_left
  ·exact jV omQ (qJ (qk (qG rfl)))
  refine jF omQ (qX (qW ?_))
  try dsimp only
  obtain⟨r,hr,DY,DR⟩:=bL j au;have e0:(tE.results.flatMap Qr)[(2*j+1)*4+0]? =some (.int .i64 r.kind):=RY hr omQ;have e2:(tE.results.flatMap Qr)[(2*j+1)*4+2]? =some (.str r.hX):=RY hr omQ;have SQ:=H.sl (v:=rv) (xs:=tE.results.flatMap Qr) .here;refine y4 SQ omQ omQ e0 ?_;refine qs DY (qd ?_);refine qW8 SQ omQ omQ e2 λbb off EA dF=>?_;refine Fq od ?_;rw[show((2*j+1:Nat):Int).tdiv ((2:Nat):Int)=(j:Int) by rw[Int.tdiv_eq_ediv_of_nonneg omQ];omega,V4 omQ];refine yM omQ ?_;refine vj od (Z2 omQ omQ H) ?_;rintro _ rJ ⟨rfl,DL⟩;have uY:Lib.decDigits j=r.hX:=by rw[DR];exact GU omQ
  rw[uY];refine qjH (qI ?_);refine LW (dF Hc _ _ SQ e2) (dF rJ _ _ (DL.sl (v:=rv) (xs:=tE.results.flatMap Qr) .here) e2) EA ?_;refine qJ (qb omQ ?_);exact bG (ls.length-(j+1)) _ _ omQ ⟨j+1,by congr 2,by omega,rfl,DL⟩
theorem told {h:AH} {l:List AV} (H:Dy Tryz.prog h 8 Tryz.f3.params.toList l):wp ((cG S3) (wC 4 (callT tab qx 60)) l h) λv _=>v=.bool true:=by
 have e:Tryz.f3.params.toList=[22,3,3]:=by kernel_rfl
 rw[e]at H;obtain⟨a0,a1,a2,rfl,H0,H1,H2⟩:=Fs H;simp only[tV,Tryz.underlying3,Tryz.underlying22]at H0 H1 H2;obtain⟨ns,SN,Aa⟩:=qzl Tryz.underlying22 Tryz.underlying5 (by kernel_rfl) H0;obtain⟨y1,e1,_⟩:=H1;obtain⟨y2,e2,_⟩:=H2;cases e1;cases e2;exact law omQ SN λx hx=>⟨(Aa x hx).1,Int.lt_of_le_of_lt (Aa x hx).2 od⟩
end topAgain
end Go.Proofs.YtefichdddddacaaGreatDoor
