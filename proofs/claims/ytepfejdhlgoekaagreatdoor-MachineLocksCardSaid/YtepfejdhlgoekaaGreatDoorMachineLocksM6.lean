/- Lemmas for 'quietus/quietuslaw28.MachineLocks': A new machine: by the program;The machine: plain: who holds a lock is at work: a commits step;The machine: plain: who holds a lock is at work: attempts, ... No condition. -/
import Derived.Test.YtepfejdhlgoekaaGreatDoorMachineLocksM5
import Derived.Test.YtepfejdhlgoekaaGreatDoorMachineLocksM4
import Derived.Test.YtepfejdhlgoekaaGreatDoorMachineLocksM2
namespace Go.Proofs.YtepfejdhlgoekaaGreatDoor
open Go Go.Ae
set_option maxRecDepth 100000
section
variable {g h:AH} {L R:List SP}
def Vi (S:zr) (k:Nat):zJ:=if k≤5 then yA S else(jg (yA S) (op0 2 5 14)).2
theorem qqS {S:zr} (O:xd S) {k:Nat} (hk:k<S.words.toNat):(K6 S.words)[k]? =some (if k=5 then 14 else 0):=by
 have h1:=O.words;have e:szZ S.words=S.words.toNat:=by unfold szZ;omega
 unfold K6;rw[e,List.getElem?_set,List.getElem?_replicate];by_cases c:k=5
 ·subst c;rw[iJ rfl,iJ rfl,List.length_replicate,iJ hk]
 ·rw[iQ (λh=>c h.symm),iQ c,iJ hk]
theorem XP {jss:List (List (List qO))} {i:Nat}:(((jss.take 4)[i]?).getD []:List (List qO))=if i<4 then(jss[i]?).getD []else[]:=by
 rw[List.getElem?_take]
 split<;>rfl
section
variable {n:Nat}
theorem qGN {s:zr} {jss:List (List (List qO))} {v:AV} (hn:16≤n) (hs:0≤s.start) (hj:∀js∈jss,js.length≤1000000∧∀l∈js,(zt l).2=0∧Quiet l) (hjl:jss.length≤1000) (H:HS g h (TsC jss v::R)) :
  t_w n 5 [.agg (xM s),v] h λr h'=>∃b,r=.ptr b 0∧HS g h' (MacC b (OD s jss)::TsC jss v::R):=by
 refine t_e2 (S:=S5) rfl omQ λk hk=>?_;unfold S5;try simp only[iZ]
 obtain⟨vs,hvl,H⟩:=TsC.E H;refine qI H rfl λb0 h1 H1=>?_;clear H;refine qi H1 (n:=jss.length) (v:=v) e_1 ?_;refine zZ ?_;rw[show min ((jss.length:Nat):Int) ((4:Nat):Int)=((min jss.length 4:Nat):Int) by omega];have hm4:min jss.length 4≤jss.length∧min jss.length 4≤4:=by omega
 have etk:(jss.take 4).length=min jss.length 4:=by rw[List.length_take];omega
 generalize hm:min jss.length 4=m at*;refine qZa (hi:=m) H1.drop .here omQ hm4.1 λv' SV=>?_;refine xC (SV.more.sl H1) ?_;refine qQ (qh ?_);refine qg H1 (b:=b0) .here (x:=.int .i64 (m:Int)) ⟨rfl,rfl⟩ (by show 3<8;omega) λh2 H2=>?_;have H2:HS g h2 (qk b0 (xM { s with threads:=((jss.take 4).length:Int) })::qA 55 1 jss.length v vs:: .all (List.zipWith (λv js=>JobsC js v) vs jss)::R):=by rw[etk];exact H2
 unfold OD;have so:xd (jz { s with threads:=((jss.take 4).length:Int) }):=yr hs;have hid:=kN so;dsimp only;refine qF H2 (b:=b0) (off:=0) .here rfl omQ (l:=xM { s with threads:=((jss.take 4).length:Int) }) rfl ?_;refine qW (UR omQ H2) ?_;rintro _ h3 ⟨rfl,H3⟩;refine qd H3 (b:=b0) .here rfl (by show 0+8≤8;omega) rfl λh4 H4=>?_;generalize jz { s with threads:=((jss.take 4).length:Int) }=S at*;have H4:HS g h4 (qk b0 (xM S)::qA 55 1 jss.length v vs:: .all (List.zipWith (λv js=>JobsC js v) vs jss)::R):=H4;clear H1 H2 H3;have q1:=so.words;have q3:=so.threads;refine qV ?_
 try dsimp only
 refine qF H4 (b:=b0) (off:=0) .here rfl omQ (l:=xM S) rfl ?_;refine qQ (qF H4 (b:=b0) (off:=0) .here rfl omQ (l:=QU S) rfl ?_);refine qW (qkO omQ so.start.1 H4) ?_;rw[hid];rintro _ h5 ⟨p,rfl,H5⟩
 let M0:QY:=⟨S,yA S,[],0,op0 0 0 0,false⟩
 refine qH (l:=Ji M0 p .nils) rfl ?_;refine qI H5 rfl λb h6 H6=>?_;have H7:HS g h6 (qk b (Ji M0 p .nils)::MemC p S (yA S)::qk b0 (xM S)::qA 55 1 jss.length v vs:: .all (List.zipWith (λv js=>JobsC js v) vs jss)::R):=H6;refine zA H4 .here rfl H5 e_1 rfl rfl omQ (HS.lt H4 .here) ?_
 try dsimp only
 clear H4 H5 H6;refine qQ (qh (qX H7 (b:=b0) e_2 (x:=.int .i64 S.words) rfl ?_));refine qW (qKH omQ H7) ?_;rintro wv h8 ⟨e,H8⟩;have ez:szZ S.words=S.words.toNat:=by unfold szZ;omega
 rw[ez]at H8;refine qi H8 (n:=S.words.toNat) (v:=wv) .here ?_;refine jw (λc q h'=>∃i:Nat,q=(.int .i64 (i:Int),.int .i64 ((S.words.toNat:Nat):Int),wv,.ptr b 0,.ptr b0 0,v',())∧i≤S.words.toNat∧c=S.words.toNat-i∧HS g h' (qA e 1 S.words.toNat wv ((K6 S.words).map (.int .u64))::qk b (Ji M0 p .nils)::MemC p S (Vi S i)::qk b0 (xM S)::qA 55 1 jss.length v vs:: .all (List.zipWith (λv js=>JobsC js v) vs jss)::R))
  ?_ (m:=S.words.toNat) (by show _<1000000000;omega) ⟨0,rfl,Nat.zero_le _,rfl,H8⟩
 clear H7 H8;rintro c ih q h9 hih ⟨i,rfl,hi,rfl,H⟩;dsimp only;by_cases hlt:i<S.words.toNat
 ·refine jB omQ (qZ ?_);refine qV ?_
  try dsimp only
  have hf:=qqS so hlt;refine jI (H.sl .here) (x:=.int .u64 (if i=5 then 14 else 0)) (by rw[List.getElem?_map,hf];rfl) ?_;by_cases c5:i=5
  ·subst c5;refine qu od (qZ ?_);refine qG (qQ (qX H (b:=b) e_1 (x:=.ptr p 0) rfl ?_));refine qH (l:=yX (op0 2 5 14)) rfl ?_;refine qW (qjN (o:=op0 2 5 14) omQ ⟨Int.le_refl _,by show(0:Int)<1000000000;decide⟩ (H.sel (P:=MemC p S (yA S)) e_2)) ?_;rintro _ h10 ⟨rfl,HA⟩;refine qb omQ ?_;exact hih (S.words.toNat-(5+1)) _ _ omQ ⟨5+1,rfl,by omega,rfl,HA.sub (.cons e_1 (.cons e_1 (.cons .here .refl)))⟩
  ·rw[iQ c5];refine q8 rfl (qJ ?_);refine qb omQ ?_;have em:Vi S (i+1)=Vi S i:=by
    unfold Vi;by_cases h5:i<5
    ·rw[iJ omQ,iJ omQ]
    ·rw[iQ omQ,iQ omQ]
   exact hih (S.words.toNat-(i+1)) _ _ omQ ⟨i+1,rfl,by omega,rfl,by rw[em];exact H⟩
 ·obtain rfl:i=S.words.toNat:=by omega
  refine jK omQ (qJ ?_);have em:Vi S S.words.toNat=(jg (yA S) (op0 2 5 14)).2:=by unfold Vi;rw[iQ omQ]
  rw[em]at H
  replace H:=H.drop
  clear hih ih;generalize(jg (yA S) (op0 2 5 14)).2=M5 at*
  let T:Nat→List jJ:=λk=>(List.range k).map λi:Nat=>VV i S (((jss.take 4)[i]?).getD [])
  have hTl:∀k,(T k).length=k:=λk=>by show((List.range k).map _).length=k;rw[List.length_map,List.length_range]
  refine qQ (qh (qX H (b:=b0) e_2 (x:=.int .i64 S.threads) rfl ?_));rw[show S.threads=((S.threads.toNat:Nat):Int) by omega];have q0:HS g h9 (MacC b ⟨S,M5,T 0,0,op0 0 0 0,false⟩::qk b0 (xM S)::qA 55 1 jss.length v vs:: .all (List.zipWith (λv js=>JobsC js v) vs jss)::R):=by have N1:=HS.allI (A:=[]) H;have N2:=N1.nils (e:=78) (sz:=1);exact MacC.I (m:=⟨S,M5,T 0,0,op0 0 0 0,false⟩) (p:=p) (tv:=.nils) (ps:=[]) rfl (N2.sub (.cons e_2 (.cons .here (.cons e_1 (.cons .here .refl)))))
  clear H;refine jw (λc q h'=>∃i:Nat,q=(.int .i64 (i:Int),.int .i64 ((S.threads.toNat:Nat):Int),.ptr b 0,.ptr b0 0,v',())∧i≤S.threads.toNat∧c=S.threads.toNat-i∧HS g h' (MacC b ⟨S,M5,T i,0,op0 0 0 0,false⟩::qk b0 (xM S)::qA 55 1 jss.length v vs:: .all (List.zipWith (λv js=>JobsC js v) vs jss)::R))
   ?_ (m:=S.threads.toNat) (by show _<1000000000;omega) ⟨0,rfl,Nat.zero_le _,rfl,q0⟩
  clear q0;rintro c ih q h10 hih ⟨i,rfl,hi,rfl,H⟩;dsimp only;by_cases hlt:i<S.threads.toNat
  ·refine jB omQ (qZ ?_)
   refine jd [] (λz h'=>∃(jv:AV) (B:List SP),z=(.int .i64 (i:Int),.int .i64 ((S.threads.toNat:Nat):Int),jv,.int .i64 (i:Int),.ptr b 0,.ptr b0 0,v',())∧
     HS g h' (JobsC (((jss.take 4)[i]?).getD []) jv::MacC b ⟨S,M5,T i,0,op0 0 0 0,false⟩::qk b0 (xM S)::qA 55 1 jss.length v vs:: .all B::R)∧
     (∀{h'':AH} {L:List SP},HS g h'' (JobsC (((jss.take 4)[i]?).getD []) jv:: .all B::L)→HS g h'' (.all (List.zipWith (λv js=>JobsC js v) vs jss)::L))) (λj hj=>?_) ?_
   ·refine xC (SV.more.more.sl H) ?_;by_cases him:i<m
    ·have hij:i<jss.length:=by omega
     have hiv:i<vs.length:=by omega
     have ej:((jss.take 4)[i]?).getD []=jss[i]:=by rw[XP,iJ omQ,iW hij];rfl
     have hz:(List.zipWith (λv js=>JobsC js v) vs jss)[i]? =some (JobsC jss[i] vs[i]):=by rw[List.getElem?_zipWith,iW hiv,iW hij]
     refine jB omQ (qZ ?_);refine jI (SV.more.more.sl H) (x:=vs[i]) (by rw[Nat.mul_one,List.getElem?_take_of_lt him,iW hiv]) ?_;rw[ej]at hj;refine hj _ _ ⟨vs[i],(List.zipWith (λv js=>JobsC js v) vs jss).eraseIdx i,rfl,?_,λH=>HS.allUn (Nm hz) H⟩;have H1:=HS.allSel (Nm hz) (H.sel (P:=.all (List.zipWith (λv js=>JobsC js v) vs jss)) e_3);exact H1.sub (.cons .here (.cons e_1 (.cons e_1 (.cons e_1 (.cons .here .refl)))))
    ·have ej:((jss.take 4)[i]?).getD []=[]:=by
      rw[XP]
      split
      ·rw[List.getElem?_eq_none omQ];rfl
      ·rfl
     refine jK omQ (qJ ?_);rw[ej]at hj;refine hj _ _ ⟨.nils,List.zipWith (λv js=>JobsC js v) vs jss,rfl,?_,λH=>H.drop⟩;exact JobsC.I (js:=[]) (v:=.nils) (vs:=[]) rfl ((HS.allI (A:=[]) H).nils)
   ·clear H;rintro _ h11 ⟨jv,B,rfl,H,back⟩;dsimp only;refine qV ?_
    try dsimp only
    have hjj:∀l∈(((jss.take 4)[i]?).getD []),(zt l).2=0∧Quiet l:=λl hl=>by
     rw[XP]at hl
     split at hl
     ·cases hx:jss[i]? with
      |none=>rw[hx]at hl;cases hl
      |some js=>rw[hx]at hl;exact(hj js (List.mem_of_getElem? hx)).2 l hl
     ·cases hl
    have hjl':(((jss.take 4)[i]?).getD []).length≤1000000:=by
     rw[XP]
     split
     ·cases hx:jss[i]? with
      |none=>exact Nat.zero_le _
      |some js=>exact(hj js (List.mem_of_getElem? hx)).1
     ·exact Nat.zero_le _
    have eT:T (i+1)=T i++[VV i S (((jss.take 4)[i]?).getD [])]:=by show(List.range (i+1)).map _=(List.range i).map _++_;rw[List.range_succ,List.map_append];rfl
    generalize((jss.take 4)[i]?).getD []=js at*;obtain⟨p',tv,ps,hpl,HU⟩:=MacC.E (H.sel (P:=MacC b ⟨S,M5,T i,0,op0 0 0 0,false⟩) e_1);have hpl:ps.length=i:=by rw[hpl];exact hTl i
    have HU:HS g h11 (qk b (Ji ⟨S,M5,T i,0,op0 0 0 0,false⟩ p' tv)::qA 78 1 i tv (Jq ps)::MemC p' S M5:: .all (gi ps (T i))::JobsC js jv::qk b0 (xM S)::qA 55 1 jss.length v vs:: .all B::R):=by have:=HU;unfold Vv at this;rw[show(⟨S,M5,T i,0,op0 0 0 0,false⟩:QY).t.length=i from hTl i]at this;exact this
    refine qG (qQ (qX HU (b:=b) .here (x:=tv) rfl ?_));refine qF HU (b:=b0) (off:=0) e_5 rfl omQ (l:=xM S) rfl ?_;have HV:HS g h11 (JobsC js jv::qk b (Ji ⟨S,M5,T i,0,op0 0 0 0,false⟩ p' tv)::qA 78 1 i tv (Jq ps)::MemC p' S M5:: .all (gi ps (T i))::qk b0 (xM S)::qA 55 1 jss.length v vs:: .all B::R):=HU.sel e_4;refine qW (qQt (me:=(i:Int)) (s:=S) (js:=js) omQ omQ so.start.1 hjj hjl' HV) ?_;rintro _ h12 ⟨tb,rfl,HW⟩;refine qe (n:=1) (l:=[.ptr tb 0]) (sz:=1) HW rfl rfl rfl rfl λv2 h13 HX=>?_;refine jR (HX.sel (P:=qA 78 1 i tv (Jq ps)) e_4) (HX.sl .here) omQ omQ rfl λv3 h14 HY=>?_;have o3:=HY.one .here;refine qG (qQ ?_);refine qg HY (b:=b) e_4 o3 (by simp[Ji]) λh15 HZ=>?_;refine qU HU .here rfl HW e_2 rfl (HS.lt HU .here) ?_
    try dsimp only
    refine qb omQ ?_;refine hih (S.threads.toNat-(i+1)) _ _ omQ ⟨i+1,rfl,by omega,rfl,?_⟩;have eb:gi (ps++[tb]) (T (i+1))=gi ps (T i)++[ThdC tb (VV i S js)]:=by unfold gi;rw[eT,List.zipWith_append (by rw[hpl];exact(hTl i).symm)];rfl
    have ep:Jq (ps++[tb])=Jq ps++[.ptr tb 0]:=by unfold Jq;rw[List.map_append];rfl
    have B1:=Y5 (A:=gi ps (T i)) (B:=[ThdC tb (VV i S js)]) (HZ.sub (.cons e_6 (.cons e_3 .refl)))
    have B2:=MacC.I (b:=b) (p:=p') (tv:=v3) (m:=⟨S,M5,T (i+1),0,op0 0 0 0,false⟩) (ps:=ps++[tb]) (by rw[List.length_append,hpl];exact(hTl (i+1)).symm) (by
     unfold Vv;rw[show(⟨S,M5,T (i+1),0,op0 0 0 0,false⟩:QY).t=T (i+1)from rfl,eb,ep,hTl (i+1)]
     exact B1.sub (.cons e_1 (.cons e_1 (.cons e_3 (.cons .here .refl)))))
    exact HS.sub (back (B2.sub (.cons e_2 (.cons e_4 .refl)))) (.cons e_1 (.cons e_2 (.cons e_2 (.cons .here (.drop .refl)))))
  ·obtain rfl:i=S.threads.toNat:=by omega
   refine jK omQ (qJ ?_);refine qx (qq ⟨b,rfl,?_⟩);refine HS.unsel e_1 (TsC.I hvl (H.sub (.cons e_2 (.cons e_2 (.cons .here (.drop .refl))))))
end
end
section
structure gu (S:zr) (M:zJ):Prop where
  w:(M.w.length:Int)=S.words
  l:(M.l.length:Int)=S.stripes
  n:0≤M.n∧M.n<4611686018427387904
  lk:∀j,0≤j→j<S.stripes→kj (jF M.l j)∧(jF M.l j).1≤M.n
structure Xp (S:zr) (n:Int) (c:zX) (me:Int):Prop where
  me:c.me=me
  ok:zS c
  s:∀z∈c.s,0≤z∧z<S.stripes
  seen:∀y∈c.seen,0≤y.1∧y.1<S.stripes
  cells:∀q∈c.cells,1≤q.1∧q.1<S.words
  was:∀w∈c.was,w.2=(false,0)∧w.1≤n
  s1:c.state=1→c.lk.2=(false,0)∧c.lk.1≤n
  s3:c.state=3→c.now<4611686018427387903
  s4:4≤c.state→c.state≤6→c.now+1≤n
def holds (c:zX) (j:Int):Prop:=∃k:Nat,c.s[k]? =some j∧k<c.was.length∧(6≤c.state→c.at_≤k)
variable {S:zr} {M:zJ} {c d:zX} {me:Int}
structure Kp (c d:zX):Prop where
  me:d.me=c.me
  s:d.s=c.s
  seen:d.seen=c.seen
  cells:d.cells=c.cells
  was:d.was=c.was
  now:d.now=c.now
  h:d.state<6∨d.at_=0
  f:d.p.fin≠0→c.was=[]
  st:d.state=7∨d.state=c.state∨(3≤c.state∧4≤d.state)
theorem Kp.holds (K:Kp c d) {j:Int} (h:holds c j):d.p.fin=0∧holds d j:=by
 obtain⟨k,h1,h2,_⟩:=h;refine⟨?_,k,by rw[K.s];exact h1,by rw[K.was];exact h2,λh6=>?_⟩
 ·by_cases hf:d.p.fin=0
  ·exact hf
  ·rw[K.f hf]at h2;cases h2
 ·have:=K.h;omega
theorem Kp.trans {e:zX} (a:Kp c d) (b:Kp d e) (h4:3≤c.state→3≤d.state) (ha:d.p.fin=0) (h7:d.state≠7): Kp c e :=
 ⟨b.me.trans a.me,b.s.trans a.s,b.seen.trans a.seen,b.cells.trans a.cells,b.was.trans a.was,b.now.trans a.now,b.h,λh=>by rw[← a.was];exact b.f h,by
  have h1:=a.st;have h2:=b.st;omega⟩
theorem Xp.kp {n n':Int} (C:Xp S n c me) (K:Kp c d) (ok:zS d) (hn:n≤n') (h1:c.state≠1) (h3:3≤c.state→c.state≤4→c.now+1≤n') (h5:c.state≤4):Xp S n' d me :=
 ⟨K.me.trans C.me,ok,by rw[K.s];exact C.s,by rw[K.seen];exact C.seen,by rw[K.cells];exact C.cells,by rw[K.was];exact λw hw=>⟨(C.was w hw).1,Int.le_trans (C.was w hw).2 hn⟩,
  λh=>(by have:=K.st;omega),λh=>(by rw[K.now];refine C.s3 ?_;have:=K.st;omega),λh4 h6=>by rw[K.now];exact h3 (by have:=K.st;omega) h5⟩
theorem Kq {f e y:Int} (hp:c.p.fin=0):Kp c (vt c f e y):=by
 unfold vt yR
 split
 ·rename_i h;have h:(0:Int)=(c.was.length:Int):=h;exact⟨rfl,rfl,rfl,rfl,rfl,rfl,.inr rfl,λ_=>iA omQ,.inl rfl⟩
 ·exact⟨rfl,rfl,rfl,rfl,rfl,rfl,.inr rfl,λh=>absurd hp h,.inl rfl⟩
theorem waits_fin {p:JX} {l:LkM}:(jO p l).2.fin=p.fin:=by
 unfold jO
 split<;>rfl
theorem qZs {l:LkM} (hp:c.p.fin=0) (h6:c.state<6):Kp c (gH c l):=by
 unfold gH
 split
 ·exact⟨rfl,rfl,rfl,rfl,rfl,rfl,.inl h6,λh=>absurd (waits_fin.trans hp) h,.inr (.inl rfl)⟩
 ·have K:=Kq (c:={ c with p:=(jO c.p l).2 }) (f:=5) (e:=0) (y:=l.2.2) (waits_fin.trans hp);exact⟨K.me,K.s,K.seen,K.cells,K.was,K.now,K.h,K.f,K.st⟩
theorem Ut (hp:c.p.fin=0) (h3:3≤c.state) (hl:c.was.length=c.s.length):Kp c (vX c):=by
 unfold vX zG ym;have h5:∀d:zX,d={ c with writing:=true,at_:=0,state:=5 }→Kp c d:=λd e=>by
  subst e;exact⟨rfl,rfl,rfl,rfl,rfl,rfl,.inl (by show(5:Int)<6;decide),λh=>absurd hp h,.inr (.inr ⟨h3,by show(4:Int)≤5;decide⟩)⟩
 split
 ·split
  ·rename_i h;have h:(0:Int)=(c.s.length:Int):=h;exact⟨rfl,rfl,rfl,rfl,rfl,rfl,.inr rfl,λ_=>iA omQ,.inr (.inr ⟨h3,by show(4:Int)≤6;decide⟩)⟩
  ·exact⟨rfl,rfl,rfl,rfl,rfl,rfl,.inr rfl,λh=>absurd hp h,.inr (.inr ⟨h3,by show(4:Int)≤6;decide⟩)⟩
 ·exact h5 _ rfl
theorem qXh:∀(k:Nat) {c:zX},c.p.fin=0→3≤c.state→c.state<6→c.was.length=c.s.length→Kp c (yz { c with state:=4 } k):=by
 intro k
 induction k with
 |zero=>intro c hp h3 h6 hl;have K:=Ut (c:={ c with state:=4 }) hp (by show(3:Int)≤4;decide) hl;exact⟨K.me,K.s,K.seen,K.cells,K.was,K.now,K.h,K.f,by have:=K.st;show _∨_∨(3≤c.state∧_);have e:({ c with state:=4 }:zX).state=4:=rfl;rw[e]at this;unfold yz;omega⟩
 |succ k ih=>
  intro c hp h3 h6 hl;have kp4:Kp c { c with state:=4 }:=⟨rfl,rfl,rfl,rfl,rfl,rfl,.inl (by show(4:Int)<6;decide),λh=>absurd hp h,.inr (.inr ⟨h3,Int.le_refl _⟩)⟩;unfold yz
  split
  ·split
   ·exact kp4
   ·split
    ·exact kp4.trans (Kq hp) (λ_=>by show(3:Int)≤4;decide) hp (by show(4:Int)≠7;decide)
    ·have K:=ih (c:={ c with at_:=c.at_+1 }) hp h3 h6 hl;exact⟨K.me,K.s,K.seen,K.cells,K.was,K.now,K.h,K.f,K.st⟩
  ·exact kp4.trans (Ut hp (by show(3:Int)≤4;decide) hl) (λ_=>by show(3:Int)≤4;decide) hp (by show(4:Int)≠7;decide)
theorem OU (hp:c.p.fin=0) (h3:3≤c.state) (h6:c.state<6) (hl:c.was.length=c.s.length):Kp c (gM c):=qXh _ hp h3 h6 hl
structure qZN (S:zr) (M:zJ) (c:zX) (me:Int) (r:AnM×zJ) (d:zX):Prop where
  err:r.1.err=0
  ans:vW r.1
  mem:gu S r.2
  com:Xp S r.2.n d me
  n:M.n≤r.2.n∧r.2.n≤M.n+1
  held:∀j,0≤j→j<S.stripes→(jF r.2.l j).2.1=true→(jF r.2.l j=jF M.l j∧(holds c j→d.p.fin=0∧holds d j))∨((jF r.2.l j).2.2=me∧d.p.fin=0∧holds d j)
theorem qKs {ss:List Int} {k:Nat} (h:k<ss.length):qM ss (k:Int)=ss[k]:=by unfold qM;rw[Int.toNat_natCast,iW h];rfl
theorem gu.cnt (MO:gu S M) (k:Int):gu S { M with cnt:=k }:=⟨MO.w,MO.l,MO.n,MO.lk⟩
theorem gu.put (MO:gu S M) {z:Int} (h0:0≤z) (h1:z<S.stripes) {x:LkM} (hx:kj x) (hn:x.1≤M.n) (k:Int):gu S { M with l:=M.l.set z.toNat x,cnt:=k }:=by
 refine⟨MO.w,by show((M.l.set _ _).length:Int)=_;rw[List.length_set];exact MO.l,MO.n,λj j0 j1=>?_⟩;have:=MO.l;show kj (jF (M.l.set z.toNat x) j)∧(jF (M.l.set z.toNat x) j).1≤M.n;rw[qQB h0 j0 omQ]
 split
 ·exact⟨hx,hn⟩
 ·exact MO.lk j j0 j1
theorem qvh (MO:gu S M) {z:Int} (h0:0≤z) (h1:z<S.stripes):jg M (op0 3 z 0)=(⟨0,jF M.l z,false,0⟩,{ M with cnt:=M.cnt+1 }):=by have:=MO.l;exact KL (.inl rfl) (by unfold Y1;rw[iQ (by show¬(z<0∨(M.l.length:Int)≤z);omega)];rfl) rfl
theorem qvm (MO:gu S M) {z:Int} (h0:0≤z) (h1:z<S.stripes) {x:LkM} (hx:kj x):jg M ⟨5,z,0,0,lk0,x⟩=(an0,{ M with l:=M.l.set z.toNat x,cnt:=M.cnt+1 }):=by have:=MO.l;refine KL (M:=M) (N:={ M with l:=M.l.set z.toNat x }) (.inr (.inr rfl)) ?_ rfl;unfold Y1;rw[iQ (by show¬(z<0∨(M.l.length:Int)≤z);omega),iQ (by show¬(5:Int)=3;decide),iQ (λh=>h hx),iJ rfl]
theorem JC {w:Int} {l:LkM} {b:Bool} (h:0≤w∧w<18446744073709551616):vW ⟨w,l,b,0⟩:=h
theorem qgN (MO:gu S M) (C:Xp S M.n c me) (hm:0≤me∧me<4) (hp:c.p.fin=0):∃o,vm c=some o∧qZN S M c me (jg M o) (jo c (jg M o).1):=by
 have O:=C.ok;have hst:=O.st
 have nxt:vm c=(if c.state=0 then some (op0 3 (qM c.s c.was.length) 0)
   else if c.state=1 then some ⟨4,qM c.s c.was.length,0,0,c.lk,(c.lk.1,true,c.me)⟩
   else if c.state=2 then some (op0 6 0 0)
   else if c.state=3 then some ⟨7,0,c.now,c.now+1,lk0,lk0⟩
   else if c.state=4 then some (op0 3 (zg c.seen c.at_).1 0)
   else if c.state=5 then some (op0 2 (yf c.cells c.at_).1 (yf c.cells c.at_).2)
   else if c.state=6 then some ⟨5,qM c.s c.at_,0,0,lk0,(c.now+1,false,0)⟩
   else some ⟨5,qM c.s c.at_,0,0,lk0,jF c.was c.at_⟩):=by
  unfold vm;rw[iQ (λh'=>h' hp)]
 have at_s:∀k:Nat,k<c.s.length→∃z,c.s[k]? =some z∧qM c.s (k:Int)=z∧0≤z∧z<S.stripes:=λk hk=>⟨c.s[k],iW hk,qKs hk,C.s _ (List.getElem_mem hk)⟩
 have hnn:=MO.n;have same:∀{M':zJ} {d:zX},M'.l=M.l→Kp c d→∀j,0≤j→j<S.stripes→(jF M'.l j).2.1=true→(jF M'.l j=jF M.l j∧(holds c j→d.p.fin=0∧holds d j))∨((jF M'.l j).2.2=me∧d.p.fin=0∧holds d j) :=
  λhl K j _ _ _=>.inl ⟨by rw[hl],λh=>K.holds h⟩
 by_cases s0:c.state=0
 ·obtain⟨z,hz,hn,z0,z1⟩:=at_s _ (O.st0 hp omQ);refine⟨op0 3 z 0,by rw[nxt,iJ s0,hn],?_⟩;rw[qvh MO z0 z1];have hA:vW ⟨0,jF M.l z,false,0⟩:=JC omQ;have hk:=xL O hA;have et:jo c ⟨0,jF M.l z,false,0⟩=if(jF M.l z).2.1=true then gH c (jF M.l z)else{ c with lk:=jF M.l z,state:=1 }:=by
   rw[yJ hp rfl,iJ (.inl s0)];unfold wI;by_cases hh:(jF M.l z).2.1=true
   ·rw[iJ ⟨s0,hh⟩,iJ hh]
   ·rw[iQ (λh=>hh h.2),iJ s0,iQ hh]
  have hlk:=MO.lk z z0 z1;dsimp only;rw[et]at hk ⊢;by_cases hh:(jF M.l z).2.1=true
  ·rw[iJ hh]at hk ⊢;have K:=qZs (l:=jF M.l z) hp omQ;exact⟨rfl,hA,MO.cnt _,C.kp K hk (Int.le_refl _) omQ (λh=>by omega) omQ,⟨Int.le_refl _,by show M.n≤M.n+1;omega⟩,same rfl K⟩
  ·rw[iQ hh]at hk ⊢;have hf:(jF M.l z).2.1=false:=by simpa using hh
   refine⟨rfl,hA,MO.cnt _,⟨C.me,hk,C.s,C.seen,C.cells,C.was,λ_=>⟨?_,hlk.2⟩,λh=>(by cases h),λh=>absurd h (by show¬(4:Int)≤1;decide)⟩,⟨Int.le_refl _,by show M.n≤M.n+1;omega⟩,λj _ _ _=>.inl ⟨rfl,λh=>⟨hp,?_⟩⟩⟩
   ·have:=hlk.1;unfold kj at this;rw[iQ hh]at this;exact Prod.ext hf this.2
   ·obtain⟨k,h1,h2,_⟩:=h;exact⟨k,h1,h2,λh=>absurd h (by show¬(6:Int)≤1;decide)⟩
 by_cases s1:c.state=1
 ·have hk0:=O.st0 hp omQ;obtain⟨z,hz,hn,z0,z1⟩:=at_s _ hk0;obtain⟨l1,l2⟩:=C.s1 s1;have hl:=MO.l;refine⟨⟨4,z,0,0,c.lk,(c.lk.1,true,c.me)⟩,by rw[nxt,iQ s0,iJ s1,hn],?_⟩;have hx:kj (c.lk.1,true,c.me):=by rw[Mi,C.me];omega
  by_cases he:jF M.l z=c.lk
  ·have e:jg M ⟨4,z,0,0,c.lk,(c.lk.1,true,c.me)⟩=(⟨0,lk0,true,0⟩,{ M with l:=M.l.set z.toNat (c.lk.1,true,c.me),cnt:=M.cnt+1 }):=by
    refine KL (M:=M) (N:={ M with l:=M.l.set z.toNat (c.lk.1,true,c.me) }) (.inr (.inl rfl)) ?_ rfl;unfold Y1;rw[iQ (by show¬(z<0∨(M.l.length:Int)≤z);omega),iQ (by show¬(4:Int)=3;decide),iQ (λh=>h hx),iQ (by show¬(4:Int)=5;decide),iQ (λh=>h he)]
   rw[e];have hA:vW ⟨0,lk0,true,0⟩:=JC omQ;have hk:=xL O hA;have et:jo c ⟨0,lk0,true,0⟩=vy { c with was:=c.was++[c.lk] }:=by rw[yJ hp rfl,iJ (.inr s1)];unfold wI;rw[iQ (λh=>s0 h.1),iQ s0,iJ rfl]
   dsimp only;rw[et]at hk ⊢;have hst2:(vy { c with was:=c.was++[c.lk] }).state=0∨(vy { c with was:=c.was++[c.lk] }).state=2:=by
    unfold vy;dsimp only
    split
    ·exact .inr rfl
    ·exact .inl rfl
   have hw:(vy { c with was:=c.was++[c.lk] }).was=c.was++[c.lk]:=rfl;refine⟨rfl,hA,MO.put z0 z1 hx l2 _,⟨C.me,hk,C.s,C.seen,C.cells,λw hw=>?_,λh=>omQ,λh=>omQ,λh=>by omega⟩,⟨Int.le_refl _,by show M.n≤M.n+1;omega⟩,λj j0 j1 hj=>?_⟩
   ·rcases List.mem_append.1 hw with hw |hw
    ·exact C.was w hw
    ·rw[List.mem_singleton.1 hw];exact⟨l1,l2⟩
   ·have grow:∀{j},holds c j→holds (vy { c with was:=c.was++[c.lk] }) j:=λ⟨k,h1,h2,_⟩=>⟨k,h1,by rw[hw,List.length_append];omega,λh=>by omega⟩;have hj':(jF (M.l.set z.toNat (c.lk.1,true,c.me)) j).2.1=true:=hj;rw[show(({ M with l:=M.l.set z.toNat (c.lk.1,true,c.me),cnt:=M.cnt+1 }:zJ)).l=M.l.set z.toNat (c.lk.1,true,c.me)from rfl];rw[qQB z0 j0 omQ]at hj' ⊢;by_cases ej:z=j
    ·subst ej;rw[iJ rfl];exact .inr ⟨C.me,hp,c.was.length,hz,by rw[hw];simp,λh=>by omega⟩
    ·rw[iQ ej];exact .inl ⟨rfl,λh=>⟨hp,grow h⟩⟩
  ·have e:jg M ⟨4,z,0,0,c.lk,(c.lk.1,true,c.me)⟩=(an0,{ M with cnt:=M.cnt+1 }):=by
    refine KL (M:=M) (N:=M) (.inr (.inl rfl)) ?_ rfl;unfold Y1;rw[iQ (by show¬(z<0∨(M.l.length:Int)≤z);omega),iQ (by show¬(4:Int)=3;decide),iQ (λh=>h hx),iQ (by show¬(4:Int)=5;decide),iJ he]
   rw[e];have hA:vW an0:=JC omQ;have hk:=xL O hA;have et:jo c an0={ c with state:=0 }:=by rw[yJ hp rfl,iJ (.inr s1)];unfold wI;rw[iQ (λh=>s0 h.1),iQ s0,iQ (by show¬false=true;decide)]
   dsimp only;rw[et]at hk ⊢;refine⟨rfl,hA,MO.cnt _,⟨C.me,hk,C.s,C.seen,C.cells,C.was,λh=>(by cases h),λh=>(by cases h),λh=>absurd h (by show¬(4:Int)≤0;decide)⟩,⟨Int.le_refl _,by show M.n≤M.n+1;omega⟩,λj _ _ _=>.inl ⟨rfl,λ⟨k,h1,h2,_⟩=>⟨hp,k,h1,h2,λh=>absurd h (by show¬(6:Int)≤0;decide)⟩⟩⟩
 by_cases s2:c.state=2
 ·refine⟨op0 6 0 0,by rw[nxt,iQ s0,iQ s1,iJ s2],?_⟩;have e:jg M (op0 6 0 0)=(⟨M.n,lk0,false,0⟩,{ M with cnt:=M.cnt+1 }):=NP (.inl rfl) rfl rfl;rw[e];have hA:vW ⟨M.n,lk0,false,0⟩:=JC omQ;have hk:=xL O hA;have et:jo c ⟨M.n,lk0,false,0⟩=if 4611686018427387903≤M.n then vt c 4 7 (-1)else{ c with now:=M.n,state:=3 }:=by
   rw[yJ hp rfl,iQ omQ,iJ (.inl s2)];unfold vR;by_cases hc:4611686018427387903≤M.n
   ·rw[iJ ⟨s2,hc⟩,iJ hc]
   ·rw[iQ (λh=>hc h.2),iJ s2,iQ hc]
  dsimp only;rw[et]at hk ⊢;by_cases hc:4611686018427387903≤M.n
  ·rw[iJ hc]at hk ⊢;have K:=Kq (f:=4) (e:=7) (y:=-1) hp;exact⟨rfl,hA,MO.cnt _,C.kp K hk (Int.le_refl _) omQ (λh=>by omega) omQ,⟨Int.le_refl _,by show M.n≤M.n+1;omega⟩,same rfl K⟩
  ·rw[iQ hc]at hk ⊢;exact⟨rfl,hA,MO.cnt _,⟨C.me,hk,C.s,C.seen,C.cells,C.was,λh=>(by cases h),λ_=>(by show M.n<_;omega),λh=>absurd h (by show¬(4:Int)≤3;decide)⟩,⟨Int.le_refl _,by show M.n≤M.n+1;omega⟩,λj _ _ _=>.inl ⟨rfl,λ⟨k,h1,h2,_⟩=>⟨hp,k,h1,h2,λh=>absurd h (by show¬(6:Int)≤3;decide)⟩⟩⟩
 by_cases s3:c.state=3
 ·have hnow:=C.s3 s3;have hn0:0≤c.now:=by have:=O.ar;unfold zQ at this;omega
  have hwl:=(O.st3 omQ omQ).1;refine⟨⟨7,0,c.now,c.now+1,lk0,lk0⟩,by rw[nxt,iQ s0,iQ s1,iQ s2,iJ s3],?_⟩;by_cases hq:M.n=c.now
  ·have e:jg M ⟨7,0,c.now,c.now+1,lk0,lk0⟩=(⟨0,lk0,true,0⟩,{ M with n:=c.now+1,cnt:=M.cnt+1 }):=by
    refine NP (M:=M) (N:={ M with n:=c.now+1 }) (.inr rfl) ?_ rfl;unfold Jy;rw[iQ (by show¬(7:Int)=6;decide),iQ (by show¬c.now+1≤c.now;omega),iQ (by show¬4611686018427387904≤c.now+1;omega),iQ (λh=>h hq)]
   rw[e];have hA:vW ⟨0,lk0,true,0⟩:=JC omQ;have hk:=xL O hA;have et:jo c ⟨0,lk0,true,0⟩=if c.now=c.stamp then vX c else gM c:=by rw[yJ hp rfl,iQ omQ,iJ (.inr s3)];unfold vR;rw[iQ (λh=>s2 h.1),iQ s2,iQ (by show¬true=false;decide)]
   dsimp only;rw[et]at hk ⊢;have K:Kp c (if c.now=c.stamp then vX c else gM c):=by
    split
    ·exact Ut hp omQ hwl
    ·exact OU hp omQ omQ hwl
   exact⟨rfl,hA,⟨MO.w,MO.l,by show 0≤c.now+1∧c.now+1<_;omega,λj a b=>⟨(MO.lk j a b).1,by have:=(MO.lk j a b).2;show(jF M.l j).1≤c.now+1;omega⟩⟩,C.kp K hk (by show M.n≤c.now+1;omega) omQ (λ_ _=>Int.le_refl _) omQ,⟨by show M.n≤c.now+1;omega,by show c.now+1≤M.n+1;omega⟩,same rfl K⟩
  ·have e:jg M ⟨7,0,c.now,c.now+1,lk0,lk0⟩=(an0,{ M with cnt:=M.cnt+1 }):=by
    refine NP (M:=M) (N:=M) (.inr rfl) ?_ rfl;unfold Jy;rw[iQ (by show¬(7:Int)=6;decide),iQ (by show¬c.now+1≤c.now;omega),iQ (by show¬4611686018427387904≤c.now+1;omega),iJ hq]
   rw[e];have hA:vW an0:=JC omQ;have hk:=xL O hA;have et:jo c an0={ c with state:=2 }:=by rw[yJ hp rfl,iQ omQ,iJ (.inr s3)];unfold vR;rw[iQ (λh=>s2 h.1),iQ s2,iJ (by show false=false;rfl)]
   dsimp only;rw[et]at hk ⊢;exact⟨rfl,hA,MO.cnt _,⟨C.me,hk,C.s,C.seen,C.cells,C.was,λh=>(by cases h),λh=>(by cases h),λh=>absurd h (by show¬(4:Int)≤2;decide)⟩,⟨Int.le_refl _,by show M.n≤M.n+1;omega⟩,λj _ _ _=>.inl ⟨rfl,λ⟨k,h1,h2,_⟩=>⟨hp,k,h1,h2,λh=>absurd h (by show¬(6:Int)≤2;decide)⟩⟩⟩
 by_cases s4:c.state=4
 ·have hwl:=(O.st3 omQ omQ).1;have hat:=O.st4 hp s4;have hlo:=O.lo;have hz:0≤(zg c.seen c.at_).1∧(zg c.seen c.at_).1<S.stripes:=by
   refine C.seen _ ?_;unfold zg;rw[iW (show c.at_.toNat<c.seen.length by omega)];exact List.getElem_mem _
  refine⟨op0 3 (zg c.seen c.at_).1 0,by rw[nxt,iQ s0,iQ s1,iQ s2,iQ s3,iJ s4],?_⟩;rw[qvh MO hz.1 hz.2];generalize jF M.l (zg c.seen c.at_).1=l;have hA:vW ⟨0,l,false,0⟩:=JC omQ;have hk:=xL O hA;have et:jo c ⟨0,l,false,0⟩=yd c l:=by rw[yJ hp rfl,iQ omQ,iQ omQ,iJ s4]
  dsimp only;rw[et]at hk ⊢;have K:Kp c (yd c l):=by
   unfold yd
   split
   ·exact qZs hp omQ
   ·split
    ·exact Kq hp
    ·have K:=OU (c:={ c with at_:=c.at_+1 }) hp (by show 3≤c.state;omega) (by show c.state<6;omega) hwl;exact⟨K.me,K.s,K.seen,K.cells,K.was,K.now,K.h,K.f,K.st⟩
  exact⟨rfl,hA,MO.cnt _,C.kp K hk (Int.le_refl _) omQ (λh _=>C.s4 omQ omQ) omQ,⟨Int.le_refl _,by show M.n≤M.n+1;omega⟩,same rfl K⟩
 by_cases s5:c.state=5
 ·have hat:=O.st5 hp s5;have hlo:=O.lo;have hwl:c.was.length=c.s.length:=by have:=O.ar;unfold zQ at this;omega
  have hz:1≤(yf c.cells c.at_).1∧(yf c.cells c.at_).1<S.words:=by refine C.cells _ ?_;unfold yf;rw[iW (show c.at_.toNat<c.cells.length by omega)];exact List.getElem_mem _
  have hw:=MO.w;refine⟨op0 2 (yf c.cells c.at_).1 (yf c.cells c.at_).2,by rw[nxt,iQ s0,iQ s1,iQ s2,iQ s3,iQ s4,iJ s5],?_⟩;generalize yf c.cells c.at_=q at hz;have e:jg M (op0 2 q.1 q.2)=(an0,{ M with w:=M.w.set q.1.toNat q.2,cnt:=M.cnt+1 }):=by refine qXO (M:=M) (N:={ M with w:=M.w.set q.1.toNat q.2 }) (.inr rfl) ?_ rfl;unfold UF;rw[iQ (by show¬(q.1<1∨(M.w.length:Int)≤q.1);omega),iQ (by show¬(2:Int)=1;decide)];rfl
  rw[e];have hA:vW an0:=JC omQ;have hk:=xL O hA;have et:jo c an0=zG { c with at_:=c.at_+1 }:=by rw[yJ hp rfl,iQ omQ,iQ omQ,iQ omQ,iJ s5]
  dsimp only;rw[et]at hk ⊢;have hs4:=C.s4 omQ omQ;have K:∀{j},holds c j→(zG { c with at_:=c.at_+1 }).p.fin=0∧holds (zG { c with at_:=c.at_+1 }) j:=λ{j} ⟨k,h1,h2,_⟩=>by
   unfold zG ym
   split
   ·split
    ·rename_i h;have h:(0:Int)=(c.s.length:Int):=h;omega
    ·exact⟨hp,k,h1,h2,λ_=>(by show(0:Int)≤k;omega)⟩
   ·exact⟨hp,k,h1,h2,λh=>absurd h (by show¬6≤c.state;omega)⟩
  have F:(zG { c with at_:=c.at_+1 }).me=c.me∧(zG { c with at_:=c.at_+1 }).s=c.s∧(zG { c with at_:=c.at_+1 }).seen=c.seen∧(zG { c with at_:=c.at_+1 }).cells=c.cells∧(zG { c with at_:=c.at_+1 }).was=c.was∧(zG { c with at_:=c.at_+1 }).now=c.now∧5≤(zG { c with at_:=c.at_+1 }).state:=by
   unfold zG ym
   split
   ·split
    ·exact⟨rfl,rfl,rfl,rfl,rfl,rfl,by show(5:Int)≤6;decide⟩
    ·exact⟨rfl,rfl,rfl,rfl,rfl,rfl,by show(5:Int)≤6;decide⟩
   ·exact⟨rfl,rfl,rfl,rfl,rfl,rfl,by show 5≤c.state;omega⟩
  generalize zG { c with at_:=c.at_+1 }=d at*;obtain⟨f1,f2,f3,f4,f5,f6,f7⟩:=F;refine⟨rfl,hA,⟨by show((M.w.set _ _).length:Int)=_;rw[List.length_set];exact hw,MO.l,MO.n,MO.lk⟩,⟨f1.trans C.me,hk,by rw[f2];exact C.s,by rw[f3];exact C.seen,by rw[f4];exact C.cells,by rw[f5];exact C.was,λh=>omQ,λh=>omQ,λ_ _=>by rw[f6];exact hs4⟩,⟨Int.le_refl _,by show M.n≤M.n+1;omega⟩,λj _ _ _=>.inl ⟨rfl,K⟩⟩
 have letgo:∀(z:Int) (k:Nat) (x:LkM) (d:zX),c.s[k]? =some z→0≤z→z<S.stripes→kj x→x.2.1=false→x.1≤M.n→c.at_=(k:Int)→6≤c.state→zS d→d.me=c.me→d.s=c.s→d.seen=c.seen→d.cells=c.cells→d.was=c.was→d.now=c.now→d.state=c.state→d.at_=c.at_+1→(d.p.fin≠0→c.was.length≤k+1)→
   qZN S M c me (an0,{ M with l:=M.l.set z.toNat x,cnt:=M.cnt+1 }) d:=λz k x d hz z0 z1 hx hxf hxn hak h6 hk g1 g2 g3 g4 g5 g6 g7 g8 g9=>by
  have hl:=MO.l;refine⟨rfl,JC omQ,MO.put z0 z1 hx hxn _,⟨g1.trans C.me,hk,by rw[g2];exact C.s,by rw[g3];exact C.seen,by rw[g4];exact C.cells,by rw[g5];exact C.was,λh=>omQ,λh=>omQ,λh1 h2=>by rw[g6];exact C.s4 omQ omQ⟩,⟨Int.le_refl _,by show M.n≤M.n+1;omega⟩,λj j0 j1 hj=>?_⟩;have hj':(jF (M.l.set z.toNat x) j).2.1=true:=hj;show(jF (M.l.set z.toNat x) j=jF M.l j∧_)∨_;rw[qQB z0 j0 omQ]at hj' ⊢;by_cases ej:z=j
  ·rw[iJ ej,hxf]at hj';cases hj'
  ·rw[iQ ej];refine .inl ⟨rfl,λ⟨q,h1,h2,h3⟩=>?_⟩;have h3:=h3 h6;have hne:q≠k:=λe=>by
    subst e;rw[hz]at h1;cases h1;exact ej rfl
   refine⟨?_,q,by rw[g2];exact h1,by rw[g5];exact h2,λ_=>by omega⟩;by_cases hf:d.p.fin=0
   ·exact hf
   ·have:=g9 hf;omega
 by_cases s6:c.state=6
 ·have hat:=O.st6 hp s6;have hlo:=O.lo;obtain⟨k,hk⟩:∃k:Nat,c.at_=k:=⟨c.at_.toNat,by omega⟩;obtain⟨z,hz,hn,z0,z1⟩:=at_s k omQ;have hs4:=C.s4 omQ omQ;have hnow:0≤c.now:=by have:=O.ar;unfold zQ at this;omega
  have hwl:c.was.length=c.s.length:=by have:=O.ar;unfold zQ at this;omega
  refine⟨⟨5,z,0,0,lk0,(c.now+1,false,0)⟩,by rw[nxt,iQ s0,iQ s1,iQ s2,iQ s3,iQ s4,iQ s5,iJ s6,hk,hn],?_⟩;have hx:kj (c.now+1,false,0):=by rw[Ul];omega
  rw[qvm MO z0 z1 hx];have hA:vW an0:=JC omQ;have hkk:=xL O hA;have et:jo c an0=ym { c with at_:=c.at_+1 }:=by rw[yJ hp rfl,iQ omQ,iQ omQ,iQ omQ,iQ omQ,iJ s6]
  dsimp only;rw[et]at hkk ⊢;refine letgo z k _ _ hz z0 z1 hx rfl hs4 hk omQ hkk ?_ ?_ ?_ ?_ ?_ ?_ ?_ ?_ ?_<;>unfold ym<;>split<;>first |rfl |skip
  ·rename_i h;have h:c.at_+1=(c.s.length:Int):=h;intro _;omega
  ·exact λh=>absurd hp h
 ·have s7:c.state=7:=by omega
  have hat:=O.st7 hp s7;have hlo:=O.lo;obtain⟨k,hk⟩:∃k:Nat,c.at_=k:=⟨c.at_.toNat,by omega⟩;have hwk:k<c.was.length:=by omega
  obtain⟨z,hz,hn,z0,z1⟩:=at_s k (by have:=O.was;omega);have hw:=C.was _ (List.getElem_mem hwk);have ew:jF c.was c.at_=c.was[k]:=by unfold jF;rw[hk,Int.toNat_natCast,iW hwk];rfl
  refine⟨⟨5,z,0,0,lk0,c.was[k]⟩,by rw[nxt,iQ s0,iQ s1,iQ s2,iQ s3,iQ s4,iQ s5,iQ s6,ew,hk,hn],?_⟩;have hx:kj c.was[k]:=by unfold kj;rw[hw.1];exact⟨by omega,by rw[iQ od]⟩
  rw[qvm MO z0 z1 hx];have hA:vW an0:=JC omQ;have hkk:=xL O hA;have et:jo c an0=yR { c with at_:=c.at_+1 }:=by rw[yJ hp rfl,iQ omQ,iQ omQ,iQ omQ,iQ omQ,iQ omQ]
  dsimp only;rw[et]at hkk ⊢;refine letgo z k _ _ hz z0 z1 hx (by rw[hw.1]) hw.2 hk omQ hkk ?_ ?_ ?_ ?_ ?_ ?_ ?_ ?_ ?_<;>unfold yR<;>split<;>first |rfl |skip
  ·rename_i h;have h:c.at_+1=(c.was.length:Int):=h;intro _;omega
  ·exact λh=>absurd hp h
end
section
variable {S:zr} {M:zJ} {x y:jY} {me n:Int}
theorem qXD {o:OpM} (h:o.kind=1∨o.kind=3∨o.kind=6∨o.kind=8∨o.kind=9):(jg M o).2.w=M.w∧(jg M o).2.l=M.l∧(jg M o).2.n=M.n:=by
 have key:∀r:AnM×zJ,r.2.w=M.w∧r.2.l=M.l∧r.2.n=M.n→(if r.1.err=0 then(r.1,{ r.2 with cnt:=r.2.cnt+1 })else r).2.w=M.w∧(if r.1.err=0 then(r.1,{ r.2 with cnt:=r.2.cnt+1 })else r).2.l=M.l∧(if r.1.err=0 then(r.1,{ r.2 with cnt:=r.2.cnt+1 })else r).2.n=M.n:=λr hr=>by
  split<;>exact hr
 unfold jg;refine key _ ?_;unfold UF Y1 Jy Zj;rcases h with h |h |h |h |h<;>rw[h]<;>simp only[reduceIte,Int.reduceEq,or_false,false_or,or_self,or_true,true_or]<;>(repeat' split)<;>simp
theorem gu.same {M':zJ} (MO:gu S M) (h:M'.w=M.w∧M'.l=M.l∧M'.n=M.n):gu S M' :=
 ⟨by rw[h.1];exact MO.w,by rw[h.2.1];exact MO.l,by rw[h.2.2];exact MO.n,by rw[h.2.1,h.2.2];exact MO.lk⟩
theorem Xp.mono {n':Int} {c:zX} (C:Xp S n c me) (h:n≤n'):Xp S n' c me :=
 ⟨C.me,C.ok,C.s,C.seen,C.cells,λw hw=>⟨(C.was w hw).1,Int.le_trans (C.was w hw).2 h⟩,λh1=>⟨(C.s1 h1).1,Int.le_trans (C.s1 h1).2 h⟩,C.s3,λa b=>Int.le_trans (C.s4 a b) h⟩
structure AttL0 (S:zr) (x:jY) (me:Int):Prop where
  me:x.me=me
  set:x.set=S
  r:∀y∈x.r,0≤y.1∧y.1<S.stripes
  inv:InV x.v
structure vE (S:zr) (n:Int) (x:jY) (i:Int):Prop extends AttL0 S x i where
  f:x.state=3→(0≤x.f.stripe∧x.f.stripe<S.stripes)∧x.f.p.fin=0
  c:x.state=6→∀c,x.c=some c→Xp S n c i∧c.p.fin=0
def JG (x:jY) (j:Int):Prop:=x.state=6∧∃c,x.c=some c∧c.p.fin=0∧holds c j
theorem vE.mono {n':Int} (L:vE S n x me) (h:n≤n'):vE S n' x me:=⟨L.toAttL0,L.f,λh6 c hc=>⟨(L.c h6 c hc).1.mono h,(L.c h6 c hc).2⟩⟩
theorem AttL0.out (L:AttL0 S x me) {f e z:Int}:vE S n (yF x f e z) me:=⟨⟨L.me,L.set,L.r,L.inv⟩,λh=>(by cases h),λh=>by cases h⟩
theorem AttL0.ask (SO:xd S) (L:AttL0 S x me) {p:Int} (hp:0≤p):vE S n (GN x p) me :=
 ⟨⟨L.me,L.set,L.r,L.inv⟩,λ_=>⟨(by show 0≤ofM p x.set.stripes x.set.wide∧ofM p x.set.stripes x.set.wide<S.stripes;rw[L.set];exact qG4 SO hp),rfl⟩,λh=>by cases h⟩
theorem AttL0.later (L:AttL0 S x me) {s:Int} (hs:s=4∨s=5):vE S n (Qe x s) me :=
 ⟨⟨L.me,L.set,L.r,L.inv⟩,λh=>(by have h:s=3:=h;omega),λh=>by have h:s=6:=h;omega⟩
theorem vE.stamped (L:vE S n x me):vE S n (zN x) me:=by
 unfold zN
 repeat' split
 all_goals exact⟨⟨L.me,L.set,L.r,L.inv⟩,L.f,L.c⟩
theorem KM:(zN x).state=x.state∧(zN x).c=x.c:=by
 unfold zN
 repeat' split
 all_goals exact⟨rfl,rfl⟩
theorem qxR (SO:xd S) {st:Int} {r:List xG} {cs:List Cl} {sp:Int} (hr:r.length≤16) (hr2:∀y∈r,0≤y.1∧y.1<S.stripes) (h0:cs≠[]) (hl:cs.length≤1000) (hc:∀q∈cs,1≤q.1∧q.1<S.words) :
  Xp S n (VY me sp st r cs S.stripes S.wide) me∧(VY me sp st r cs S.stripes S.wide).p.fin=0:=by
 have hs:∀z,(VY me sp st r cs S.stripes S.wide).state=z→z=0∨z=2:=λz h=>by
  unfold VY vy at h;dsimp only at h
  split at h<;>omega
 refine⟨⟨rfl,qqP hr (by have:=List.length_pos_iff.2 h0;omega) hl λc h=>by have:=hc c h;omega,λz hz=>?_,hr2,hc,λw hw=>(by cases hw),λh=>(by have:=hs _ h;omega),λh=>(by have:=hs _ h;omega),λh4 h6=>(by have:=hs _ rfl;omega)⟩,rfl⟩;have hz:z∈xA cs S.stripes S.wide:=hz;rw[J2 λc h=>by have:=hc c h;omega]at hz;obtain⟨c,hc1,rfl⟩:=List.mem_map.1 hz;exact qG4 SO (by have:=hc c hc1;omega)
theorem AttL0.work (SO:xd S) (B:ku x) (hj:JobOk True x.v x.job) (L:AttL0 S x me):vE S n (wE x) me:=by
 have D:=KF B.good B.fr hj;have hin:InV (yv x).2.v:=by rw[qWS];exact qWF L.inv
 have L':AttL0 S (yv x).2 me:=⟨D.same.1.trans L.me,D.same.2.1.trans L.set,by rw[D.same.2.2.1];exact L.r,hin⟩;have hsz:((yv x).2.v.sz:Int)=S.words:=by rw[D.kept.1,B.sz,L.set]
 have hm:=Ku D.good.1;unfold wE;generalize hd:(yv x).1=ke at*;generalize(yv x).2=d at*;unfold kg
 split
 ·rename_i h1;have:=(D.need h1).1;exact L'.ask SO omQ
 ·split
  ·exact AttL0.later (x:={ d with blocking:=true }) ⟨L'.me,L'.set,L'.r,L'.inv⟩ (.inr rfl)
  ·split
   ·exact L'.out
   ·split
    ·exact L'.out
    ·rename_i hne;have hr:d.r.length≤16:=by rw[D.same.2.2.1];exact B.r
     refine⟨⟨L'.me,L'.set,L'.r,L'.inv⟩,λh=>(by cases h),λ_ c hc=>?_⟩;cases hc;have e1:=L'.set;have e2:=L'.me;rw[e1,e2];refine qxR SO hr L'.r hne omQ λq hq=>?_;obtain⟨lv,h1,h2⟩:=U3 hq;have:=L'.inv lv h1 q h2;omega
theorem qzN {r:List xG} {s:xG} (h:∀y∈r,0≤y.1∧y.1<S.stripes) (hs:0≤s.1∧s.1<S.stripes):∀y∈(kz r s).2,0≤y.1∧y.1<S.stripes:=by
 unfold kz
 split
 ·exact h
 ·split
  ·split<;>exact h
  ·split
   ·exact h
   ·intro y hy;rcases List.mem_append.1 hy with hy |hy
    ·exact h y hy
    ·rw[List.mem_singleton.1 hy];exact hs
theorem qjs {V:VM} (h:InV V) {p w:Int}:InV (yC V p w).2:=by have:=kZ (V:=V) (p:=p) (x:=w);unfold InV;rw[this.1,this.2];exact h
theorem AttL0.fetched (SO:xd S) (B:ku x) (hj:JobOk True x.v x.job) (hw:0≤x.f.word∧x.f.word<18446744073709551616) (hs:0≤x.f.stripe∧x.f.stripe<S.stripes) (hr0:x.f.p.fin=2∨x.f.p.fin=6) (L:AttL0 S x me):vE S n (xP x) me:=by
 unfold xP
 split
 ·exact L.later (.inl rfl)
 ·rename_i h6;have hf:x.f.p.fin=2:=by omega
  have es:yW x.f=(x.f.stripe,x.f.lk.1):=by unfold yW;rw[iQ (λh=>h hf)]
  split
  ·have hwb:=XD hw;have k:=kZ (V:=x.v) (p:=x.v.need) (x:=xn x.f);refine AttL0.work SO (x:={ x with r:=(kz x.r (yW x.f)).2,v:=(yC x.v x.v.need (xn x.f)).2 }) ⟨B.set,XK B.good hwb,by rw[k.2];exact B.sz,by rw[k.1];exact B.fr,Y0 B.r,(hj.know (p:=x.v.need) hwb).dead not_false,B.c⟩ (hj.know (p:=x.v.need) hwb) ⟨L.me,L.set,?_,qjs L.inv⟩;exact qzN L.r (by rw[es];exact hs)
  ·split
   ·exact L.out
   ·exact L.out
structure qZ3 (S:zr) (M:zJ) (x:jY) (me:Int) (r:AnM×zJ) (y:jY):Prop where
  mem:gu S r.2
  lk:vE S r.2.n y me
  n:M.n≤r.2.n∧r.2.n≤M.n+1
  held:∀j,0≤j→j<S.stripes→(jF r.2.l j).2.1=true→(jF r.2.l j=jF M.l j∧(JG x j→JG y j))∨((jF r.2.l j).2.2=me∧JG y j)
theorem qxb {f:QN} {a:AnM} (hp:f.p.fin=0) (ha:a.err=0):(z6 f a).p.fin=0∨(z6 f a).p.fin=2∨(z6 f a).p.fin=5∨(z6 f a).p.fin=6:=by
 unfold z6;rw[O7 hp ha,iQ (λh=>by cases h)]
 split
 ·exact .inl hp
 ·split
  ·exact .inr (.inl rfl)
  ·unfold kc
   split
   ·split
    ·exact .inl (waits_fin.trans hp)
    ·exact .inr (.inr (.inl rfl))
   ·split
    ·exact .inr (.inr (.inr rfl))
    ·exact .inl hp
theorem qgn {f:QN} {a:AnM}:(z6 f a).stripe=f.stripe:=by
 unfold z6 kc
 repeat' split
 all_goals rfl
theorem qge (SO:xd S) (MO:gu S M) (O:zT x) (L:vE S M.n x me) (hm:0≤me∧me<4) (ha:∀o,yG x=some o→vW (jg M o).1) {o:OpM} (hn:yG x=some o):qZ3 S M x me (jg M o) (zV x (jg M o).1):=by
 have ha:=ha o hn;have hst:=O.st;by_cases h6:x.state=6
 ·--at its commit
  obtain⟨c,hc⟩:∃c,x.c=some c:=by
   cases h:x.c with
   |none=>exact absurd h (O.c6 h6)
   |some c=>exact⟨c,rfl⟩
  obtain⟨CL,hf⟩:=L.c h6 c hc;obtain⟨o',hno,K⟩:=qgN MO CL hm hf;have:o'=o:=by unfold yG at hn;rw[iQ omQ,iQ omQ,iQ omQ,iQ omQ,iQ omQ,iQ omQ,iJ h6,hc]at hn;have hn:vm c=some o:=hn;rw[hno]at hn;cases hn;rfl
  subst this;generalize jg M o'=r at*;have et:zV x r.1=vu { x with c:=some (jo c r.1) }:=by unfold zV;rw[iQ omQ,iQ (λh=>h K.err),iQ omQ,iQ omQ,iQ omQ,iQ omQ,iQ omQ,iJ h6,hc];rfl
  rw[et];generalize jo c r.1=d at*;have ef:yO { x with c:=some d }=(d.p.fin,d.p.by_):=by unfold yO;rw[iQ (by show¬x.state=3;omega),iJ (by show x.state=6;exact h6)]
  have LB:vE S r.2.n x me:=L.mono K.n.1;have out:∀f e z,vE S r.2.n (yF { x with c:=some d } f e z) me:=λf e z=>AttL0.out (x:={ x with c:=some d }) ⟨L.me,L.set,L.r,L.inv⟩;unfold vu;rw[ef];by_cases h0:d.p.fin=0
  ·rw[iJ h0];have hA:∀j,holds d j→JG (zN { x with c:=some d }) j:=λj h=>⟨KM.1.trans h6,d,KM.2,h0,h⟩;refine⟨K.mem,vE.stamped ⟨⟨L.me,L.set,L.r,L.inv⟩,L.f,λ_ e he=>?_⟩,K.n,λj j0 j1 hj=>?_⟩
   ·cases he;exact⟨K.com,h0⟩
   ·rcases K.held j j0 j1 hj with⟨h1,h2⟩ |⟨h1,_,h2⟩
    ·exact .inl ⟨h1,λ⟨_,e,he,_,hh⟩=>by rw[hc]at he;cases he;exact hA j (h2 hh).2⟩
    ·exact .inr ⟨h1,hA j h2⟩
  ·have none:∀z:jY,∀j,0≤j→j<S.stripes→(jF r.2.l j).2.1=true→(jF r.2.l j=jF M.l j∧(JG x j→JG z j))∨((jF r.2.l j).2.2=me∧JG z j):=λz j j0 j1 hj=>by
    rcases K.held j j0 j1 hj with⟨h1,h2⟩ |⟨_,h1,_⟩
    ·exact .inl ⟨h1,λ⟨_,e,he,_,hh⟩=>by rw[hc]at he;cases he;exact absurd (h2 hh).1 h0⟩
    ·exact absurd h1 h0
   rw[iQ h0]
   split
   ·exact⟨K.mem,(out ..).stamped,K.n,none _⟩
   ·unfold yg;rw[iQ (by show¬x.state=3;omega),iQ (by show¬x.state=4;omega),iQ (by show¬x.state=5;omega)];exact⟨K.mem,(out ..).stamped,K.n,none _⟩
 ·--elsewhere it writes nothing
  have hk:o.kind=1∨o.kind=3∨o.kind=6∨o.kind=8∨o.kind=9:=by
   unfold yG at hn
   split at hn
   ·cases hn;simp[op0]
   ·split at hn
    ·cases hn;simp[op0]
    ·split at hn
     ·cases hn;simp[op0]
     ·split at hn
      ·cases hn;simp[op0]
      ·split at hn
       ·cases hn
       ·split at hn
        ·unfold Y3 at hn
         split at hn
         ·cases hn
         ·split at hn<;>(cases hn;simp[op0])
        ·try rw[iQ h6]at hn
         unfold Y9 at hn
         split at hn
         ·cases hn
         ·split at hn<;>(cases hn;simp[op0])
  have e3:=qXD (M:=M) hk;have fin:∀y,vE S M.n y me→qZ3 S M x me (jg M o) y:=λy hy=>by
   refine⟨MO.same e3,by rw[e3.2.2];exact hy,by rw[e3.2.2];omega,λj _ _ _=>.inl ⟨by rw[e3.2.1],λh=>absurd h.1 h6⟩⟩
  refine fin _ ?_;generalize(jg M o).1=a at*;have G:∀(s:Int) (b:Bool) (z w fin err by_:Int),s≠3→s≠6→vE S M.n { x with state:=s,begun:=b,begin_:=z,stamp:=w,fin:=fin,err:=err,by_:=by_ } me:=λs b z w fin err by_ h1 h2=>⟨⟨L.me,L.set,L.r,L.inv⟩,λh=>absurd h h1,λh=>absurd h h2⟩;unfold zV
  split
  ·exact L
  ·split
   ·exact G 8 x.begun x.begin_ x.stamp 4 a.err (-1) od od
   ·rename_i herr;have herr:a.err=0:=by omega
    split
    ·exact G 1 x.begun x.begin_ x.stamp x.fin x.err x.by_ od od
    ·split
     ·exact G 2 true a.word a.word x.fin x.err x.by_ od od
     ·split
      ·rename_i h2;exact AttL0.work SO O.b (O.job.same λ_=>by omega) L.toAttL0
      ·split
       ·exact G 8 x.begun x.begin_ x.stamp x.fin x.err x.by_ od od
       ·split
        ·rename_i h3;have hf:=qxb (L.f h3).2 herr;have hfs:=qgn (f:=x.f) (a:=a);have hwd:=XS (O.f h3).2 ha;have B:=O.b;have hj:JobOk True x.v x.job:=O.job.same λ_=>by omega
         have hrange:=(L.f h3).1;generalize z6 x.f a=f at*;have LF:AttL0 S { x with f:=f } me:=⟨L.me,L.set,L.r,L.inv⟩;unfold vu;have ef:yO { x with f:=f }=(f.p.fin,f.p.by_):=by unfold yO;exact iJ h3
         rw[ef];refine vE.stamped ?_
         split
         ·rename_i hf0;exact⟨LF,λ_=>⟨by show 0≤f.stripe∧f.stripe<_;rw[hfs];exact hrange,hf0⟩,λh=>absurd h h6⟩
         ·rename_i hf0
          split
          ·exact LF.out
          ·rename_i hf5;unfold yg;rw[iJ (by show x.state=3;exact h3)];exact AttL0.fetched SO (x:={ x with f:=f }) ⟨B.set,B.good,B.sz,B.fr,B.r,B.job,B.c⟩ hj hwd (by show 0≤f.stripe∧f.stripe<_;rw[hfs];exact hrange) (by show f.p.fin=2∨f.p.fin=6;have hf0:¬f.p.fin=0:=hf0;have hf5:¬f.p.fin=5:=hf5;omega) LF
        ·rename_i h3;have LE:∀e z,AttL0 S { x with e:=e,stamp:=z } me:=λe z=>⟨L.me,L.set,L.r,L.inv⟩;have h8:x.state=4∨x.state=5:=by omega
         unfold vu;refine vE.stamped ?_
         split
         ·exact⟨LE _ x.stamp,λh=>absurd h h3,λh=>absurd h h6⟩
         ·split
          ·exact(LE _ x.stamp).out
          ·unfold yg;rw[iQ (by show¬x.state=3;exact h3)]
           split
           ·rename_i h4;have h4:x.state=4:=h4;have:=O.need omQ omQ;exact(LE _ _).ask SO (by show 0≤x.v.need;omega)
           ·rename_i h4;have h4:¬x.state=4:=h4;rw[iJ (by show x.state=5;omega)];exact(LE _ _).out
structure ThrLk (S:zr) (n:Int) (t:jJ) (i:Int):Prop where
  me:t.me=i
  set:t.set=S
  a:t.state=1→∀x,t.now=some x→vE S n x i
def yZ (t:jJ) (j:Int):Prop:=t.state=1∧∃x,t.now=some x∧JG x j
variable {t u:jJ} {i:Int}
theorem ThrLk.mono {n':Int} (L:ThrLk S n t i) (h:n≤n'):ThrLk S n' t i:=⟨L.me,L.set,λh1 x hx=>(L.a h1 x hx).mono h⟩
theorem qXL (SO:xd S) {j:Yx}:vE S n (qJA me S j) me :=
 ⟨⟨rfl,rfl,λy hy=>(by cases hy),λx hx c hc=>by
  have hx:x∈[([],[])]:=hx
  rw[List.mem_singleton.1 hx]at hc;cases hc⟩,λh=>(by cases h),λh=>by cases h⟩
structure NM (S:zr) (n:Int) (t:jJ) (i:Int):Prop extends ThrLk S n t i where
  no:∀j,¬yZ t j
theorem XM (SO:xd S) (h1:t.me=i) (h2:t.set=S):NM S n (zC t) i:=by
 have hS:jz t.set=S:=by rw[h2];exact kN SO
 unfold zC
 split
 ·exact⟨⟨h1,h2,λh=>by cases h⟩,λj h=>by cases h.1⟩
 ·refine⟨⟨h1,h2,λ_ x hx=>?_⟩,λj h=>?_⟩
  ·have hx:=Option.some.inj hx;subst hx
   split
   ·unfold kI;rw[hS,h1];exact qXL SO
   ·unfold QC;rw[hS,h1];exact qXL SO
  ·obtain⟨_,x,hx,h6,_⟩:=h;have hx:=Option.some.inj hx;subst hx
   split at h6
   ·cases h6
   ·cases h6
theorem JI (h1:t.me=i) (h2:t.set=S) (h:t.state≠1):NM S n t i:=⟨⟨h1,h2,λh'=>absurd h' h⟩,λj h'=>h h'.1⟩
theorem QD (SO:xd S) (h1:t.me=i) (h2:t.set=S):NM S n (zn t) i:=XM SO h1 h2
theorem qXA (SO:xd S) (h1:t.me=i) (h2:t.set=S) (draw:Int):NM S n (xk t draw) i:=by
 unfold xk
 split
 ·exact XM SO h1 h2
 ·exact JI h1 h2 (by show(3:Int)≠1;decide)
theorem qYn (SO:xd S) (h1:t.me=i) (h2:t.set=S) (h5:t.state≠1):NM S n (vj t) i:=by
 have key:∀u:jJ,u.me=i→u.set=S→u.state≠1→NM S n (vP u) i:=λu a b c=>by
  unfold vP
  split
  ·exact JI a b c
  ·split
   ·exact QD SO a b
   ·exact XM SO a b
 unfold vj
 split
 ·exact key _ h1 h2 h5
 ·exact key _ h1 h2 h5
theorem qj9 (SO:xd S) (h1:t.me=i) (h2:t.set=S) (draw pick:Int):NM S n (yU t x draw pick) i:=by
 unfold yU;dsimp only
 split
 ·split
  ·exact JI h1 h2 (by show(2:Int)≠1;decide)
  ·exact qXA (t:={ t with past:=t.past++[jH t x pick],tries:=t.tries+1,conf:=t.conf+1 }) SO h1 h2 _
 ·split
  ·split
   ·exact XM (t:={ t with past:=t.past++[jH t x pick],tries:=t.tries+1 }) SO h1 h2
   ·exact JI h1 h2 (by show(4:Int)≠1;decide)
  ·split
   ·unfold wU;refine QD SO ?_ ?_
    ·split<;>exact h1
    ·split<;>exact h2
   ·unfold QI
    split
    ·exact QD SO h1 h2
    ·exact qYn SO h1 h2 (by show(5:Int)≠1;decide)
theorem qWI (SO:xd S) (L:ThrLk S n t i) (h:t.state≠1):NM S n (zk t) i:=by
 unfold zk
 split
 ·split
  ·exact XM SO L.me L.set
  ·exact JI L.me L.set (by show t.state≠1;exact h)
 ·exact JI L.me L.set h
structure qxA (S:zr) (M:zJ) (t:jJ) (i:Int) (r:AnM×zJ) (u:jJ):Prop where
  mem:gu S r.2
  lk:ThrLk S r.2.n u i
  n:M.n≤r.2.n∧r.2.n≤M.n+1
  held:∀j,0≤j→j<S.stripes→(jF r.2.l j).2.1=true→(jF r.2.l j=jF M.l j∧(yZ t j→yZ u j))∨((jF r.2.l j).2.2=i∧yZ u j)
theorem qgf (SO:xd S) (MO:gu S M) (R:qQD M) (O:xF t) (W:ThrW t) (L:ThrLk S M.n t i) (hm:0≤i∧i<4) {o:OpM} (hn:yH t=some o) (draw pick:Int):qxA S M t i (jg M o) (z8 t (jg M o).1 draw pick):=by
 by_cases h1:t.state=1
 ·obtain⟨x,hx⟩:∃x,t.now=some x:=by
   cases h:t.now with
   |none=>exact absurd h (O.c omQ).some
   |some x=>exact⟨x,rfl⟩
  have OA:=((O.c omQ).now x hx).1;have hno:yG x=some o:=by unfold yH at hn;rw[iJ h1,hx]at hn;exact hn
  have hAns:=(Y6 R (Xk O W hn)).1
  have K:=qge SO MO OA (L.a h1 x hx) hm (λo' ho'=>by
   rw[hno]at ho';cases ho';exact hAns) hno
  generalize jg M o=r at*;have et:z8 t r.1 draw pick=Q8 t x (zV x r.1) draw pick:=by unfold z8;rw[iJ h1,hx]
  rw[et];generalize zV x r.1=y at*;unfold Q8;dsimp only;have hT:∀j,yZ t j→JG x j:=λj ⟨_,z,hz,h⟩=>by rw[hx]at hz;cases hz;exact h
  split
  ·refine⟨K.mem,⟨L.me,L.set,λ_ z hz=>by cases hz;exact K.lk⟩,K.n,λj j0 j1 hj=>?_⟩;rcases K.held j j0 j1 hj with⟨a,b⟩ |⟨a,b⟩
   ·exact .inl ⟨a,λh=>⟨h1,y,rfl,b (hT j h)⟩⟩
   ·exact .inr ⟨a,h1,y,rfl,b⟩
  ·rename_i he;have h8:y.state=8:=by
    unfold zx at he
    split at he
    ·exact absurd rfl he
    ·rename_i h;omega
   refine⟨K.mem,(qj9 SO (by show t.me=i;exact L.me) (by show t.set=S;exact L.set) draw pick).toThrLk,K.n,λj j0 j1 hj=>?_⟩;rcases K.held j j0 j1 hj with⟨a,b⟩ |⟨a,b⟩
   ·exact .inl ⟨a,λh=>by have:=(b (hT j h)).1;omega⟩
   ·have:=b.1;omega
 ·have hk:o.kind=8:=by
   unfold yH at hn;rw[iQ h1]at hn
   split at hn
   ·cases hn;rfl
   ·split at hn
    ·cases hn;rfl
    ·cases hn
  have e3:=qXD (M:=M) (o:=o) omQ;have N:NM S M.n (z8 t (jg M o).1 draw pick) i:=by
   unfold z8;rw[iQ h1]
   split
   ·split
    ·exact JI L.me L.set h1
    ·exact qXA SO L.me L.set _
   ·split
    ·rename_i h5;exact qYn SO L.me L.set (by show t.state≠1;exact h1)
    ·exact JI L.me L.set h1
  exact⟨MO.same e3,by rw[e3.2.2];exact N.toThrLk,by rw[e3.2.2];omega,λj _ _ _=>.inl ⟨by rw[e3.2.1],λh=>absurd h.1 h1⟩⟩
theorem qxc (SO:xd S) (L:ThrLk S n t i) {s v:Int}:ThrLk S n (zm t s v) i∧∀j,yZ t j→yZ (zm t s v) j:=by
 unfold zm
 split
 ·exact⟨L,λj h=>h⟩
 ·rename_i x hx
  split
  ·split
   ·rename_i h4;exact⟨(XM SO L.me L.set).toThrLk,λj h=>by have:=h.1;omega⟩
   ·split
    ·exact⟨⟨L.me,L.set,L.a⟩,λj h=>h⟩
    ·exact⟨L,λj h=>h⟩
  ·exact⟨L,λj h=>h⟩
theorem O5 (W:ThrW t):ThrW (zk t):=by
 unfold zk
 split
 ·split
  ·exact yu _
  ·exact W.same rfl
 ·exact W
theorem qKB (W:ThrW t) {s v:Int}:ThrW (zm t s v):=by
 unfold zm
 split
 ·exact W
 ·split
  ·split
   ·exact yu _
   ·split
    ·exact W.same rfl
    ·exact W
  ·exact W
structure MP (m:QY):Prop where
  so:xd m.s
  th:m.s.threads≤4
  mem:gu m.s m.m
  r:qQD m.m
  len:(m.t.length:Int)=m.s.threads
  t:∀(i:Nat) (t:jJ),m.t[i]? =some t→xF t∧ThrW t∧ThrLk m.s m.m.n t i
  held:∀j,0≤j→j<m.s.stripes→(jF m.m.l j).2.1=true→∃(i:Nat) (t:jJ),(jF m.m.l j).2.2=(i:Int)∧m.t[i]? =some t∧yZ t j
theorem qJd {ts:List jJ} {i:Nat} {s v:Int} {k:Nat}:(yK ts i s v)[k]? =(ts[k]?).map λt=>if k=i then t else zm t s v:=by unfold yK;rw[List.getElem?_mapIdx]
theorem qWf {m:QY} (K:MP m) {i:Nat} (hi:i<m.t.length) {draw:Int} (hd:0≤draw):MP (yn m i draw)∧(yn m i draw).s=m.s∧(yn m i draw).picks=m.picks+1∧m.m.n≤(yn m i draw).m.n∧(yn m i draw).m.n≤m.m.n+1:=by
 obtain⟨t,ht⟩:∃t,m.t[i]? =some t:=⟨m.t[i],iW hi⟩;obtain⟨O,W,L⟩:=K.t i t ht;have hme:0≤(i:Int)∧(i:Int)<4:=by have:=K.len;have:=K.th;omega
 unfold yn;rw[ht];dsimp only;have at_i:∀(u:jJ),(m.t.set i u)[i]? =some u:=λu=>by rw[List.getElem?_set_self hi]
 have at_k:∀(u:jJ) {k:Nat},k≠i→(m.t.set i u)[k]? =m.t[k]?:=λu k hk=>by rw[List.getElem?_set_ne (λh=>hk h.symm)]
 split
 ·rename_i hn;have h1:t.state≠1∨(t.state=1∧∀j,¬yZ t j):=by
   by_cases h1:t.state=1
   ·refine .inr ⟨h1,λj ⟨_,x,hx,h6,c,hc,hf,_⟩=>?_⟩;have hn:yG x=none:=by
     unfold yH at hn;rw[iJ h1,hx]at hn;exact hn
    unfold yG at hn;rw[iQ omQ,iQ omQ,iQ omQ,iQ omQ,iQ omQ,iQ omQ,iJ h6,hc]at hn;have hn:vm c=none:=hn;unfold vm at hn;rw[iQ (λh=>h hf)]at hn
    repeat' split at hn
    all_goals cases hn
   ·exact .inl h1
  have L':ThrLk m.s m.m.n (zk t) i∧∀j,yZ t j→yZ (zk t) j:=by
   rcases h1 with h1 |⟨h1,h2⟩
   ·exact⟨(qWI K.so L h1).toThrLk,λj h=>absurd h.1 h1⟩
   ·have e:zk t=t:=by unfold zk;rw[iQ omQ]
    rw[e];exact⟨L,λj h=>h⟩
  refine⟨⟨K.so,K.th,K.mem,K.r,by show((m.t.set i _).length:Int)=_;rw[List.length_set];exact K.len,λk u hu=>?_,λj j0 j1 hj=>?_⟩,rfl,rfl,Int.le_refl _,by show m.m.n≤m.m.n+1;omega⟩
  ·have hu:(m.t.set i (zk t))[k]? =some u:=hu;by_cases hk:k=i
   ·subst hk;rw[at_i]at hu;cases hu;exact⟨G4 O,O5 W,L'.1⟩
   ·rw[at_k _ hk]at hu;exact K.t k u hu
  ·obtain⟨k,u,h1,h2,h3⟩:=K.held j j0 j1 hj;by_cases hk:k=i
   ·subst hk;rw[ht]at h2;cases h2;exact⟨k,_,h1,at_i _,L'.2 j h3⟩
   ·exact⟨k,u,h1,by show(m.t.set i _)[k]? =_;rw[at_k _ hk];exact h2,h3⟩
 ·rename_i o hn;have T:=qgf K.so K.mem K.r O W L hme hn draw (m.picks+1);have ho:=Xk O W hn;obtain⟨a1,a2⟩:=Y6 K.r ho;have O':=GT O a1 hd (pick:=m.picks+1) (draw:=draw);have W':=Mz O W a1 draw (m.picks+1);generalize jg m.m o=r at*;generalize z8 t r.1 draw (m.picks+1)=u at*;have base:∀ts:List jJ,ts.length=m.t.length→(∀(k:Nat) (v:jJ),ts[k]? =some v→xF v∧ThrW v∧ThrLk m.s r.2.n v k∧(k=i→∀j,yZ u j→yZ v j)∧(k≠i→∀w,m.t[k]? =some w→∀j,yZ w j→yZ v j))→
    MP { m with picks:=m.picks+1,last:=o,did:=true,m:=r.2,t:=ts }:=λts hl H=>by
   refine⟨K.so,K.th,T.mem,a2,by show(ts.length:Int)=_;rw[hl];exact K.len,λk v hv=>⟨(H k v hv).1,(H k v hv).2.1,(H k v hv).2.2.1⟩,λj j0 j1 hj=>?_⟩;have mine:yZ u j→(jF r.2.l j).2.2=(i:Int)→∃(k:Nat) (t:jJ),(jF r.2.l j).2.2=(k:Int)∧ts[k]? =some t∧yZ t j:=λh e=>by
    have hil:i<ts.length:=by omega
    exact⟨i,ts[i],e,iW hil,(H i _ (iW hil)).2.2.2.1 rfl j h⟩
   rcases T.held j j0 j1 hj with⟨h1,h2⟩ |⟨h1,h2⟩
   ·obtain⟨k,w,g1,g2,g3⟩:=K.held j j0 j1 (by rw[← h1];exact hj);by_cases hk:k=i
    ·subst hk;rw[ht]at g2;cases g2;exact mine (h2 g3) (by rw[h1];exact g1)
    ·have hkl:k<ts.length:=by have:=(List.getElem?_eq_some_iff.1 g2).1;omega
     exact⟨k,ts[k],by show(jF r.2.l j).2.2=_;rw[h1];exact g1,iW hkl,(H k _ (iW hkl)).2.2.2.2 hk w g2 j g3⟩
   ·exact mine h2 h1
  have one:∀(k:Nat) (v:jJ),(m.t.set i u)[k]? =some v→xF v∧ThrW v∧ThrLk m.s r.2.n v k∧(k=i→∀j,yZ u j→yZ v j)∧(k≠i→∀w,m.t[k]? =some w→∀j,yZ w j→yZ v j):=λk v hv=>by
   by_cases hk:k=i
   ·subst hk;rw[at_i]at hv;cases hv;exact⟨O',W',T.lk,λ_ j h=>h,λh=>absurd rfl h⟩
   ·rw[at_k _ hk]at hv;obtain⟨b1,b2,b3⟩:=K.t k v hv;exact⟨b1,b2,b3.mono T.n.1,λh=>absurd h hk,λ_ w hw j h=>by rw[hv]at hw;cases hw;exact h⟩
  refine⟨?_,rfl,rfl,T.n⟩
  split
  ·refine base _ (by unfold yK;simp) λk v hv=>?_;rw[qJd]at hv;cases hq:(m.t.set i u)[k]? with
   |none=>rw[hq]at hv;cases hv
   |some q=>
    rw[hq]at hv;have hv:(if k=i then q else zm q o.at_ o.lk.1)=v:=Option.some.inj hv;obtain⟨b1,b2,b3,b4,b5⟩:=one k q hq;by_cases hk:k=i
    ·rw[iJ hk]at hv;subst hv;exact⟨b1,b2,b3,b4,b5⟩
    ·rw[iQ hk]at hv;subst hv;have wk:=qxc K.so b3 (s:=o.at_) (v:=o.lk.1);exact⟨My b1,qKB b2,wk.1,λh=>absurd h hk,λ_ w hw j h=>wk.2 j (b5 hk w hw j h)⟩
  ·exact base _ osQ one
theorem qk7 {s:zr} {jobs:List (List (List qO))} (hs:0≤s.start) (hj:∀js∈jobs,∀l∈js,(zt l).2=0∧Quiet l):MP (OD s jobs):=by
 have so:xd (jz { s with threads:=((jobs.take 4).length:Int) }):=yr hs;have q1:=so.words;have q2:=so.stripes;have q3:=so.threads;have q4:=so.start;generalize hS:jz { s with threads:=((jobs.take 4).length:Int) }=S at*;have e:jg (yA S) (op0 2 5 14)=(an0,{ yA S with w:=(yA S).w.set 5 14,cnt:=1 }):=by refine(qXO (M:=yA S) (N:={ yA S with w:=(yA S).w.set 5 14 }) (a:=an0) (.inr rfl) ?_ rfl);unfold UF;rw[iQ (by show¬((5:Int)<1∨((List.replicate S.words.toNat (0:Int)).length:Int)≤5);rw[List.length_replicate];omega)];rfl
 have lkz:∀j,jF (List.replicate S.stripes.toNat lk0) j=lk0:=λj=>by
  unfold jF;rw[List.getElem?_replicate]
  split<;>rfl
 unfold OD;rw[hS];dsimp only;rw[e];refine⟨so,q3.2,⟨?_,?_,?_,λj j0 j1=>?_⟩,?_,?_,λi t ht=>?_,λj j0 j1 hj=>?_⟩
 ·show((((List.replicate S.words.toNat (0:Int)).set 5 14).length:Nat):Int)=S.words;rw[List.length_set,List.length_replicate];omega
 ·show(((List.replicate S.stripes.toNat lk0).length:Nat):Int)=S.stripes;rw[List.length_replicate];omega
 ·show 0≤S.start∧S.start<4611686018427387904;omega
 ·show kj (jF (List.replicate S.stripes.toNat lk0) j)∧(jF (List.replicate S.stripes.toNat lk0) j).1≤S.start;rw[lkz];exact⟨by show kj (0,false,0);rw[Ul];exact⟨by decide,rfl⟩,q4.1⟩
 ·have r0:qQD (yA S):=by
   have Q:=qZt so;refine⟨Q.wd,by rw[Q.n];exact⟨q4.1,by omega⟩,λz hz=>?_⟩;rw[Q.s]at hz;rw[(List.mem_replicate.1 hz).2];exact⟨by decide,by decide⟩
  have:=(Y6 (M:=yA S) (o:=op0 2 5 14) r0 ⟨by decide,by decide⟩).2;rw[e]at this;exact this
 ·show((((List.range S.threads.toNat).map _).length:Nat):Int)=S.threads;rw[List.length_map,List.length_range];omega
 ·rw[List.getElem?_map]at ht;by_cases hi:i<S.threads.toNat
  ·rw[List.getElem?_range hi]at ht;have ht:=Option.some.inj ht;subst ht;have hjs:∀l∈(((jobs.take 4)[i]?).getD []),(zt l).2=0∧Quiet l:=λl hl=>by
    cases hx:(jobs.take 4)[i]? with
    |none=>rw[hx]at hl;cases hl
    |some js=>rw[hx]at hl;exact hj js (List.mem_of_mem_take (List.mem_of_getElem? hx)) l hl
   have O:xF (VV i S (((jobs.take 4)[i]?).getD [])):=qjU q4.1 hjs;have hh:=kN so;have me:max 0 (min (i:Int) ((jz S).threads-1))=(i:Int):=by rw[hh];omega
   refine⟨O,vZ _,(QD so ?_ hh).toThrLk⟩;exact me
  ·rw[List.getElem?_eq_none (by simp;omega)]at ht;cases ht
 ·have hj:(jF (List.replicate S.stripes.toNat lk0) j).2.1=true:=hj;rw[lkz]at hj;cases hj
end
section
variable {g h:AH} {L R:List SP}
structure KSet (s:zr):Prop where
  words:32≤s.words∧s.words≤80
  stripes:1≤s.stripes∧s.stripes≤16
  wide:1≤s.wide∧s.wide≤4
  threads:s.threads=0
  start:0≤s.start∧s.start<1000
  spins:0≤s.spins∧s.spins≤4
  writes:4≤s.writes∧s.writes≤40
  fuel:20≤s.fuel∧s.fuel≤120
theorem KSet.held {s:zr} (K:KSet s):jz s={ s with threads:=1 }:=by obtain⟨a,b,c,d,e,f,g,i⟩:=K;obtain⟨w,st,wi,t,sta,sp,wr,fu⟩:=s;dsimp only at*;unfold jz;dsimp only;subst d;rw[yx (n:=w) omQ,yx (n:=st) omQ,yx (n:=wi) omQ,yx (n:=sp) omQ,yx (n:=wr) omQ,yx (n:=fu) omQ,show min sta 4611686018427387903=sta by omega,show Qp 0 1 4=1 by decide]
theorem qxd {n:Nat} (hn:2≤n) {w st wi sp wr fu t:Int} (ht:0≤t∧t<18446744073709551616) (H:HS g h R) :
  t_w n 6 [.agg [.int .i64 w,.int .i64 st,.int .i64 wi,.int .i64 sp,.int .i64 wr,.int .i64 fu,.int .u64 t]] h λr h'=>∃s,r=.agg (xM s)∧KSet s∧HS g h' R:=by
 refine t_e1 (S:=S6) rfl omQ λk hk=>?_;unfold S6;try simp only[iZ]
 refine qI H rfl λb0 h1 H1=>?_;refine qI H1 rfl λb1 h2 H2=>?_;have e1:=we (x:=sp) (lo:=((0:Nat):Int)) (hi:=((4:Nat):Int)) omQ;have e2:=we (x:=wr) (lo:=((4:Nat):Int)) (hi:=((40:Nat):Int)) omQ;have e3:=we (x:=fu) (lo:=((20:Nat):Int)) (hi:=((120:Nat):Int)) omQ;have e4:=we (x:=w) (lo:=((32:Nat):Int)) (hi:=((80:Nat):Int)) omQ;have e5:=we (x:=st) (lo:=((1:Nat):Int)) (hi:=((16:Nat):Int)) omQ;have e6:=we (x:=wi) (lo:=((1:Nat):Int)) (hi:=((4:Nat):Int)) omQ;refine qV ?_
 try dsimp only
 refine qQ (qX H2 (b:=b0) e_1 rfl ?_);refine qW (xJ omQ omQ omQ omQ) ?_;rintro _ _ ⟨rfl,rfl⟩;refine qQ (qX H2 (b:=b0) e_1 rfl ?_);refine qW (xJ omQ omQ omQ omQ) ?_;rintro _ _ ⟨rfl,rfl⟩;refine qQ (qX H2 (b:=b0) e_1 rfl ?_);refine qW (xJ omQ omQ omQ omQ) ?_;rintro _ _ ⟨rfl,rfl⟩;generalize jE sp ((0:Nat):Int) ((4:Nat):Int)=sp' at*;generalize jE wr ((4:Nat):Int) ((40:Nat):Int)=wr' at*;generalize jE fu ((20:Nat):Int) ((120:Nat):Int)=fu' at*;refine qH (l:=[.int .i64 0,.int .i64 0,.int .i64 0,.int .i64 0,.int .u64 0,.int .i64 sp',.int .i64 wr',.int .i64 fu']) rfl ?_;refine qI H2 rfl λb2 h3 H3=>?_;refine qd H3 (b:=b2) .here rfl (by show 0+8≤8;omega) rfl λh4 H4=>?_
 have H4:HS g h4 (qk b2 [.int .i64 0,.int .i64 0,.int .i64 0,.int .i64 0,.int .u64 0,.int .i64 sp',.int .i64 wr',.int .i64 fu']::qk b1 [.int .i64 0,.int .i64 0,.int .i64 0,.int .i64 0,.int .u64 0,.int .i64 0,.int .i64 0,.int .i64 0]::
  qk b0 [.int .i64 w,.int .i64 st,.int .i64 wi,.int .i64 sp,.int .i64 wr,.int .i64 fu,.int .u64 t]::R):=H4
 refine qU H2 e_1 rfl H2 e_1 rfl (HS.lt H2 e_1) ?_;refine qU H2 e_1 rfl H2 e_1 rfl (HS.lt H2 e_1) ?_;refine qU H2 e_1 rfl H2 e_1 rfl (HS.lt H2 e_1) ?_;refine qV ?_
 try dsimp only
 refine qQ (qX H4 (b:=b0) e_2 rfl ?_);refine qW (xJ omQ omQ omQ omQ) ?_;rintro _ _ ⟨rfl,rfl⟩;refine qQ (qX H4 (b:=b0) e_2 rfl ?_);refine qW (xJ omQ omQ omQ omQ) ?_;rintro _ _ ⟨rfl,rfl⟩;refine qQ (qX H4 (b:=b0) e_2 rfl ?_);refine qW (xJ omQ omQ omQ omQ) ?_;rintro _ _ ⟨rfl,rfl⟩;refine qQ (qX H4 (b:=b0) e_2 rfl ?_);refine Q7 od ?_;generalize jE w ((32:Nat):Int) ((80:Nat):Int)=w' at*;generalize jE st ((1:Nat):Int) ((16:Nat):Int)=st' at*;generalize jE wi ((1:Nat):Int) ((4:Nat):Int)=wi' at*;have ht2:0≤t.tmod ((1000:Nat):Int)∧t.tmod ((1000:Nat):Int)<1000:=by rw[Int.tmod_eq_emod_of_nonneg ht.1];omega
 generalize t.tmod ((1000:Nat):Int)=t' at*;refine qH (l:=[.int .i64 w',.int .i64 st',.int .i64 wi',.int .i64 0,.int .u64 t']) rfl ?_;refine qQ (qd H4 (b:=b2) .here rfl (by show 0+5≤8;omega) rfl λh5 H5=>?_)
 have H5:HS g h5 (qk b2 (xM ⟨w',st',wi',0,t',sp',wr',fu'⟩)::qk b1 [.int .i64 0,.int .i64 0,.int .i64 0,.int .i64 0,.int .u64 0,.int .i64 0,.int .i64 0,.int .i64 0]::
  qk b0 [.int .i64 w,.int .i64 st,.int .i64 wi,.int .i64 sp,.int .i64 wr,.int .i64 fu,.int .u64 t]::R):=H5
 refine qU H4 e_2 rfl H4 e_2 rfl (HS.lt H4 e_2) ?_;refine qU H4 e_2 rfl H4 e_2 rfl (HS.lt H4 e_2) ?_;refine qU H4 e_2 rfl H4 e_2 rfl (HS.lt H4 e_2) ?_;refine qU H4 e_2 rfl H4 e_2 rfl (HS.lt H4 e_2) ?_;refine qU H4 e_2 rfl H4 e_2 rfl (HS.lt H4 e_2) ?_;refine qU H4 e_2 rfl H4 e_2 rfl (HS.lt H4 e_2) ?_;refine qF H5 (b:=b2) (off:=0) .here rfl omQ (l:=xM ⟨w',st',wi',0,t',sp',wr',fu'⟩) rfl ?_;refine qd H5 (b:=b1) e_1 rfl (by show 0+8≤8;omega) rfl λh6 H6=>?_;refine qF H6 (b:=b1) (off:=0) .here rfl omQ (l:=xM ⟨w',st',wi',0,t',sp',wr',fu'⟩) rfl ?_;exact qq ⟨_,rfl,⟨by omega,by omega,by omega,rfl,ht2,by omega,by omega,by omega⟩,H6.drop.drop.drop⟩
end
namespace machineLocks
variable {g h:AH} {L R:List SP}
abbrev PkM:Type:=Int×Int×Int
def xf (x:PkM):List AV:=[.int .i64 x.1,.int .u8 x.2.1,.int .i64 x.2.2]
theorem Gb {α:Type} {sz:Nat} {enc:α→List AV} (he:∀a,(enc a).length=sz) {l:List α} {i f:Nat} {a:α} (h:l[i]? =some a) (hf:f<sz):(l.flatMap enc)[i*sz+f]? =(enc a)[f]?:=by rw[← vk he h,List.getElem?_take_of_lt hf,List.getElem?_drop]
theorem law {k0:Nat} (hk:40≤k0) {w st wi sp wr fu t:Int} {a1 a2:AV} {T:List (List (List qO)×List AV)} {vs:List AV} {pk:List PkM} (ht:0≤t∧t<18446744073709551616) (A:ArgT h a1 T vs)
  (SK:Sl (λb=>b<h.nx) h 3 pk.length a2 (pk.flatMap xf)) (hpk:∀x∈pk,0≤x.2.1∧x.2.1<256) :
  wp ((tD3 S3) (gO 4 (callT tab qj k0)) [.agg [.int .i64 w,.int .i64 st,.int .i64 wi,.int .i64 sp,.int .i64 wr,.int .i64 fu,.int .u64 t],a1,a2] h) λv _=>v=.bool true:=by
 show wp (S3 (gO _ (callT tab qj _)) _ _ _ _).1 _;unfold S3
 try simp only[ iZ]
 refine qI (HS.nil h) rfl λb0 h1 H1=>?_;refine qgi (jW (qJ ?_));refine qF H1 (b:=b0) (off:=0) .here rfl omQ (l:=[.int .i64 w,.int .i64 st,.int .i64 wi,.int .i64 sp,.int .i64 wr,.int .i64 fu,.int .u64 t]) rfl ?_;refine xy od (qxd omQ ht H1) ?_;rintro _ h2 ⟨s,rfl,K,H2⟩;refine xy od (Ot (calm:=false) (most:=((14:Nat):Int)) omQ omQ A H2) ?_;rintro lv h3 ⟨jss,hj3,hj0,hjk,H3⟩;have hjq:∀js∈jss,∀l∈js,(zt l).2=0∧Quiet l:=λjs hjs l hl=>((hjk js hjs).2 l hl).chk omQ;refine xy od (qGN (s:=s) (jss:=jss) omQ K.start.1 (λjs hjs=>⟨by have:=(hjk js hjs).1;omega,hjq js hjs⟩) omQ H3) ?_;rintro _ h4 ⟨mb,rfl,H4⟩;have ML:=qk7 (s:=s) (jobs:=jss) K.start.1 hjq;have MO:=qvR (s:=s) (jobs:=jss) K.start.1 hjq;have hp0:(OD s jss).picks=0:=rfl;generalize OD s jss=m0 at*;have hT:=ML.so.threads;have hL:=ML.len;refine KY (qJ ?_);refine xy od (Vk omQ H4) ?_;rintro _ _ ⟨rfl,rfl⟩;refine jK omQ ?_;refine qV ?_
 try dsimp only
 refine qc (xW omQ (qC (qJ ?_)));refine xy od (Qu omQ H4) ?_;rintro _ _ ⟨rfl,rfl⟩;have HN:HS h _ [MacC mb m0]:=H4.sub (.cons .here (.drop (.drop .refl)));generalize hn:m0.t.length=n at*;have hn4:1≤n∧n≤4:=by omega
 clear H1 H2 H3 H4;refine jw (λc q h'=>∃(i:Nat) (m:QY),q=(.int .i64 (i:Int),.int .u64 m.m.n,.int .i64 (n:Int),.ptr mb 0,a2,())∧i≤pk.length∧i≤60∧c=60-i∧MP m∧Uh m∧m.t.length=n∧m.picks≤10*i∧(0<i→0<m.picks)∧HS h h' [MacC mb m])
  ?_ (m:=60) od ⟨0,m0,rfl,Nat.zero_le _,Nat.zero_le _,rfl,ML,MO,hn,by omega,λh=>absurd h omQ,HN⟩
 clear HN ML MO hp0 hL hT hn;rintro c ih q h6 hih ⟨i,m,rfl,hil,hi60,rfl,ML,MO,hn,hp1,hp2,H⟩;dsimp only;refine xC (SK.old H.old) ?_;refine kF (GW (λz g'=>g'=h6∧∃u:AV,z=(u,.bool (decide ((i:Int)<(pk.length:Int))),.int .i64 (i:Int),.int .u64 m.m.n,.int .i64 (n:Int),.ptr mb 0,a2,())∧(i<pk.length→u=.bool (decide (i<60)))) (λj hj=>?_) ?_)
 ·refine NQ (λc1=>?_) (λc1=>?_)
  ·refine kF (hj _ _ ⟨rfl,_,rfl,λ_=>?_⟩)
   congr 1
   exact decide_eq_decide.2 omQ
  ·exact hj _ _ ⟨rfl,_,rfl,λh=>absurd h omQ⟩
 rintro _ _ ⟨rfl,u,rfl,hu⟩;dsimp only;have hp:∀{K:AV→Go.Ae.R} {Q:AV→AH→Prop},(∀b:Bool,(b=true↔(i<pk.length∧i<60))→wp (K (.bool b)) Q)→wp (gp (.bool (decide ((i:Int)<(pk.length:Int)))) u (.bool false) K) Q:=λ{K Q} hw=>by
  by_cases c1:i<pk.length
  ·rw[iG (show(i:Int)<(pk.length:Int) by omega),hu c1];exact qE (hw _ ⟨λh=>⟨c1,of_decide_eq_true h⟩,λh=>iG h.2⟩)
  ·rw[iV (show¬(i:Int)<(pk.length:Int) by omega)];exact qC (hw _ ⟨λh=>(by cases h),λh=>absurd h.1 c1⟩)
 refine hp λbb hbb=>?_;clear hp hu;cases bb with
 |false=>
  refine qJ ?_;clear hih ih;have hns:¬(i<pk.length∧i<60):=λh=>by have:=hbb.2 h;cases this
  refine xy od (Z2 omQ H) ?_;rintro _ _ ⟨rfl,rfl⟩;by_cases c0:0<m.picks
  ·refine yj c0 ?_;refine qV ?_
   try dsimp only
   exact qp (qE (qx (qq rfl)))
  ·refine xW c0 ?_;refine qV ?_
   try dsimp only
   refine qc (xC (SK.old H.old) ?_);have hi0:i=0:=by
    rcases Nat.eq_zero_or_pos i with h |h
    ·exact h
    ·exact absurd (hp2 h) c0
   exact qz omQ (qC (qx (qq rfl)))
 |true=>
  obtain⟨c1,c2⟩:=hbb.1 rfl;clear hbb;refine qZ ?_;have hpi:pk[i]? =some pk[i]:=iW c1;have hw9:=we (x:=pk[i].2.2) (lo:=((0:Nat):Int)) (hi:=((9:Nat):Int)) omQ;have hdr:=hpk _ (List.getElem_mem c1);have e0:(pk.flatMap xf)[i*3+0]? =some (.int .i64 pk[i].1):=Gb (sz:=3) (λ_=>rfl) hpi omQ;have e1:(pk.flatMap xf)[i*3+1]? =some (.int .u8 pk[i].2.1):=Gb (sz:=3) (λ_=>rfl) hpi omQ;have e2:(pk.flatMap xf)[i*3+2]? =some (.int .i64 pk[i].2.2):=Gb (sz:=3) (λ_=>rfl) hpi omQ;generalize pk[i]=x at*;obtain⟨xT,xD,xN⟩:=x;dsimp only at*;refine jw (λc q h'=>∃(k:Nat) (m:QY),q=(.int .i64 (k:Int),.int .i64 (i:Int),.int .u64 m.m.n,.int .i64 (n:Int),.ptr mb 0,a2,())∧(k:Int)≤jE xN ((0:Nat):Int) ((9:Nat):Int)+1∧c=10-k∧MP m∧Uh m∧m.t.length=n∧m.picks≤10*i+k∧(0<k→0<m.picks)∧HS h h' [MacC mb m])
   ?_ (m:=10) od ⟨0,m,rfl,by omega,rfl,ML,MO,hn,by omega,λh=>absurd h omQ,H⟩
  clear H ML MO hn hp1 hp2;rintro c ih2 q h6 hih2 ⟨k,m,rfl,hk9,rfl,ML,MO,hn,hp1,hp2,H⟩;dsimp only;refine xo (SK.old H.old) omQ c1 e2 ?_;refine xy od (xJ omQ omQ omQ omQ) ?_;rintro _ _ ⟨rfl,rfl⟩;by_cases hlt:(k:Int)≤jE xN ((0:Nat):Int) ((9:Nat):Int)
  ·refine QA hlt (qZ ?_);refine qV ?_
   try dsimp only
   refine xo (SK.old H.old) omQ c1 e0 ?_;refine jr omQ ?_;have hwT:=we (x:=xT) (lo:=((0:Nat):Int)) (hi:=(n:Int)-((1:Nat):Int)) omQ;refine xy od (xJ omQ omQ omQ omQ) ?_;rintro _ _ ⟨rfl,rfl⟩;refine Uu (SK.old H.old) c1 λbb off hbn _ hat=>?_;refine qh (kh ((hat 1 omQ).trans e1) ?_);obtain⟨ti,hti⟩:∃ti:Nat,jE xT ((0:Nat):Int) ((n:Int)-((1:Nat):Int))=(ti:Int):=⟨(jE xT ((0:Nat):Int) ((n:Int)-((1:Nat):Int))).toNat,by omega⟩;rw[hti]at hwT ⊢;have htl:ti<m.t.length:=by omega
   refine xy od (qJ7 (i:=ti) (draw:=xD) omQ MO htl omQ omQ hdr H) ?_;rintro _ h7 ⟨rfl,H7⟩;refine NU ((hat 1 omQ).trans e1) ((hat 1 omQ).trans e1) hbn ?_;clear hat;obtain⟨ML2,hs2,hpp,hn1,hn2⟩:=qWf ML htl hdr.1;obtain⟨MO2,_,_⟩:=qJI MO htl hdr.1;have hmn:=ML.mem.n;have hpk0:=MO.picks;have hln:(yn m ti xD).t.length=n:=by have h1:=ML2.len;have h2:=ML.len;rw[hs2]at h1;omega
   generalize yn m ti xD=m2 at*;have hml:=ML2.mem.l;have hms:=ML2.so.stripes;refine xy od (Oq omQ omQ H7) λxv h8 H8=>?_;refine jw (λc q h'=>∃jj:Nat,q=(.int .i64 (jj:Int),xv,.int .i64 (k:Int),.int .i64 (i:Int),.int .u64 m.m.n,.int .i64 (n:Int),.ptr mb 0,a2,())∧jj≤m2.m.l.length∧c=m2.m.l.length-jj∧h'=h8)
    ?_ (m:=m2.m.l.length) (by show _<1000000000;omega) ⟨0,rfl,Nat.zero_le _,rfl,rfl⟩
   rintro c ih3 q h9 hih3 ⟨jj,rfl,hjj,rfl,rfl⟩;dsimp only;refine qi H8 (n:=m2.m.l.length) (v:=xv) .here ?_;by_cases hjl:jj<m2.m.l.length
   ·refine jB omQ (qZ ?_);have hlk:=qZp hjl;have f0:(m2.m.l.flatMap jh)[jj*3+0]? =some (.int .u64 (jF m2.m.l (jj:Int)).1):=Gb (sz:=3) (λ_=>rfl) hlk omQ;have f1:(m2.m.l.flatMap jh)[jj*3+1]? =some (.bool (jF m2.m.l (jj:Int)).2.1):=Gb (sz:=3) (λ_=>rfl) hlk omQ;have f2:(m2.m.l.flatMap jh)[jj*3+2]? =some (.int .i64 (jF m2.m.l (jj:Int)).2.2):=Gb (sz:=3) (λ_=>rfl) hlk omQ;have hv:=(ML2.mem.lk (jj:Int) omQ omQ).2;have hheld:=ML2.held (jj:Int) omQ omQ;generalize jF m2.m.l (jj:Int)=lk at*;have go:∀{K:AV→AH→Go.Ae.R},wp (K (.bool false) h9) (λv _=>v=.bool true)→wp (gG xv (.int .i64 (jj:Int)) 3 λp=>qm p 0 λq=>jq h9 q λv=>jm (gO 4 (callT tab qj k0)) (.fn 9 [] []) [.ptr mb 0] h9 λr h'=>jc .gtr v r λz=>gp (.bool false) (.bool true) z λy=>QR q none v h9 h' h9.nx<| K y h') (λv _=>v=.bool true):=λ{K} hw=>by
     refine Uu (H8.sl (v:=xv) (xs:=m2.m.l.flatMap jh) .here) hjl λbb off hbn _ hat=>?_;refine qh (kh ((hat 0 omQ).trans f0) ?_);refine xy od (Qu omQ H8.drop) ?_;rintro _ _ ⟨rfl,rfl⟩;refine xW omQ (qC ?_);exact NU ((hat 0 omQ).trans f0) ((hat 0 omQ).trans f0) hbn hw
    have next:wp (jc .add (.int .i64 (jj:Int)) (.int .i64 ((1:Nat):Int)) λz=>ih3 (z,xv,.int .i64 (k:Int),.int .i64 (i:Int),.int .u64 m.m.n,.int .i64 (n:Int),.ptr mb 0,a2,()) h9 []) (λv _=>v=.bool true):=by refine qb omQ ?_;exact hih3 (m2.m.l.length-(jj+1)) _ _ omQ ⟨jj+1,rfl,by omega,rfl,rfl⟩
    refine qV ?_
    try dsimp only
    cases hb:lk.2.1 with
    |false=>rw[hb]at f1;refine xo (H8.sl (v:=xv) (xs:=m2.m.l.flatMap jh) .here) omQ hjl f1 ?_;refine qR (jt (qC (qc ?_)));exact go (qJ next)
    |true=>
     rw[hb]at f1;obtain⟨oi,ot,e1',e2',e3'⟩:=hheld hb;refine xo (H8.sl (v:=xv) (xs:=m2.m.l.flatMap jh) .here) omQ hjl f1 ?_;refine qa ?_;rw[e1']at f2;refine xo (H8.sl (v:=xv) (xs:=m2.m.l.flatMap jh) .here) omQ hjl f2 ?_;refine xy od (OE (i:=oi) (t:=ot) omQ e2' omQ H8.drop) ?_;rintro _ _ ⟨rfl,rfl⟩;refine q8 e3'.1 ?_;refine qc (xy od (Zf omQ omQ H8.drop) ?_);rintro _ _ ⟨rfl,rfl⟩;have hr:Qt m2=false:=by unfold Qt;rw[Bool.eq_false_iff];intro hh;have h1:=of_decide_eq_true (List.all_eq_true.1 hh _ (List.mem_of_getElem? e2'));have h2:=e3'.1;omega
     rw[hr];refine qC (qE ?_);refine qc ?_;exact go (qJ next)
   ·obtain rfl:jj=m2.m.l.length:=by omega
    refine jK omQ (qJ ?_);refine xy od (Qu omQ H8.drop) ?_;rintro _ _ ⟨rfl,rfl⟩;refine jK omQ ?_;refine qV ?_
    try dsimp only
    refine qc (xy od (Qu omQ H8.drop) ?_);rintro _ _ ⟨rfl,rfl⟩;refine yN omQ ?_;refine xW omQ (qC (qJ ?_));refine xy od (Qu omQ H8.drop) ?_;rintro _ _ ⟨rfl,rfl⟩;refine qb omQ ?_;exact hih2 (10-(k+1)) _ _ omQ ⟨k+1,m2,rfl,by omega,rfl,ML2,MO2,hln,by omega,λ_=>by omega,H8.drop⟩
  ·refine Q6 hlt (qJ ?_);refine qb omQ ?_;exact hih (60-(i+1)) _ _ omQ ⟨i+1,m,rfl,by omega,by omega,rfl,ML,MO,hn,by omega,λ_=>hp2 omQ,H⟩
theorem qGU {h:AH} {d:Nat} {v:AV} (H:WT Tryz.prog h (d+3) 26 [v]):∃pk:List PkM,Sl (λb=>b<h.nx) h 3 pk.length v (pk.flatMap xf)∧∀x∈pk,0≤x.2.1∧x.2.1<256:=by
 obtain⟨q,xs,S,_,H2⟩:=YO (sz:=3) Tryz.underlying26 (by kernel_rfl) omQ H
 obtain⟨ks,g1,g3,rfl⟩:=ZF (α:=PkM) (Pr:=λx=>0≤x.2.1∧x.2.1<256) xf S.len (λi hi=>by
  have:=H2 i hi;generalize(xs.drop (i*3)).take 3=row at this;unfold WT at this;simp only[Tryz.underlying41]at this;obtain⟨g1,g2⟩:=this;rw[show Tryz.prog.cellsOf 41=3 by kernel_rfl]at g1
  match row,g1 with
  |[x,y,z],_=>
   have f1:=g2 _ (iK ..);have f2:=g2 _ (iX _ (iK ..));have f3:=g2 _ (iX _ (iX _ (iK ..)));rw[show Tryz.prog.cellsOf 3=1 by kernel_rfl]at f1 f3;rw[show Tryz.prog.cellsOf 5=1 by kernel_rfl]at f2;unfold WT at f1 f2 f3;simp only[Tryz.underlying3,List.drop_zero,List.take_succ_cons,List.take_zero,List.drop_succ_cons]at f1 f3;simp only[Tryz.underlying5,List.drop_succ_cons,List.drop_zero,List.take_succ_cons,List.take_zero]at f2;obtain⟨a,ha,_⟩:=f1;obtain⟨b,hb,c5⟩:=f2;obtain⟨c,hc,_⟩:=f3;cases ha;cases hb;cases hc
   exact⟨(a,b,c),⟨c5.1,Int.lt_of_le_of_lt c5.2 od⟩,rfl⟩)
 exact⟨ks,g1▸S,g3⟩
theorem told {h:AH} {l:List AV} (H:WTs Tryz.prog h 8 Tryz.f3.params.toList l):wp ((tD3 S3) (gO 4 (callT tab qj 60)) l h) λv _=>v=.bool true:=by
 have e:Tryz.f3.params.toList=[24,25,26]:=by kernel_rfl
 rw[e]at H;obtain⟨a0,a1,a2,rfl,H0,H1,H2⟩:=WTs3 H;simp only[WTV,Tryz.underlying3,Tryz.underlying4,Tryz.underlying5,Tryz.underlying22,Tryz.underlying24,Tryz.underlying25,Tryz.underlying26,Tryz.underlying41,Tryz.underlying80,Tryz.underlying82,Tryz.underlying112]at H0 H1 H2;obtain⟨T,vs,A⟩:=qZA H1;obtain⟨pk,SK,hpk⟩:=qGU H2;obtain⟨xs,rfl,H0⟩:=H0;unfold WT at H0;simp only[Tryz.underlying24]at H0;obtain⟨g1,g2⟩:=H0;rw[show Tryz.prog.cellsOf 24=7 by kernel_rfl]at g1
 match xs,g1 with
 |[x0,x1,x2,x3,x4,x5,x6],_=>have f0:=g2 _ (iK ..);have f1:=g2 _ (iX _ (iK ..));have f2:=g2 _ (iX _ (iX _ (iK ..)));have f3:=g2 _ (iX _ (iX _ (iX _ (iK ..))));have f4:=g2 _ (iX _ (iX _ (iX _ (iX _ (iK ..)))));have f5:=g2 _ (iX _ (iX _ (iX _ (iX _ (iX _ (iK ..))))));have f6:=g2 _ (iX _ (iX _ (iX _ (iX _ (iX _ (iX _ (iK ..)))))));rw[show Tryz.prog.cellsOf 3=1 by kernel_rfl]at f0 f1 f2 f3 f4 f5;rw[show Tryz.prog.cellsOf 22=1 by kernel_rfl]at f6;simp only[List.drop_succ_cons,List.drop_zero,List.take_succ_cons,List.take_zero]at f0 f1 f2 f3 f4 f5 f6;unfold WT at f0 f1 f2 f3 f4 f5 f6;simp only[Tryz.underlying3]at f0 f1 f2 f3 f4 f5;simp only[Tryz.underlying22]at f6;obtain⟨y0,e0,_⟩:=f0;obtain⟨y1,e1,_⟩:=f1;obtain⟨y2,e2,_⟩:=f2;obtain⟨y3,e3,_⟩:=f3;obtain⟨y4,e4,_⟩:=f4;obtain⟨y5,e5,_⟩:=f5;obtain⟨y6,e6,e6'⟩:=f6;cases e0;cases e1;cases e2;cases e3;cases e4;cases e5;cases e6;exact law omQ ⟨e6'.1,Int.lt_of_le_of_lt e6'.2 od⟩ A SK hpk
end machineLocks
end Go.Proofs.YtepfejdhlgoekaaGreatDoor
