/- Lemmas for 'quietus/quietuslaw28.MachineGoes': The machine: plain: who holds a lock is at work: a commits step;The machine: plain: who holds a lock is at work: attempts, threads;As if one by one: plain: ... No condition. -/
import Derived.Test.YtemjbhdofokbhaaGreatDoorMachineGoesM4
namespace Go.Proofs.YtemjbhdofokbhaaGreatDoor
open Go Go.Ae
set_option maxRecDepth 100000
section
structure yu (S:jz) (M:jX):Prop where
  w:(M.w.length:Int)=S.words
  l:(M.l.length:Int)=S.ae
  n:0≤M.n∧M.n<4611686018427387904
  lk:∀j,0≤j→j<S.ae→vn (qP M.l j)∧(qP M.l j).1≤M.n
structure wY (S:jz) (n:Int) (c:q9) (me:Int):Prop where
  me:c.me=me
  ok:xH c
  s:∀z∈c.s,0≤z∧z<S.ae
  seen:∀y∈c.seen,0≤y.1∧y.1<S.ae
  cells:∀q∈c.cells,1≤q.1∧q.1<S.words
  aw:∀w∈c.aw,w.2=(false,0)∧w.1≤n
  s1:c.state=1→c.lk.2=(false,0)∧c.lk.1≤n
  s3:c.state=3→c.now<4611686018427387903
  s4:4≤c.state→c.state≤6→c.now+1≤n
def holds (c:q9) (j:Int):Prop:=∃k:Nat,c.s[k]? =some j∧k<c.aw.length∧(6≤c.state→c.at_≤k)
variable {S:jz} {M:jX} {c d:q9} {me:Int}
structure Kp (c d:q9):Prop where
  me:d.me=c.me
  s:d.s=c.s
  seen:d.seen=c.seen
  cells:d.cells=c.cells
  aw:d.aw=c.aw
  now:d.now=c.now
  h:d.state<6∨d.at_=0
  f:d.p.fin≠0→c.aw=[]
  st:d.state=7∨d.state=c.state∨(3≤c.state∧4≤d.state)
theorem Kp.holds (K:Kp c d) {j:Int} (h:holds c j):d.p.fin=0∧holds d j:=by
 obtain⟨k,h1,h2,_⟩:=h;refine⟨?_,k,by rw[K.s];grind,by rw[K.aw];grind,λh6=>?_⟩
 ·by_cases hf:d.p.fin=0
  ·grind
  ·rw[K.f hf]at h2;grind
 ·have:=K.h;omega
theorem Kp.trans {e:q9} (a:Kp c d) (b:Kp d e) (_:3≤c.state→3≤d.state) (_:d.p.fin=0) (h7:d.state≠7): Kp c e :=
 ⟨b.me.trans a.me,b.s.trans a.s,b.seen.trans a.seen,b.cells.trans a.cells,b.aw.trans a.aw,b.now.trans a.now,b.h,λh=>by rw[← a.aw];exact b.f h,by
  have h1:=a.st;have h2:=b.st;omega⟩
theorem wY.kp {n n':Int} (C:wY S n c me) (K:Kp c d) (ok:xH d) (hn:n≤n') (h1:c.state≠1) (h3:3≤c.state→c.state≤4→c.now+1≤n') (h5:c.state≤4):wY S n' d me :=
 ⟨K.me.trans C.me,ok,by rw[K.s];exact C.s,by rw[K.seen];exact C.seen,by rw[K.cells];exact C.cells,by rw[K.aw];exact λw hw=>⟨(C.aw w hw).1,Int.le_trans (C.aw w hw).2 hn⟩,
  λh=>(by have:=K.st;omega),λh=>(by rw[K.now];refine C.s3 ?_;have:=K.st;omega),λh4 h6=>by rw[K.now];exact h3 (by have:=K.st;omega) h5⟩
theorem Vc {f e y:Int} (hp:c.p.fin=0):Kp c (jN c f e y):=by
 unfold jN zc
 split
 ·rename_i h;have h:(0:Int)=(c.aw.length:Int):=h;exact⟨rfl,rfl,rfl,rfl,rfl,rfl,.inr rfl,λ_=>iA omQ,.inl rfl⟩
 ·exact⟨rfl,rfl,rfl,rfl,rfl,rfl,.inr rfl,λh=>absurd hp h,.inl rfl⟩
theorem cJ {p:Ja} {l:cK}:(jA p l).2.fin=p.fin:=by
 grind[jA]
theorem qWu {l:cK} (hp:c.p.fin=0) (h6:c.state<6):Kp c (zx c l):=by
 unfold zx
 split
 ·exact⟨rfl,rfl,rfl,rfl,rfl,rfl,.inl h6,λh=>absurd (cJ.trans hp) h,.inr (.inl rfl)⟩
 ·have K:=Vc (c:={ c with p:=(jA c.p l).2 }) (f:=5) (e:=0) (y:=l.2.2) (cJ.trans hp);exact⟨K.me,K.s,K.seen,K.cells,K.aw,K.now,K.h,K.f,K.st⟩
theorem NS (hp:c.p.fin=0) (h3:3≤c.state) (hl:c.aw.length=c.s.length):Kp c (zj c):=by
 unfold zj jo zg;have h5:∀d:q9,d={ c with writing:=true,at_:=0,state:=5 }→Kp c d:=λd e=>by
  subst e;exact⟨rfl,rfl,rfl,rfl,rfl,rfl,.inl (by simp),λh=>absurd hp h,.inr (.inr ⟨h3,by simp⟩)⟩
 split
 ·split
  ·rename_i h;have h:(0:Int)=(c.s.length:Int):=h;exact⟨rfl,rfl,rfl,rfl,rfl,rfl,.inr rfl,λ_=>iA omQ,.inr (.inr ⟨h3,by simp⟩)⟩
  ·exact⟨rfl,rfl,rfl,rfl,rfl,rfl,.inr rfl,λh=>absurd hp h,.inr (.inr ⟨h3,by simp⟩)⟩
 grind
theorem qY1:∀(k:Nat) {c:q9},c.p.fin=0→3≤c.state→c.state<6→c.aw.length=c.s.length→Kp c (ja { c with state:=4 } k):=by
 intro k
 induction k with
 |zero=>intro c hp h3 h6 hl;have K:=NS (c:={ c with state:=4 }) hp (by simp) hl;exact⟨K.me,K.s,K.seen,K.cells,K.aw,K.now,K.h,K.f,by have:=K.st;show _∨_∨(3≤c.state∧_);have e:({ c with state:=4 }:q9).state=4:=rfl;grind[ja]⟩
 |succ k ih=>
  intro c hp h3 h6 hl;have T7:Kp c { c with state:=4 }:=⟨rfl,rfl,rfl,rfl,rfl,rfl,.inl (by simp),λh=>absurd hp h,.inr (.inr ⟨h3,Int.le_refl _⟩)⟩;unfold ja
  split
  ·split
   ·grind
   ·split
    ·exact T7.trans (Vc hp) (λ_=>by simp) hp (by simp)
    ·have K:=ih (c:={ c with at_:=c.at_+1 }) hp h3 h6 hl;exact⟨K.me,K.s,K.seen,K.cells,K.aw,K.now,K.h,K.f,K.st⟩
  ·exact T7.trans (NS hp (by simp) hl) (λ_=>by simp) hp (by simp)
theorem qZP (hp:c.p.fin=0) (h3:3≤c.state) (h6:c.state<6) (hl:c.aw.length=c.s.length):Kp c (xF c):=qY1 _ hp h3 h6 hl
theorem MM {ss:List Int} (h:ss.Pairwise (· < ·)) {j k:Nat} {s:Int} (hj:ss[j]? =some s) (hk:ss[k]? =some s):j=k:=by
 grind[List.pairwise_iff_getElem,List.getElem?_eq_some_iff,Nat.lt_trichotomy]
structure qWC (S:jz) (M:jX) (c:q9) (me:Int) (r:cE×jX) (d:q9):Prop where
  err:r.1.err=0
  LL:vB r.1
  mem:yu S r.2
  dQ:wY S r.2.n d me
  n:M.n≤r.2.n∧r.2.n≤M.n+1
  held:∀j,0≤j→j<S.ae→(qP r.2.l j).2.1=true→(qP r.2.l j=qP M.l j∧(holds c j→d.p.fin=0∧holds d j))∨((qP r.2.l j).2.2=me∧d.p.fin=0∧holds d j)
theorem GV {ss:List Int} {k:Nat} (h:k<ss.length):qg ss (k:Int)=ss[k]:=by simp_all[qg,Int.toNat_natCast]
theorem yu.aT (MO:yu S M) (k:Int):yu S { M with aT:=k }:=⟨MO.w,MO.l,MO.n,MO.lk⟩
theorem yu.put (MO:yu S M) {z:Int} (h0:0≤z) (h1:z<S.ae) {x:cK} (hx:vn x) (hn:x.1≤M.n) (k:Int):yu S { M with l:=M.l.set z.toNat x,aT:=k }:=by
 refine⟨MO.w,by show((M.l.set _ _).length:Int)=_;rw[List.length_set];exact MO.l,MO.n,λj j0 j1=>?_⟩;have:=MO.l;show vn (qP (M.l.set z.toNat x) j)∧(qP (M.l.set z.toNat x) j).1≤M.n;rw[Zr h0 j0 omQ]
 split
 ·grind
 ·exact MO.lk j j0 j1
theorem VV (MO:yu S M) {z:Int} (h0:0≤z) (h1:z<S.ae):qF M (bz 3 z 0)=(⟨0,qP M.l z,false,0⟩,{ M with aT:=M.aT+1 }):=by have:=MO.l;exact J3 (.inl rfl) (by unfold Xi;rw[iQ (by show¬(z<0∨(M.l.length:Int)≤z);omega)];rfl) rfl
theorem Oi (MO:yu S M) {z:Int} (h0:0≤z) (h1:z<S.ae) {x:cK} (hx:vn x):qF M ⟨5,z,0,0,bK,x⟩=(dM,{ M with l:=M.l.set z.toNat x,aT:=M.aT+1 }):=by have:=MO.l;refine J3 (M:=M) (N:={ M with l:=M.l.set z.toNat x }) (.inr (.inr rfl)) ?_ rfl;unfold Xi;grind
theorem YV {w:Int} {l:cK} {b:Bool} (h:0≤w∧w<18446744073709551616):vB ⟨w,l,b,0⟩:=h
theorem Uf (MO:yu S M) (C:wY S M.n c me) (hm:0≤me∧me<4) (hp:c.p.fin=0):∃o,xX c=some o∧qWC S M c me (qF M o) (qn c (qF M o).1):=by
 have O:=C.ok;have cd:=O.st
 have lP:xX c=(if c.state=0 then some (bz 3 (qg c.s c.aw.length) 0)
   else if c.state=1 then some ⟨4,qg c.s c.aw.length,0,0,c.lk,(c.lk.1,true,c.me)⟩
   else if c.state=2 then some (bz 6 0 0)
   else if c.state=3 then some ⟨7,0,c.now,c.now+1,bK,bK⟩
   else if c.state=4 then some (bz 3 (jZ c.seen c.at_).1 0)
   else if c.state=5 then some (bz 2 (yF c.cells c.at_).1 (yF c.cells c.at_).2)
   else if c.state=6 then some ⟨5,qg c.s c.at_,0,0,bK,(c.now+1,false,0)⟩
   else some ⟨5,qg c.s c.at_,0,0,bK,qP c.aw c.at_⟩):=by
  simp_all[xX]
 have ik:∀k:Nat,k<c.s.length→∃z,c.s[k]? =some z∧qg c.s (k:Int)=z∧0≤z∧z<S.ae:=λk hk=>⟨c.s[k],iW hk,GV hk,C.s _ (List.getElem_mem hk)⟩
 have hnn:=MO.n;have same:∀{M':jX} {d:q9},M'.l=M.l→Kp c d→∀j,0≤j→j<S.ae→(qP M'.l j).2.1=true→(qP M'.l j=qP M.l j∧(holds c j→d.p.fin=0∧holds d j))∨((qP M'.l j).2.2=me∧d.p.fin=0∧holds d j) :=
  λhl K j _ _ _=>.inl ⟨by rw[hl],λh=>K.holds h⟩
 by_cases s0:c.state=0
 ·obtain⟨z,hz,hn,z0,z1⟩:=ik _ (O.hY hp omQ);refine⟨bz 3 z 0,by grind,?_⟩;rw[VV MO z0 z1];have hA:vB ⟨0,qP M.l z,false,0⟩:=YV omQ;have hk:=yP O hA;have et:qn c ⟨0,qP M.l z,false,0⟩=if(qP M.l z).2.1=true then zx c (qP M.l z)else{ c with lk:=qP M.l z,state:=1 }:=by
   rw[jj hp rfl,iJ (.inl s0)];unfold yH;grind
  have rG:=MO.lk z z0 z1;dsimp only;rw[et]at hk ⊢;by_cases hh:(qP M.l z).2.1=true
  ·rw[iJ hh]at hk ⊢;have K:=qWu (l:=qP M.l z) hp omQ;exact⟨rfl,hA,MO.aT _,C.kp K hk (Int.le_refl _) omQ (λh=>by omega) omQ,⟨Int.le_refl _,by grind⟩,same rfl K⟩
  ·rw[iQ hh]at hk ⊢;have hf:(qP M.l z).2.1=false:=by grind
   refine⟨rfl,hA,MO.aT _,⟨C.me,hk,C.s,C.seen,C.cells,C.aw,λ_=>⟨?_,rG.2⟩,λh=>(by grind),λh=>absurd h (by simp)⟩,⟨Int.le_refl _,by grind⟩,λj _ _ _=>.inl ⟨rfl,λh=>⟨hp,?_⟩⟩⟩
   ·have:=rG.1;unfold vn at this;grind
   ·obtain⟨k,h1,h2,_⟩:=h;exact⟨k,h1,h2,λh=>absurd h (by simp)⟩
 by_cases s1:c.state=1
 ·have ig:=O.hY hp omQ;obtain⟨z,hz,hn,z0,z1⟩:=ik _ ig;obtain⟨l1,l2⟩:=C.s1 s1;have hl:=MO.l;refine⟨⟨4,z,0,0,c.lk,(c.lk.1,true,c.me)⟩,by grind,?_⟩;have hx:vn (c.lk.1,true,c.me):=by rw[J4,C.me];omega
  by_cases he:qP M.l z=c.lk
  ·have e:qF M ⟨4,z,0,0,c.lk,(c.lk.1,true,c.me)⟩=(⟨0,bK,true,0⟩,{ M with l:=M.l.set z.toNat (c.lk.1,true,c.me),aT:=M.aT+1 }):=by
    refine J3 (M:=M) (N:={ M with l:=M.l.set z.toNat (c.lk.1,true,c.me) }) (.inr (.inl rfl)) ?_ rfl;simp_all[Xi,iQ]
   rw[e];have hA:vB ⟨0,bK,true,0⟩:=YV omQ;have hk:=yP O hA;have et:qn c ⟨0,bK,true,0⟩=ju { c with aw:=c.aw++[c.lk] }:=by rw[jj hp rfl,iJ (.inr s1)];unfold yH;grind
   dsimp only;rw[et]at hk ⊢;have FE:(ju { c with aw:=c.aw++[c.lk] }).state=0∨(ju { c with aw:=c.aw++[c.lk] }).state=2:=by
    unfold ju;grind
   have hw:(ju { c with aw:=c.aw++[c.lk] }).aw=c.aw++[c.lk]:=rfl;refine⟨rfl,hA,MO.put z0 z1 hx l2 _,⟨C.me,hk,C.s,C.seen,C.cells,λw hw=>?_,λh=>omQ,λh=>omQ,λh=>by omega⟩,⟨Int.le_refl _,by grind⟩,λj j0 j1 hj=>?_⟩
   ·rcases List.mem_append.1 hw with hw |hw
    ·exact C.aw w hw
    grind
   ·have grow:∀{j},holds c j→holds (ju { c with aw:=c.aw++[c.lk] }) j:=λ⟨k,h1,h2,_⟩=>⟨k,h1,by grind,λh=>by omega⟩;have rz:(qP (M.l.set z.toNat (c.lk.1,true,c.me)) j).2.1=true:=hj;rw[show(({ M with l:=M.l.set z.toNat (c.lk.1,true,c.me),aT:=M.aT+1 }:jX)).l=M.l.set z.toNat (c.lk.1,true,c.me)from rfl];rw[Zr z0 j0 omQ]at rz ⊢;by_cases ej:z=j
    ·subst ej;rw[iJ rfl];exact .inr ⟨C.me,hp,c.aw.length,hz,by grind,λh=>by omega⟩
    ·rw[iQ ej];exact .inl ⟨rfl,λh=>⟨hp,grow h⟩⟩
  ·have e:qF M ⟨4,z,0,0,c.lk,(c.lk.1,true,c.me)⟩=(dM,{ M with aT:=M.aT+1 }):=by
    refine J3 (M:=M) (N:=M) (.inr (.inl rfl)) ?_ rfl;simp_all[Xi,iQ]
   rw[e];have hA:vB dM:=YV omQ;have hk:=yP O hA;have et:qn c dM={ c with state:=0 }:=by rw[jj hp rfl,iJ (.inr s1)];unfold yH;rw[iQ (λh=>s0 h.1),iQ s0,iQ (by nofun)]
   dsimp only;rw[et]at hk ⊢;refine⟨rfl,hA,MO.aT _,⟨C.me,hk,C.s,C.seen,C.cells,C.aw,λh=>(by grind),λh=>(by grind),λh=>absurd h (by simp)⟩,⟨Int.le_refl _,by grind⟩,λj _ _ _=>.inl ⟨rfl,λ⟨k,h1,h2,_⟩=>⟨hp,k,h1,h2,λh=>absurd h (by simp)⟩⟩⟩
 by_cases s2:c.state=2
 ·refine⟨bz 6 0 0,by grind,?_⟩;have e:qF M (bz 6 0 0)=(⟨M.n,bK,false,0⟩,{ M with aT:=M.aT+1 }):=kt (.inl rfl) rfl rfl;rw[e];have hA:vB ⟨M.n,bK,false,0⟩:=YV omQ;have hk:=yP O hA;have et:qn c ⟨M.n,bK,false,0⟩=if 4611686018427387903≤M.n then jN c 4 7 (-1)else{ c with now:=M.n,state:=3 }:=by
   rw[jj hp rfl,iQ omQ,iJ (.inl s2)];simp_all[xe]
  dsimp only;rw[et]at hk ⊢;by_cases hc:4611686018427387903≤M.n
  ·rw[iJ hc]at hk ⊢;have K:=Vc (f:=4) (e:=7) (y:=-1) hp;exact⟨rfl,hA,MO.aT _,C.kp K hk (Int.le_refl _) omQ (λh=>by omega) omQ,⟨Int.le_refl _,by grind⟩,same rfl K⟩
  ·rw[iQ hc]at hk ⊢;exact⟨rfl,hA,MO.aT _,⟨C.me,hk,C.s,C.seen,C.cells,C.aw,λh=>(by grind),λ_=>(by grind),λh=>absurd h (by simp)⟩,⟨Int.le_refl _,by grind⟩,λj _ _ _=>.inl ⟨rfl,λ⟨k,h1,h2,_⟩=>⟨hp,k,h1,h2,λh=>absurd h (by simp)⟩⟩⟩
 by_cases s3:c.state=3
 ·have ma:=C.s3 s3;have lW:0≤c.now:=by have:=O.ar;grind[zF]
  have oX:=(O.Lx omQ omQ).1;refine⟨⟨7,0,c.now,c.now+1,bK,bK⟩,by grind,?_⟩;by_cases hq:M.n=c.now
  ·have e:qF M ⟨7,0,c.now,c.now+1,bK,bK⟩=(⟨0,bK,true,0⟩,{ M with n:=c.now+1,aT:=M.aT+1 }):=by
    refine kt (M:=M) (N:={ M with n:=c.now+1 }) (.inr rfl) ?_ rfl;unfold JZ;grind
   rw[e];have hA:vB ⟨0,bK,true,0⟩:=YV omQ;have hk:=yP O hA;have et:qn c ⟨0,bK,true,0⟩=if c.now=c.ad then zj c else xF c:=by rw[jj hp rfl,iQ omQ,iJ (.inr s3)];simp_all[xe]
   dsimp only;rw[et]at hk ⊢;have K:Kp c (if c.now=c.ad then zj c else xF c):=by
    split
    ·exact NS hp omQ oX
    ·exact qZP hp omQ omQ oX
   exact⟨rfl,hA,⟨MO.w,MO.l,by grind,λj a b=>⟨(MO.lk j a b).1,by have:=(MO.lk j a b).2;grind⟩⟩,C.kp K hk (by grind) omQ (λ_ _=>Int.le_refl _) omQ,⟨by grind,by grind⟩,same rfl K⟩
  ·have e:qF M ⟨7,0,c.now,c.now+1,bK,bK⟩=(dM,{ M with aT:=M.aT+1 }):=by
    refine kt (M:=M) (N:=M) (.inr rfl) ?_ rfl;unfold JZ;grind
   rw[e];have hA:vB dM:=YV omQ;have hk:=yP O hA;have et:qn c dM={ c with state:=2 }:=by rw[jj hp rfl,iQ omQ,iJ (.inr s3)];unfold xe;rw[iQ (λh=>s2 h.1),iQ s2,iJ (by rfl)]
   dsimp only;rw[et]at hk ⊢;exact⟨rfl,hA,MO.aT _,⟨C.me,hk,C.s,C.seen,C.cells,C.aw,λh=>(by grind),λh=>(by grind),λh=>absurd h (by simp)⟩,⟨Int.le_refl _,by grind⟩,λj _ _ _=>.inl ⟨rfl,λ⟨k,h1,h2,_⟩=>⟨hp,k,h1,h2,λh=>absurd h (by simp)⟩⟩⟩
 by_cases s4:c.state=4
 ·have oX:=(O.Lx omQ omQ).1;have dJ:=O.A3 hp s4;have dI:=O.lo;have hz:0≤(jZ c.seen c.at_).1∧(jZ c.seen c.at_).1<S.ae:=by
   refine C.seen _ ?_;simp_all[jZ,List.getElem_mem]
  refine⟨bz 3 (jZ c.seen c.at_).1 0,by grind,?_⟩;rw[VV MO hz.1 hz.2];generalize qP M.l (jZ c.seen c.at_).1=l;have hA:vB ⟨0,l,false,0⟩:=YV omQ;have hk:=yP O hA;have et:qn c ⟨0,l,false,0⟩=xI c l:=by rw[jj hp rfl,iQ omQ,iQ omQ,iJ s4]
  dsimp only;rw[et]at hk ⊢;have K:Kp c (xI c l):=by
   unfold xI
   split
   ·exact qWu hp omQ
   ·split
    ·grind[Vc]
    ·have K:=qZP (c:={ c with at_:=c.at_+1 }) hp (by grind) (by grind) oX;exact⟨K.me,K.s,K.seen,K.cells,K.aw,K.now,K.h,K.f,K.st⟩
  exact⟨rfl,hA,MO.aT _,C.kp K hk (Int.le_refl _) omQ (λh _=>C.s4 omQ omQ) omQ,⟨Int.le_refl _,by grind⟩,same rfl K⟩
 by_cases s5:c.state=5
 ·have dJ:=O.FH hp s5;have dI:=O.lo;have oX:c.aw.length=c.s.length:=by have:=O.ar;grind[zF]
  have hz:1≤(yF c.cells c.at_).1∧(yF c.cells c.at_).1<S.words:=by refine C.cells _ ?_;simp_all[yF,List.getElem_mem]
  have hw:=MO.w;refine⟨bz 2 (yF c.cells c.at_).1 (yF c.cells c.at_).2,by grind,?_⟩;generalize yF c.cells c.at_=q at hz;have e:qF M (bz 2 q.1 q.2)=(dM,{ M with w:=M.w.set q.1.toNat q.2,aT:=M.aT+1 }):=by refine V8 (M:=M) (N:={ M with w:=M.w.set q.1.toNat q.2 }) (.inr rfl) ?_ rfl;unfold Kk;rw[iQ (by show¬(q.1<1∨(M.w.length:Int)≤q.1);omega),iQ (by nofun)];rfl
  rw[e];have hA:vB dM:=YV omQ;have hk:=yP O hA;have et:qn c dM=jo { c with at_:=c.at_+1 }:=by rw[jj hp rfl,iQ omQ,iQ omQ,iQ omQ,iJ s5]
  dsimp only;rw[et]at hk ⊢;have T8:=C.s4 omQ omQ;have K:∀{j},holds c j→(jo { c with at_:=c.at_+1 }).p.fin=0∧holds (jo { c with at_:=c.at_+1 }) j:=λ{j} ⟨k,h1,h2,_⟩=>by
   unfold jo zg
   split
   ·split
    ·grind
    ·exact⟨hp,k,h1,h2,λ_=>(by simp)⟩
   ·exact⟨hp,k,h1,h2,λh=>absurd h (by grind)⟩
  have F:(jo { c with at_:=c.at_+1 }).me=c.me∧(jo { c with at_:=c.at_+1 }).s=c.s∧(jo { c with at_:=c.at_+1 }).seen=c.seen∧(jo { c with at_:=c.at_+1 }).cells=c.cells∧(jo { c with at_:=c.at_+1 }).aw=c.aw∧(jo { c with at_:=c.at_+1 }).now=c.now∧5≤(jo { c with at_:=c.at_+1 }).state:=by
   unfold jo zg
   grind
  generalize jo { c with at_:=c.at_+1 }=d at*;obtain⟨f1,f2,f3,f4,f5,f6,f7⟩:=F;refine⟨rfl,hA,⟨by grind,MO.l,MO.n,MO.lk⟩,⟨f1.trans C.me,hk,by rw[f2];exact C.s,by rw[f3];exact C.seen,by rw[f4];exact C.cells,by rw[f5];exact C.aw,λh=>omQ,λh=>omQ,λ_ _=>by grind⟩,⟨Int.le_refl _,by grind⟩,λj _ _ _=>.inl ⟨rfl,K⟩⟩
 have nZ:∀(z:Int) (k:Nat) (x:cK) (d:q9),c.s[k]? =some z→0≤z→z<S.ae→vn x→x.2.1=false→x.1≤M.n→c.at_=(k:Int)→6≤c.state→xH d→d.me=c.me→d.s=c.s→d.seen=c.seen→d.cells=c.cells→d.aw=c.aw→d.now=c.now→d.state=c.state→d.at_=c.at_+1→(d.p.fin≠0→c.aw.length≤k+1)→
   qWC S M c me (dM,{ M with l:=M.l.set z.toNat x,aT:=M.aT+1 }) d:=λz k x d hz z0 z1 hx hxf T9 hak h6 hk g1 g2 g3 g4 g5 g6 g7 g8 g9=>by
  have hl:=MO.l;refine⟨rfl,YV omQ,MO.put z0 z1 hx T9 _,⟨g1.trans C.me,hk,by rw[g2];exact C.s,by rw[g3];exact C.seen,by rw[g4];exact C.cells,by rw[g5];exact C.aw,λh=>omQ,λh=>omQ,λh1 h2=>by rw[g6];exact C.s4 omQ omQ⟩,⟨Int.le_refl _,by grind⟩,λj j0 j1 hj=>?_⟩;have rz:(qP (M.l.set z.toNat x) j).2.1=true:=hj;show(qP (M.l.set z.toNat x) j=qP M.l j∧_)∨_;rw[Zr z0 j0 omQ]at rz ⊢;by_cases ej:z=j
  ·grind
  ·rw[iQ ej];refine .inl ⟨rfl,λ⟨q,h1,h2,h3⟩=>?_⟩;have h3:=h3 h6;have bJ:q≠k:=λe=>by
    grind
   refine⟨?_,q,by grind,by grind,λ_=>by omega⟩;grind
 by_cases s6:c.state=6
 ·have dJ:=O.FI hp s6;have dI:=O.lo;obtain⟨k,hk⟩:∃k:Nat,c.at_=k:=⟨c.at_.toNat,by omega⟩;obtain⟨z,hz,hn,z0,z1⟩:=ik k omQ;have T8:=C.s4 omQ omQ;have ma:0≤c.now:=by have:=O.ar;grind[zF]
  have oX:c.aw.length=c.s.length:=by have:=O.ar;grind[zF]
  refine⟨⟨5,z,0,0,bK,(c.now+1,false,0)⟩,by grind,?_⟩;have hx:vn (c.now+1,false,0):=by grind[Yh]
  rw[Oi MO z0 z1 hx];have hA:vB dM:=YV omQ;have F7:=yP O hA;have et:qn c dM=zg { c with at_:=c.at_+1 }:=by rw[jj hp rfl,iQ omQ,iQ omQ,iQ omQ,iQ omQ,iJ s6]
  dsimp only;rw[et]at F7 ⊢;refine nZ z k _ _ hz z0 z1 hx rfl T8 hk omQ F7 ?_ ?_ ?_ ?_ ?_ ?_ ?_ ?_ ?_<;>unfold zg<;>split<;>first |rfl |skip
  all_goals grind
 ·have s7:c.state=7:=by omega
  have dJ:=O.Dn hp s7;have dI:=O.lo;obtain⟨k,hk⟩:∃k:Nat,c.at_=k:=⟨c.at_.toNat,by omega⟩;have nh:k<c.aw.length:=by omega
  obtain⟨z,hz,hn,z0,z1⟩:=ik k (by have:=O.aw;omega);have hw:=C.aw _ (List.getElem_mem nh);have ew:qP c.aw c.at_=c.aw[k]:=by unfold qP;grind
  refine⟨⟨5,z,0,0,bK,c.aw[k]⟩,by grind,?_⟩;have hx:vn c.aw[k]:=by unfold vn;grind
  rw[Oi MO z0 z1 hx];have hA:vB dM:=YV omQ;have F7:=yP O hA;have et:qn c dM=zc { c with at_:=c.at_+1 }:=by rw[jj hp rfl,iQ omQ,iQ omQ,iQ omQ,iQ omQ,iQ omQ]
  dsimp only;rw[et]at F7 ⊢;refine nZ z k _ _ hz z0 z1 hx (by grind) hw.2 hk omQ F7 ?_ ?_ ?_ ?_ ?_ ?_ ?_ ?_ ?_<;>unfold zc<;>split<;>first |rfl |skip
  all_goals grind
end
section
variable {S:jz} {M:jX} {x y:qf} {me n:Int}
theorem V4 {o:dG} (h:o.kind=1∨o.kind=3∨o.kind=6∨o.kind=8∨o.kind=9):(qF M o).2.w=M.w∧(qF M o).2.l=M.l∧(qF M o).2.n=M.n:=by
 have key:∀r:cE×jX,r.2.w=M.w∧r.2.l=M.l∧r.2.n=M.n→(if r.1.err=0 then(r.1,{ r.2 with aT:=r.2.aT+1 })else r).2.w=M.w∧(if r.1.err=0 then(r.1,{ r.2 with aT:=r.2.aT+1 })else r).2.l=M.l∧(if r.1.err=0 then(r.1,{ r.2 with aT:=r.2.aT+1 })else r).2.n=M.n:=λr hr=>by
  grind
 unfold qF;refine key _ ?_;unfold Kk Xi JZ VO;rcases h with h |h |h |h |h<;>rw[h]<;>simp only[reduceIte,Int.reduceEq,or_false,or_self,or_true]<;>(repeat' split)<;>simp
theorem yu.same {M':jX} (MO:yu S M) (h:M'.w=M.w∧M'.l=M.l∧M'.n=M.n):yu S M' :=
 ⟨by rw[h.1];exact MO.w,by rw[h.2.1];exact MO.l,by rw[h.2.2];exact MO.n,by rw[h.2.1,h.2.2];exact MO.lk⟩
theorem wY.mono {n':Int} {c:q9} (C:wY S n c me) (h:n≤n'):wY S n' c me :=
 ⟨C.me,C.ok,C.s,C.seen,C.cells,λw hw=>⟨(C.aw w hw).1,Int.le_trans (C.aw w hw).2 h⟩,λh1=>⟨(C.s1 h1).1,Int.le_trans (C.s1 h1).2 h⟩,C.s3,λa b=>Int.le_trans (C.s4 a b) h⟩
structure AttL0 (S:jz) (x:qf) (me:Int):Prop where
  me:x.me=me
  set:x.set=S
  r:∀y∈x.r,0≤y.1∧y.1<S.ae
  inv:cF x.v
structure vM (S:jz) (n:Int) (x:qf) (i:Int):Prop extends AttL0 S x i where
  f:x.state=3→(0≤x.f.aB∧x.f.aB<S.ae)∧x.f.p.fin=0
  c:x.state=6→∀c,x.c=some c→wY S n c i∧c.p.fin=0
def QI (x:qf) (j:Int):Prop:=x.state=6∧∃c,x.c=some c∧c.p.fin=0∧holds c j
theorem vM.mono {n':Int} (L:vM S n x me) (h:n≤n'):vM S n' x me:=⟨L.toAttL0,L.f,λh6 c hc=>⟨(L.c h6 c hc).1.mono h,(L.c h6 c hc).2⟩⟩
theorem AttL0.out (L:AttL0 S x me) {f e z:Int}:vM S n (zT x f e z) me:=⟨⟨L.me,L.set,L.r,L.inv⟩,λh=>(by cases h),λh=>by cases h⟩
theorem AttL0.ask (SO:xZ S) (L:AttL0 S x me) {p:Int} (hp:0≤p):vM S n (QF x p) me :=
 ⟨⟨L.me,L.set,L.r,L.inv⟩,λ_=>⟨(by show 0≤ofM p x.set.ae x.set.wide∧ofM p x.set.ae x.set.wide<S.ae;rw[L.set];simp_all[qxl]),rfl⟩,λh=>by cases h⟩
theorem AttL0.later (L:AttL0 S x me) {s:Int} (hs:s=4∨s=5):vM S n (wX x s) me :=
 ⟨⟨L.me,L.set,L.r,L.inv⟩,λh=>(by have h:s=3:=h;omega),λh=>by have h:s=6:=h;omega⟩
theorem vM.stamped (L:vM S n x me):vM S n (jV x) me:=by
 unfold jV
 repeat' split
 all_goals exact⟨⟨L.me,L.set,L.r,L.inv⟩,L.f,L.c⟩
theorem Gt:(jV x).state=x.state∧(jV x).c=x.c:=by
 unfold jV
 grind
theorem jJM (SO:xZ S) {st:Int} {r:List zd} {cs:List Cl} {sp:Int} (hr:r.length≤16) (hr2:∀y∈r,0≤y.1∧y.1<S.ae) (h0:cs≠[]) (hl:cs.length≤1000) (hc:∀q∈cs,1≤q.1∧q.1<S.words) :
  wY S n (Jv me sp st r cs S.ae S.wide) me∧(Jv me sp st r cs S.ae S.wide).p.fin=0:=by
 have hs:∀z,(Jv me sp st r cs S.ae S.wide).state=z→z=0∨z=2:=λz h=>by
  grind[Jv,ju]
 refine⟨⟨rfl,qge hr (by grind) hl λc h=>by grind,λz hz=>?_,hr2,hc,λw hw=>(by cases hw),λh=>(by grind),λh=>(by grind),λh4 h6=>(by grind)⟩,rfl⟩;have hz:z∈xJ cs S.ae S.wide:=hz;rw[Ju λc h=>by grind]at hz;obtain⟨c,SF,rfl⟩:=List.mem_map.1 hz;exact qxl SO (by grind)
theorem AttL0.iR (SO:xZ S) (B:Qk x) (hj:bS True x.v x.aN) (L:AttL0 S x me):vM S n (zn x) me:=by
 have D:=GC B.aJ B.fr hj;have dY:cF (xK x).2.v:=by rw[qZH];exact qJ8 L.inv
 have L':AttL0 S (xK x).2 me:=⟨D.same.1.trans L.me,D.same.2.1.trans L.set,by rw[D.same.2.2.1];exact L.r,dY⟩;have bP:((xK x).2.v.sz:Int)=S.words:=by rw[D.kept.1,B.sz,L.set]
 have hm:=K6 D.aJ.1;unfold zn;generalize hd:(xK x).1=ke at*;generalize(xK x).2=d at*;unfold yX
 split
 ·rename_i h1;have:=(D.aC h1).1;exact L'.ask SO omQ
 ·split
  ·exact AttL0.later (x:={ d with dB:=true }) ⟨L'.me,L'.set,L'.r,L'.inv⟩ (.inr rfl)
  ·split
   ·exact L'.out
   ·split
    ·exact L'.out
    ·rename_i bJ;have hr:d.r.length≤16:=by rw[D.same.2.2.1];exact B.r
     refine⟨⟨L'.me,L'.set,L'.r,L'.inv⟩,λh=>(by grind),λ_ c hc=>?_⟩;cases hc;have e1:=L'.set;have e2:=L'.me;rw[e1,e2];refine jJM SO hr L'.r bJ omQ λq hq=>?_;obtain⟨lv,h1,h2⟩:=Nd hq;have:=L'.inv lv h1 q h2;omega
theorem qG7 {r:List zd} {s:zd} (h:∀y∈r,0≤y.1∧y.1<S.ae) (hs:0≤s.1∧s.1<S.ae):∀y∈(gT r s).2,0≤y.1∧y.1<S.ae:=by
 unfold gT
 grind
theorem qKc {V:VM} (h:cF V) {p w:Int}:cF (xz V p w).2:=by grind[kQ,cF]
theorem AttL0.mV (SO:xZ S) (B:Qk x) (hj:bS True x.v x.aN) (hw:0≤x.f.word∧x.f.word<18446744073709551616) (hs:0≤x.f.aB∧x.f.aB<S.ae) (hr0:x.f.p.fin=2∨x.f.p.fin=6) (L:AttL0 S x me):vM S n (jt x) me:=by
 unfold jt
 split
 ·exact L.later (.inl rfl)
 ·rename_i h6;have hf:x.f.p.fin=2:=by omega
  have es:yZ x.f=(x.f.aB,x.f.lk.1):=by simp_all[yZ]
  split
  ·have rS:=Gj hw;have k:=kQ (V:=x.v) (p:=x.v.aC) (x:=xn x.f);refine AttL0.iR SO (x:={ x with r:=(gT x.r (yZ x.f)).2,v:=(xz x.v x.v.aC (xn x.f)).2 }) ⟨B.set,Qu B.aJ rS,by rw[k.2];exact B.sz,by rw[k.1];exact B.fr,Xv B.r,(hj.lN (p:=x.v.aC) rS).dead not_false,B.c⟩ (hj.lN (p:=x.v.aC) rS) ⟨L.me,L.set,?_,qKc L.inv⟩;exact qG7 L.r (by grind)
  ·split
   ·exact L.out
   ·exact L.out
structure qW4 (S:jz) (M:jX) (x:qf) (me:Int) (r:cE×jX) (y:qf):Prop where
  mem:yu S r.2
  lk:vM S r.2.n y me
  n:M.n≤r.2.n∧r.2.n≤M.n+1
  held:∀j,0≤j→j<S.ae→(qP r.2.l j).2.1=true→(qP r.2.l j=qP M.l j∧(QI x j→QI y j))∨((qP r.2.l j).2.2=me∧QI y j)
theorem jJS {f:wJ} {a:cE} (hp:f.p.fin=0) (ha:a.err=0):(jP f a).p.fin=0∨(jP f a).p.fin=2∨(jP f a).p.fin=5∨(jP f a).p.fin=6:=by
 unfold jP;rw[Qq hp ha,iQ (λh=>by grind)]
 split
 ·grind
 ·split
  ·exact .inr (.inl rfl)
  ·unfold gD
   split
   ·split
    ·exact .inl (cJ.trans hp)
    ·exact .inr (.inr (.inl rfl))
   ·split
    ·exact .inr (.inr (.inr rfl))
    grind
theorem jK7 {f:wJ} {a:cE}:(jP f a).aB=f.aB:=by
 grind[jP,gD]
theorem jK0 (SO:xZ S) (MO:yu S M) (O:zG x) (L:vM S M.n x me) (hm:0≤me∧me<4) (ha:∀o,jd x=some o→vB (qF M o).1) {o:dG} (hn:jd x=some o):qW4 S M x me (qF M o) (qL x (qF M o).1):=by
 have ha:=ha o hn;have cd:=O.st;by_cases h6:x.state=6
 ·--at its commit
  obtain⟨c,hc⟩:∃c,x.c=some c:=by
   cases h:x.c with
   |none=>exact absurd h (O.c6 h6)
   |some c=>simp
  obtain⟨CL,hf⟩:=L.c h6 c hc;obtain⟨o',bQ,K⟩:=Uf MO CL hm hf;have:o'=o:=by unfold jd at hn;grind
  subst this;generalize qF M o'=r at*;have et:qL x r.1=q8 { x with c:=some (qn c r.1) }:=by unfold qL;rw[iQ omQ,iQ (λh=>h K.err),iQ omQ,iQ omQ,iQ omQ,iQ omQ,iQ omQ,iJ h6,hc];rfl
  rw[et];generalize qn c r.1=d at*;have ef:zN { x with c:=some d }=(d.p.fin,d.p.ch):=by simp_all[zN]
  have LB:vM S r.2.n x me:=L.mono K.n.1;have out:∀f e z,vM S r.2.n (zT { x with c:=some d } f e z) me:=λf e z=>AttL0.out (x:={ x with c:=some d }) ⟨L.me,L.set,L.r,L.inv⟩;unfold q8;rw[ef];by_cases h0:d.p.fin=0
  ·rw[iJ h0];have hA:∀j,holds d j→QI (jV { x with c:=some d }) j:=λj h=>⟨Gt.1.trans h6,d,Gt.2,h0,h⟩;refine⟨K.mem,vM.stamped ⟨⟨L.me,L.set,L.r,L.inv⟩,L.f,λ_ e he=>?_⟩,K.n,λj j0 j1 hj=>?_⟩
   ·cases he;exact⟨K.dQ,h0⟩
   ·rcases K.held j j0 j1 hj with⟨h1,h2⟩ |⟨h1,_,h2⟩
    ·exact .inl ⟨h1,λ⟨_,e,he,_,hh⟩=>by grind⟩
    grind
  ·have none:∀z:qf,∀j,0≤j→j<S.ae→(qP r.2.l j).2.1=true→(qP r.2.l j=qP M.l j∧(QI x j→QI z j))∨((qP r.2.l j).2.2=me∧QI z j):=λz j j0 j1 hj=>by
    rcases K.held j j0 j1 hj with⟨h1,h2⟩ |⟨_,h1,_⟩
    ·exact .inl ⟨h1,λ⟨_,e,he,_,hh⟩=>by grind⟩
    grind
   rw[iQ h0]
   split
   ·exact⟨K.mem,(out ..).stamped,K.n,none _⟩
   ·unfold jr;rw[iQ (by grind),iQ (by grind),iQ (by grind)];exact⟨K.mem,(out ..).stamped,K.n,none _⟩
 ·--elsewhere it writes nothing
  have hk:o.kind=1∨o.kind=3∨o.kind=6∨o.kind=8∨o.kind=9:=by
   unfold jd at hn
   split at hn
   ·grind[bz]
   ·split at hn
    ·grind[bz]
    ·split at hn
     ·grind[bz]
     ·split at hn
      ·grind[bz]
      ·split at hn
       ·grind
       ·split at hn
        ·grind[kl,bz]
        ·try rw[iQ h6]at hn
         grind[ko,bz]
  have e3:=V4 (M:=M) hk;have fin:∀y,vM S M.n y me→qW4 S M x me (qF M o) y:=λy hy=>by
   refine⟨MO.same e3,by grind,by grind,λj _ _ _=>.inl ⟨by grind,λh=>absurd h.1 h6⟩⟩
  refine fin _ ?_;generalize(qF M o).1=a at*;have G:∀(s:Int) (b:Bool) (z w fin err ch:Int),s≠3→s≠6→vM S M.n { x with state:=s,begun:=b,bB:=z,ad:=w,fin:=fin,err:=err,ch:=ch } me:=λs b z w fin err ch h1 h2=>⟨⟨L.me,L.set,L.r,L.inv⟩,λh=>absurd h h1,λh=>absurd h h2⟩;unfold qL
  split
  ·grind
  ·split
   ·exact G 8 x.begun x.bB x.ad 4 a.err (-1) od od
   ·rename_i F8;have F8:a.err=0:=by omega
    split
    ·grind
    ·split
     ·grind
     ·split
      ·rename_i h2;exact AttL0.iR SO O.b (O.aN.same λ_=>by omega) L.toAttL0
      ·split
       ·grind
       ·split
        ·rename_i h3;have hf:=jJS (L.f h3).2 F8;have hfs:=jK7 (f:=x.f) (a:=a);have uc:=XP (O.f h3).2 ha;have B:=O.b;have hj:bS True x.v x.aN:=O.aN.same λ_=>by omega
         have tK:=(L.f h3).1;generalize jP x.f a=f at*;have LF:AttL0 S { x with f:=f } me:=⟨L.me,L.set,L.r,L.inv⟩;unfold q8;have ef:zN { x with f:=f }=(f.p.fin,f.p.ch):=by simp_all[zN]
         rw[ef];refine vM.stamped ?_
         split
         ·rename_i LM;exact⟨LF,λ_=>⟨by grind,LM⟩,λh=>absurd h h6⟩
         ·rename_i LM
          split
          ·exact LF.out
          ·rename_i hf5;unfold jr;rw[iJ (by grind)];exact AttL0.mV SO (x:={ x with f:=f }) ⟨B.set,B.aJ,B.sz,B.fr,B.r,B.aN,B.c⟩ hj uc (by grind) (by grind) LF
        ·rename_i h3;have LE:∀e z,AttL0 S { x with e:=e,ad:=z } me:=λe z=>⟨L.me,L.set,L.r,L.inv⟩;have h8:x.state=4∨x.state=5:=by omega
         unfold q8;refine vM.stamped ?_
         split
         ·exact⟨LE _ x.ad,λh=>absurd h h3,λh=>absurd h h6⟩
         ·split
          ·exact(LE _ x.ad).out
          ·unfold jr;rw[iQ (by grind)]
           split
           ·rename_i h4;have h4:x.state=4:=h4;have:=O.aC omQ omQ;exact(LE _ _).ask SO (by grind)
           ·rename_i h4;have h4:¬x.state=4:=h4;rw[iJ (by grind)];exact(LE _ _).out
structure ThrLk (S:jz) (n:Int) (t:qd) (i:Int):Prop where
  me:t.me=i
  set:t.set=S
  a:t.state=1→∀x,t.now=some x→vM S n x i
def vX (t:qd) (j:Int):Prop:=t.state=1∧∃x,t.now=some x∧QI x j
variable {t u:qd} {i:Int}
theorem ThrLk.mono {n':Int} (L:ThrLk S n t i) (h:n≤n'):ThrLk S n' t i:=⟨L.me,L.set,λh1 x hx=>(L.a h1 x hx).mono h⟩
theorem qYU (_:xZ S) {j:GT}:vM S n (NZ me S j) me :=
 ⟨⟨rfl,rfl,λy hy=>(by cases hy),λx hx c hc=>by
  have hx:x∈[([],[])]:=hx
  grind⟩,λh=>(by cases h),λh=>by cases h⟩
structure Aa (S:jz) (n:Int) (t:qd) (i:Int):Prop extends ThrLk S n t i where
  no:∀j,¬vX t j
theorem Gw (SO:xZ S) (h1:t.me=i) (h2:t.set=S):Aa S n (zO t) i:=by
 have hS:jO t.set=S:=by grind[kF]
 unfold zO
 split
 ·exact⟨⟨h1,h2,λh=>by simp⟩,λj h=>by cases h.1⟩
 ·refine⟨⟨h1,h2,λ_ x hx=>?_⟩,λj h=>?_⟩
  ·grind[Option.some.inj,QZ,qYU,Qm]
  ·obtain⟨_,x,hx,h6,_⟩:=h;have hx:=Option.some.inj hx;subst hx
   split at h6
   ·cases h6
   ·cases h6
theorem Yx (h1:t.me=i) (h2:t.set=S) (h:t.state≠1):Aa S n t i:=⟨⟨h1,h2,λh'=>absurd h' h⟩,λ_ h'=>h h'.1⟩
theorem Jt (SO:xZ S) (h1:t.me=i) (h2:t.set=S):Aa S n (xw t) i:=Gw SO h1 h2
theorem qYC (SO:xZ S) (h1:t.me=i) (h2:t.set=S) (draw:Int):Aa S n (xE t draw) i:=by
 grind[xE,Gw,Yx]
theorem qvp (SO:xZ S) (h1:t.me=i) (h2:t.set=S) (h5:t.state≠1):Aa S n (yQ t) i:=by
 grind[yG,Yx,Jt,Gw,yQ]
theorem qyi (SO:xZ S) (h1:t.me=i) (h2:t.set=S) (draw pick:Int):Aa S n (zP t x draw pick) i:=by
 unfold zP;dsimp only
 split
 ·grind[Yx,qYC,jY]
 ·split
  ·grind[Gw,jY,Yx]
  grind[Qz,Jt,Qr,qvp]
theorem qx7 (SO:xZ S) (L:ThrLk S n t i) (h:t.state≠1):Aa S n (jK t) i:=by
 unfold jK
 split
 ·split
  ·exact Gw SO L.me L.set
  ·exact Yx L.me L.set (by grind)
 ·exact Yx L.me L.set h
structure jQ6 (S:jz) (M:jX) (t:qd) (i:Int) (r:cE×jX) (u:qd):Prop where
  mem:yu S r.2
  lk:ThrLk S r.2.n u i
  n:M.n≤r.2.n∧r.2.n≤M.n+1
  held:∀j,0≤j→j<S.ae→(qP r.2.l j).2.1=true→(qP r.2.l j=qP M.l j∧(vX t j→vX u j))∨((qP r.2.l j).2.2=i∧vX u j)
theorem jK1 (SO:xZ S) (MO:yu S M) (R:Cg M) (O:xr t) (W:cQ t) (L:ThrLk S M.n t i) (hm:0≤i∧i<4) {o:dG} (hn:jb t=some o) (draw pick:Int):jQ6 S M t i (qF M o) (jQ t (qF M o).1 draw pick):=by
 by_cases h1:t.state=1
 ·obtain⟨x,hx⟩:∃x,t.now=some x:=by
   cases h:t.now with
   |none=>exact absurd h (O.c omQ).some
   |some x=>simp
  have OA:=((O.c omQ).now x hx).1;have bQ:jd x=some o:=by simp_all[jb]
  have Ab:=(Xs R (Q4 O W hn)).1
  have K:=jK0 SO MO OA (L.a h1 x hx) hm (λo' hX=>by
   grind) bQ
  generalize qF M o=r at*;have et:jQ t r.1 draw pick=zU t x (qL x r.1) draw pick:=by simp_all[jQ]
  rw[et];generalize qL x r.1=y at*;unfold zU;dsimp only;have hT:∀j,vX t j→QI x j:=λj ⟨_,z,hz,h⟩=>by grind
  split
  ·refine⟨K.mem,⟨L.me,L.set,λ_ z hz=>by cases hz;exact K.lk⟩,K.n,λj j0 j1 hj=>?_⟩;rcases K.held j j0 j1 hj with⟨a,b⟩ |⟨a,b⟩
   ·exact .inl ⟨a,λh=>⟨h1,y,rfl,b (hT j h)⟩⟩
   ·exact .inr ⟨a,h1,y,rfl,b⟩
  ·rename_i he;have h8:y.state=8:=by
    unfold jh at he
    grind
   refine⟨K.mem,(qyi SO (by show t.me=i;exact L.me) (by show t.set=S;exact L.set) draw pick).toThrLk,K.n,λj j0 j1 hj=>?_⟩;rcases K.held j j0 j1 hj with⟨a,b⟩ |⟨a,b⟩
   ·exact .inl ⟨a,λh=>by have:=(b (hT j h)).1;omega⟩
   ·have:=b.1;omega
 ·have hk:o.kind=8:=by
   unfold jb at hn;rw[iQ h1]at hn
   split at hn
   ·cases hn;rfl
   ·split at hn
    ·cases hn;rfl
    grind
  have e3:=V4 (M:=M) (o:=o) omQ;have N:Aa S M.n (jQ t (qF M o).1 draw pick) i:=by
   unfold jQ;rw[iQ h1]
   split
   ·split
    ·exact Yx L.me L.set h1
    ·exact qYC SO L.me L.set _
   ·split
    ·rename_i h5;exact qvp SO L.me L.set (by grind)
    ·exact Yx L.me L.set h1
  exact⟨MO.same e3,by rw[e3.2.2];exact N.toThrLk,by grind,λj _ _ _=>.inl ⟨by grind,λh=>absurd h.1 h1⟩⟩
theorem jJT (SO:xZ S) (L:ThrLk S n t i) {s v:Int}:ThrLk S n (jm t s v) i∧∀j,vX t j→vX (jm t s v) j:=by
 unfold jm
 split
 ·grind
 ·rename_i x hx
  split
  ·split
   ·rename_i h4;exact⟨(Gw SO L.me L.set).toThrLk,λj h=>by have:=h.1;omega⟩
   ·split
    ·exact⟨⟨L.me,L.set,L.a⟩,λj h=>h⟩
    grind
  grind
theorem qZr (W:cQ t):cQ (jK t):=by
 unfold jK
 split
 ·split
  ·simp[gj]
  trivial
 grind
theorem qqa (W:cQ t) {s v:Int}:cQ (jm t s v):=by
 unfold jm
 split
 ·grind
 ·split
  ·split
   ·simp[gj]
   ·split
    all_goals trivial
  grind
structure UL (m:zl):Prop where
  so:xZ m.s
  th:m.s.ag≤4
  mem:yu m.s m.m
  r:Cg m.m
  len:(m.t.length:Int)=m.s.ag
  t:∀(i:Nat) (t:qd),m.t[i]? =some t→xr t∧cQ t∧ThrLk m.s m.m.n t i
  held:∀j,0≤j→j<m.s.ae→(qP m.m.l j).2.1=true→∃(i:Nat) (t:qd),(qP m.m.l j).2.2=(i:Int)∧m.t[i]? =some t∧vX t j
theorem Xr {ts:List qd} {i:Nat} {s v:Int} {k:Nat}:(xm ts i s v)[k]? =(ts[k]?).map λt=>if k=i then t else jm t s v:=by simp[xm,List.getElem?_mapIdx]
theorem UJ {m:zl} (K:UL m) {i:Nat} (hi:i<m.t.length) {draw:Int} (hd:0≤draw):UL (jw m i draw)∧(jw m i draw).s=m.s∧(jw m i draw).aA=m.aA+1∧m.m.n≤(jw m i draw).m.n∧(jw m i draw).m.n≤m.m.n+1:=by
 obtain⟨t,ht⟩:∃t,m.t[i]? =some t:=⟨m.t[i],iW hi⟩;obtain⟨O,W,L⟩:=K.t i t ht;have mc:0≤(i:Int)∧(i:Int)<4:=by have:=K.len;have:=K.th;omega
 unfold jw;rw[ht];dsimp only;have iS:∀(u:qd),(m.t.set i u)[i]? =some u:=λu=>by grind
 have fY:∀(u:qd) {k:Nat},k≠i→(m.t.set i u)[k]? =m.t[k]?:=λu k hk=>by grind
 split
 ·rename_i hn;have h1:t.state≠1∨(t.state=1∧∀j,¬vX t j):=by
   by_cases h1:t.state=1
   ·refine .inr ⟨h1,λj ⟨_,x,hx,h6,c,hc,hf,_⟩=>?_⟩;have hn:jd x=none:=by
     simp_all[jb]
    unfold jd at hn;rw[iQ omQ,iQ omQ,iQ omQ,iQ omQ,iQ omQ,iQ omQ,iJ h6,hc]at hn;have hn:xX c=none:=hn;unfold xX at hn;grind
   grind
  have L':ThrLk m.s m.m.n (jK t) i∧∀j,vX t j→vX (jK t) j:=by
   rcases h1 with h1 |⟨h1,h2⟩
   ·exact⟨(qx7 K.so L h1).toThrLk,λj h=>absurd h.1 h1⟩
   simp_all[jK,omQ]
  refine⟨⟨K.so,K.th,K.mem,K.r,by show((m.t.set i _).length:Int)=_;rw[List.length_set];exact K.len,λk u hu=>?_,λj j0 j1 hj=>?_⟩,rfl,rfl,Int.le_refl _,by grind⟩
  ·have hu:(m.t.set i (jK t))[k]? =some u:=hu;by_cases hk:k=i
   ·grind[Vw,qZr]
   ·rw[fY _ hk]at hu;exact K.t k u hu
  ·obtain⟨k,u,h1,h2,h3⟩:=K.held j j0 j1 hj;grind
 ·rename_i o hn;have T:=jK1 K.so K.mem K.r O W L mc hn draw (m.aA+1);have ho:=Q4 O W hn;obtain⟨a1,a2⟩:=Xs K.r ho;have O':=U7 O a1 hd (pick:=m.aA+1) (draw:=draw);have W':=ZB O W a1 draw (m.aA+1);generalize qF m.m o=r at*;generalize jQ t r.1 draw (m.aA+1)=u at*;have base:∀ts:List qd,ts.length=m.t.length→(∀(k:Nat) (v:qd),ts[k]? =some v→xr v∧cQ v∧ThrLk m.s r.2.n v k∧(k=i→∀j,vX u j→vX v j)∧(k≠i→∀w,m.t[k]? =some w→∀j,vX w j→vX v j))→
    UL { m with aA:=m.aA+1,last:=o,did:=true,m:=r.2,t:=ts }:=λts hl H=>by
   refine⟨K.so,K.th,T.mem,a2,by show(ts.length:Int)=_;rw[hl];exact K.len,λk v hv=>⟨(H k v hv).1,(H k v hv).2.1,(H k v hv).2.2.1⟩,λj j0 j1 hj=>?_⟩;have oL:vX u j→(qP r.2.l j).2.2=(i:Int)→∃(k:Nat) (t:qd),(qP r.2.l j).2.2=(k:Int)∧ts[k]? =some t∧vX t j:=λh e=>by
    grind
   rcases T.held j j0 j1 hj with⟨h1,h2⟩ |⟨h1,h2⟩
   ·obtain⟨k,w,g1,g2,g3⟩:=K.held j j0 j1 (by grind);by_cases hk:k=i
    ·grind
    ·have l7:k<ts.length:=by grind
     exact⟨k,ts[k],by grind,iW l7,(H k _ (iW l7)).2.2.2.2 hk w g2 j g3⟩
   grind
  have one:∀(k:Nat) (v:qd),(m.t.set i u)[k]? =some v→xr v∧cQ v∧ThrLk m.s r.2.n v k∧(k=i→∀j,vX u j→vX v j)∧(k≠i→∀w,m.t[k]? =some w→∀j,vX w j→vX v j):=λk v hv=>by
   by_cases hk:k=i
   ·subst hk;rw[iS]at hv;cases hv;exact⟨O',W',T.lk,λ_ j h=>h,λh=>absurd rfl h⟩
   ·rw[fY _ hk]at hv;obtain⟨b1,b2,b3⟩:=K.t k v hv;exact⟨b1,b2,b3.mono T.n.1,λh=>absurd h hk,λ_ w hw j h=>by grind⟩
  refine⟨?_,rfl,rfl,T.n⟩
  split
  ·refine base _ (by simp[xm]) λk v hv=>?_;rw[Xr]at hv;cases hq:(m.t.set i u)[k]? with
   |none=>grind
   |some q=>
    rw[hq]at hv;have hv:(if k=i then q else jm q o.at_ o.lk.1)=v:=Option.some.inj hv;obtain⟨b1,b2,b3,b4,b5⟩:=one k q hq;by_cases hk:k=i
    ·grind
    ·rw[iQ hk]at hv;subst hv;have wk:=jJT K.so b3 (s:=o.at_) (v:=o.lk.1);grind[ZI,qqa,absurd]
  grind
theorem qYO {s:jz} {aD:List (List (List qR))} (hs:0≤s.start) (hj:∀js∈aD,∀l∈js,(xO l).2=0∧Quiet l):UL (vu s aD):=by
 have so:xZ (jO { s with ag:=((aD.take 4).length:Int) }):=gW hs;have q1:=so.words;have q2:=so.ae;have q3:=so.ag;have q4:=so.start;generalize hS:jO { s with ag:=((aD.take 4).length:Int) }=S at*;have e:qF (vF S) (bz 2 5 14)=(dM,{ vF S with w:=(vF S).w.set 5 14,aT:=1 }):=by refine(V8 (M:=vF S) (N:={ vF S with w:=(vF S).w.set 5 14 }) (a:=dM) (.inr rfl) ?_ rfl);unfold Kk;rw[iQ (by show¬((5:Int)<1∨((List.replicate S.words.toNat (0:Int)).length:Int)≤5);grind)];rfl
 have lkz:∀j,qP (List.replicate S.ae.toNat bK) j=bK:=λj=>by
  unfold qP;grind
 unfold vu;rw[hS];dsimp only;rw[e];refine⟨so,q3.2,⟨?_,?_,?_,λj j0 j1=>?_⟩,?_,?_,λi t ht=>?_,λj j0 j1 hj=>?_⟩
 ·show((((List.replicate S.words.toNat (0:Int)).set 5 14).length:Nat):Int)=S.words;grind
 ·show(((List.replicate S.ae.toNat bK).length:Nat):Int)=S.ae;grind
 ·show 0≤S.start∧S.start<4611686018427387904;omega
 ·show vn (qP (List.replicate S.ae.toNat bK) j)∧(qP (List.replicate S.ae.toNat bK) j).1≤S.start;rw[lkz];exact⟨by trivial,q4.1⟩
 ·have r0:Cg (vF S):=by
   have Q:=qW0 so;refine⟨Q.wd,by rw[Q.n];grind,λz hz=>?_⟩;rw[Q.s]at hz;grind
  grind[Xs,vF,bz]
 ·grind
 ·rw[List.getElem?_map]at ht;by_cases hi:i<S.ag.toNat
  ·rw[List.getElem?_range hi]at ht;have ht:=Option.some.inj ht;subst ht;have A7:∀l∈(((aD.take 4)[i]?).getD []),(xO l).2=0∧Quiet l:=λl hl=>by
    grind
   have O:xr (Uc i S (((aD.take 4)[i]?).getD [])):=qw1 q4.1 A7;have hh:=kF so;have me:max 0 (min (i:Int) ((jO S).ag-1))=(i:Int):=by grind
   refine⟨O,gA _,(Jt so ?_ hh).toThrLk⟩;grind
  grind
 ·have hj:(qP (List.replicate S.ae.toNat bK) j).2.1=true:=hj;rw[lkz]at hj;cases hj
end
section
abbrev QT:Type:=Nat→List Cl
def hv (G:QT) (w0:List Int):Nat→Int→Int
 | 0,p=>qg w0 p
 |k+1,p=>(zk p (G (k+1))).getD (hv G w0 k p)
theorem jJ7 {G:QT} {w0:List Int} {p:Int}:∀(d a:Nat),(∀k,a<k→k≤a+d→zk p (G k)=none)→hv G w0 (a+d) p=hv G w0 a p:=by
 intro d
 induction d with
 |zero=>simp
 |succ d ih=>intro a h;show(zk p (G (a+d+1))).getD (hv G w0 (a+d) p)=_;grind
theorem LN {G:QT} {w0:List Int} {p:Int} {a b:Nat} (La:a≤b) (h:∀k,a<k→k≤b→zk p (G k)=none):hv G w0 b p=hv G w0 a p:=by obtain⟨d,rfl⟩:=Nat.exists_eq_add_of_le La;simp_all[jJ7]
theorem Wa {G G':QT} {w0:List Int} {p:Int}:∀(a:Nat),(∀k,k≤a→zk p (G' k)=zk p (G k))→hv G' w0 a p=hv G w0 a p:=by
 intro a
 induction a with
 |zero=>intro _;rfl
 |succ a ih=>intro h;show(zk p (G' (a+1))).getD _=(zk p (G (a+1))).getD _;grind
theorem X9 {p:Int} {l:List Cl}:zk p l=none↔∀c∈l,c.1≠p:=by
 induction l with
 |nil=>exact⟨λ_ c hc=>(by grind),λ_=>rfl⟩
 |cons a l ih=>
  unfold zk
  grind
def mW (S:jz) (p:Int):Int:=ofM p S.ae S.wide
def Touch (S:jz) (cs:List Cl) (j:Int):Prop:=∃q∈cs,mW S q.1=j
theorem Touch.none {S:jz} {cs:List Cl} {p:Int} (h:¬Touch S cs (mW S p)):zk p cs=none :=
 X9.2 λc hc e=>h ⟨c,hc,by rw[e]⟩
def yV (t:qd):Option q9:=if t.state=1 then(match t.now with |some x=>if x.state=6 then x.c else none |none=>none)else none
structure Env where
  M:jX
  G:QT
  C:Nat→Option q9
def yI (m:zl) (G:QT):Env:=⟨m.m,G,λi=>(m.t[i]?).bind yV⟩
variable {S:jz} {w0:List Int} {E F:Env}
def im (E:Env) (T j:Int):Prop:=∀i c,E.C i=some c→c.state=4→c.now+1≤T→j∉c.s
def Gu (S:jz) (E:Env) (j a b:Int):Prop:=∀s:Int,a<s→s≤b→¬Touch S (E.G (s-S.start).toNat) j
structure ot (S:jz) (E:Env) (T j v:Int):Prop where
  le:v≤T
  q:Gu S E j v T
  np:im E T j
def RT (S:jz) (w0:List Int) (E:Env) (T:Int) (K:List Cl):Prop:=∀c∈K,c.2=hv E.G w0 (T-S.start).toNat c.1∧im E T (mW S c.1)
def bR (c:q9):Prop:=c.state=5∨c.state=6
def mX (E:Env) (j:Int):Prop:=∃i c,E.C i=some c∧bR c∧holds c j
structure ye (S:jz) (E F:Env):Prop where
  n:E.M.n≤F.M.n
  g:∀k:Nat,F.G k=E.G k∨(E.M.n-S.start).toNat<k∨(E.G k=[]∧∃i c,E.C i=some c∧c.state=4∧(c.now+1-S.start).toNat=k∧F.G k=c.cells)
  p:∀i c,F.C i=some c→c.state=4→E.M.n<c.now+1∨∃d,E.C i=some d∧d.state=4∧d.now=c.now∧d.s=c.s∧d.cells=c.cells
  v:∀j:Int,0≤j→j<S.ae→(qP E.M.l j).1≤(qP F.M.l j).1
  w:∀j:Int,0≤j→j<S.ae→mX E j→mX F j∨(qP E.M.l j).1<(qP F.M.l j).1
  b:∀(k:Nat) (j:Int),0≤j→j<S.ae→k≤(E.M.n-S.start).toNat→Touch S (F.G k) j→Touch S (E.G k) j∨mX F j∨(qP E.M.l j).1<(qP F.M.l j).1
structure Yp (S:jz) (E:Env):Prop where
  start:S.start≤E.M.n
  dQ:∀i c,E.C i=some c→(∀q∈c.cells,mW S q.1∈c.s)∧(4≤c.state→c.state≤6→S.start≤c.now∧c.now+1≤E.M.n)
theorem im.later {T j:Int} (h:im E T j) (L:ye S E F) (hT:T≤E.M.n):im F T j:=λi c hc h4 hle=>by
 rcases L.p i c hc h4 with h1 |⟨d,h1,h2,h3,h5,_⟩
 ·omega
 ·rw[← h5];exact h i d h1 h2 omQ
theorem ye.Wb (L:ye S E F) (O:Yp S E) {T p:Int} (_:S.start≤T) (hT:T≤E.M.n) (np:im E T (mW S p)) {k:Nat} (hk:k≤(T-S.start).toNat):zk p (F.G k)=zk p (E.G k):=by
 rcases L.g k with h |h |⟨h1,i,c,hc,h4,hs,hg⟩
 ·rw[h]
 ·omega
 ·have hn:=(O.dQ i c hc).2 omQ omQ;have:=np i c hc h4 omQ;rw[h1,hg];show zk p c.cells=none;exact X9.2 λq hq e=>this (e▸(O.dQ i c hc).1 q hq)
theorem ot.later {T j v:Int} (h:ot S E T j v) (L:ye S E F) (O:Yp S E) (hT:T≤E.M.n):ot S F T j v:=by
 refine⟨h.le,λs h1 h2 ht=>?_,h.np.later L hT⟩;have hq:=h.q s h1 h2;have hs0:=O.start;rcases L.g (s-S.start).toNat with e |e |⟨e1,i,c,hc,h4,hs,hg⟩
 ·grind
 ·omega
 ·have hn:=(O.dQ i c hc).2 omQ omQ;have:=h.np i c hc h4 omQ;rw[hg]at ht;obtain⟨q,uD,uE⟩:=ht;exact this (uE▸(O.dQ i c hc).1 q uD)
theorem RT.later {T:Int} {K:List Cl} (h:RT S w0 E T K) (L:ye S E F) (O:Yp S E) (h0:S.start≤T) (hT:T≤E.M.n):RT S w0 F T K:=λc hc=>by
 obtain⟨h1,h2⟩:=h c hc;refine⟨?_,h2.later L hT⟩;rw[h1];exact(Wa _ λk hk=>L.Wb O h0 hT h2 hk).symm
theorem Mi {p v a b:Int} (h0:S.start≤a) (h1:S.start≤b) (su:v≤a) (P1:v≤b) (ha:Gu S E (mW S p) v a) (hb:Gu S E (mW S p) v b):hv E.G w0 (a-S.start).toNat p=hv E.G w0 (b-S.start).toNat p:=by
 have key:∀c,S.start≤c→v≤c→Gu S E (mW S p) v c→hv E.G w0 (c-S.start).toNat p=hv E.G w0 (max v S.start-S.start).toNat p:=λc hc hvc hq=>by
  refine LN omQ λk h1 h2=>?_;have:=hq (S.start+k) omQ omQ;grind[Touch.none]
 grind
theorem ye.trans {D:Env} (a:ye S D E) (b:ye S E F) (O:Yp S D):ye S D F:=by
 have h0:=O.start;refine⟨Int.le_trans a.n b.n,λk=>?_,λi c hc h4=>?_,λj j0 j1=>Int.le_trans (a.v j j0 j1) (b.v j j0 j1),λj j0 j1 h=>?_,λk j j0 j1 hk ht=>?_⟩
 ·have hn:=a.n;rcases b.g k with e |e |⟨e,i,c,hc,h4,hs,hg⟩
  ·rw[e];exact a.g k
  ·omega
  ·rcases a.p i c hc h4 with h |⟨d,hd,d4,dn,_,dc⟩
   ·omega
   ·rcases a.g k with g |g |⟨g,_⟩
    all_goals grind
 ·have hn:=a.n;rcases b.p i c hc h4 with h |⟨d,hd,d4,dn,ds,dc⟩
  ·omega
  ·rcases a.p i d hd d4 with h |⟨e,he,e4,en,es,ec⟩
   all_goals grind
 ·have h1:=a.v j j0 j1;have h2:=b.v j j0 j1;rcases a.w j j0 j1 h with h |h
  ·rcases b.w j j0 j1 h with h |h
   all_goals grind
  omega
 ·have hn:=a.n;have h1:=a.v j j0 j1;have h2:=b.v j j0 j1;rcases b.b k j j0 j1 omQ ht with h |h |h
  ·rcases a.b k j j0 j1 hk h with h |h |h
   ·grind
   ·rcases b.w j j0 j1 h with h |h
    all_goals grind
   omega
  all_goals grind
end
section
structure Dw (S:jz) (n:Int) (c:q9):Prop where
  cZ:c.s.Pairwise (· < ·)
  s:∀z∈c.s,0≤z∧z<S.ae
  cells:∀q∈c.cells,1≤q.1∧q.1<S.words
  s1:c.state=1→c.lk.2=(false,0)∧c.lk.1≤n
  s3:c.state=3→c.now<4611686018427387903
  s4:4≤c.state→c.state≤6→c.now+1≤n
  full:2≤c.state→c.state≤6→c.aw.length=c.s.length
  a7:6≤c.state→c.at_<c.aw.length
theorem wY.mf {S:jz} {n me:Int} {c:q9} (C:wY S n c me) (hp:c.p.fin=0):Dw S n c:=by have h:=C.ok.ar;unfold zF at h;exact⟨C.ok.cZ,C.s,C.cells,C.s1,C.s3,C.s4,λ_ _=>by omega,λ_=>by omega⟩
theorem Dw.mono {S:jz} {n n':Int} {c:q9} (C:Dw S n c) (h:n≤n'):Dw S n' c :=
 ⟨C.cZ,C.s,C.cells,λh1=>⟨(C.s1 h1).1,Int.le_trans (C.s1 h1).2 h⟩,C.s3,λa b=>Int.le_trans (C.s4 a b) h,C.full,C.a7⟩
structure G7 (S:jz) (n:Int) (c:q9) (i:Nat):Prop where
  lk:Dw S n c
  fin:c.p.fin=0
  lX:∀q∈c.cells,mW S q.1∈c.s
  un:l6 c.cells
  ne:c.cells≠[]
  now:3≤c.state→c.state≤6→S.start≤c.now∧∀w∈c.aw,w.1≤c.now
structure zt (S:jz) (w0:List Int) (E:Env):Prop where
  st:S.start≤E.M.n
  ml:yu S E.M
  dQ:∀i c,E.C i=some c→G7 S E.M.n c i
  hold:∀i c,E.C i=some c→∀(k:Nat) (z:Int) (w:cK),c.s[k]? =some z→c.aw[k]? =some w→(6≤c.state→c.at_≤k)→qP E.M.l z=(w.1,true,(i:Int))
  rT:∀i c,E.C i=some c→bR c→E.G (c.now+1-S.start).toNat=c.cells
  ud:∀i c,E.C i=some c→c.state=4→E.G (c.now+1-S.start).toNat=[]
  fa:∀i j c d,E.C i=some c→E.C j=some d→4≤c.state→c.state≤6→4≤d.state→d.state≤6→c.now=d.now→i=j
  Ac:∀k:Nat,(E.M.n-S.start).toNat<k→E.G k=[]
  g0:E.G 0=[]
  eE:∀j s:Int,0≤j→j<S.ae→(qP E.M.l j).1<s→s≤E.M.n→Touch S (E.G (s-S.start).toNat) j→∃i c,E.C i=some c∧bR c∧c.now+1=s∧holds c j
  mem:∀p:Int,1≤p→p<S.words→qg E.M.w p=hv E.G w0 (E.M.n-S.start).toNat p∨∃i c,E.C i=some c∧c.state=5∧∃(k:Nat) (q:Cl),c.at_≤k∧c.cells[k]? =some q∧q.1=p
variable {S:jz} {w0:List Int} {E:Env} {i:Nat} {c d:q9}
theorem zt.env (I:zt S w0 E):Yp S E :=
 ⟨I.st,λi c hc=>⟨(I.dQ i c hc).lX,λh4 h6=>⟨((I.dQ i c hc).now omQ h6).1,(I.dQ i c hc).lk.s4 h4 h6⟩⟩⟩
theorem G7.full {n:Int} (I:G7 S n c i) (h2:2≤c.state) (h6:c.state≤6):c.aw.length=c.s.length:=I.lk.full h2 h6
theorem G7.holds {n:Int} (I:G7 S n c i) (h2:2≤c.state) (h5:c.state≤5) {j:Int} (hj:j∈c.s):holds c j:=by obtain⟨k,hk,e⟩:=List.mem_iff_getElem.1 hj;have:=I.full h2 omQ;exact⟨k,by grind,by omega,λh=>by omega⟩
theorem zt.own (I:zt S w0 E) (hc:E.C i=some c) {j:Int} (h:holds c j):(qP E.M.l j).2.1=true∧(qP E.M.l j).2.2=(i:Int):=by obtain⟨k,h1,h2,h3⟩:=h;have:=I.hold i c hc k j _ h1 (iW h2) h3;grind
theorem zt.one (I:zt S w0 E) {i':Nat} {c':q9} (hc:E.C i=some c) (bH:E.C i'=some c') {j:Int} (h:holds c j) (h':holds c' j):i'=i∧c'=c:=by
 have a:=(I.own hc h).2;have b:=(I.own bH h').2;grind
theorem zt.free (I:zt S w0 E) {j T:Int} (j0:0≤j) (j1:j<S.ae) (hf:(qP E.M.l j).2.1=false) (hv:(qP E.M.l j).1≤T) (hT:T≤E.M.n):ot S E T j (qP E.M.l j).1:=by
 have no:∀i c,E.C i=some c→¬holds c j:=λi c hc h=>by
  rw[(I.own hc h).1]at hf;grind
 refine⟨hv,λs h1 h2 ht=>?_,λi c hc h4 _ hj=>no i c hc ((I.dQ i c hc).holds omQ omQ hj)⟩;obtain⟨i,c,hc,_,_,hh⟩:=I.eE j s j0 j1 h1 omQ ht;grind
theorem zt.oL (I:zt S w0 E) (hc:E.C i=some c) (hw:¬bR c) {j T:Int} (j0:0≤j) (j1:j<S.ae) (hh:holds c j) (hv:(qP E.M.l j).1≤T) (hT:T≤E.M.n) (h4:c.state=4→T≤c.now):ot S E T j (qP E.M.l j).1:=by
 refine⟨hv,λs h1 h2 ht=>?_,λi' c' bH tL hle hj=>?_⟩
 ·obtain⟨i',c',bH,dV,_,fZ⟩:=I.eE j s j0 j1 h1 omQ ht;obtain⟨_,rfl⟩:=I.one hc bH hh fZ;grind
 ·obtain⟨_,rfl⟩:=I.one hc bH hh ((I.dQ i' c' bH).holds omQ omQ hj);grind
theorem zt.word (I:zt S w0 E) {p:Int} (h1:1≤p) (h2:p<S.words) (no:∀i c,E.C i=some c→bR c→¬holds c (mW S p)):qg E.M.w p=hv E.G w0 (E.M.n-S.start).toNat p:=by
 rcases I.mem p h1 h2 with h |⟨i,c,hc,h5,k,q,_,hq,rfl⟩
 ·grind
 ·exact absurd ((I.dQ i c hc).holds omQ omQ ((I.dQ i c hc).lX q (List.mem_of_getElem? hq))) (no i c hc (.inl h5))
theorem mX.keep {M:jX} {G:QT} {C:Nat→Option q9} {o:Option q9} {M':jX} {G':QT} {j:Int} (h:mX ⟨M,G,C⟩ j) (hn:∀c,C i=some c→¬bR c):mX ⟨M',G',λk=>if k=i then o else C k⟩ j:=by
 obtain⟨i',c',bH,dV,fZ⟩:=h;have:i'≠i:=λe=>by grind
 exact⟨i',c',by grind,dV,fZ⟩
def cP (C:Nat→Option q9) (i:Nat) (o:Option q9):Nat→Option q9:=λj=>if j=i then o else C j
theorem J1 {C:Nat→Option q9} {o:Option q9}:cP C i o i=o:=iJ rfl
theorem jF {C:Nat→Option q9} {o:Option q9} {j:Nat} {e:q9} (h:cP C i o j=some e):(j=i∧o=some e)∨(j≠i∧C j=some e):=by
 grind[cP]
theorem wQ {C:Nat→Option q9} {o:Option q9} {j:Nat} (h:j≠i):cP C i o j=C j:=iQ h
theorem zt.same {M':jX} (I:zt S w0 E) (h:M'.w=E.M.w∧M'.l=E.M.l∧M'.n=E.M.n):zt S w0 ⟨M',E.G,E.C⟩ :=
 ⟨by show S.start≤M'.n;rw[h.2.2];exact I.st,I.ml.same h,by show∀i c,E.C i=some c→G7 S M'.n c i;rw[h.2.2];exact I.dQ,by show∀i c,E.C i=some c→∀(k:Nat) (z:Int) (w:cK),c.s[k]? =some z→c.aw[k]? =some w→(6≤c.state→c.at_≤k)→qP M'.l z=(w.1,true,(i:Int));rw[h.2.1];exact I.hold,
  I.rT,I.ud,I.fa,by show∀k:Nat,(M'.n-S.start).toNat<k→E.G k=[];rw[h.2.2];exact I.Ac,I.g0,
  by show∀j s:Int,0≤j→j<S.ae→(qP M'.l j).1<s→s≤M'.n→Touch S (E.G (s-S.start).toNat) j→∃i c,E.C i=some c∧bR c∧c.now+1=s∧holds c j;rw[h.2.1,h.2.2];exact I.eE,
  by show∀p:Int,1≤p→p<S.words→qg M'.w p=hv E.G w0 (M'.n-S.start).toNat p∨∃i c,E.C i=some c∧c.state=5∧∃(k:Nat) (q:Cl),c.at_≤k∧c.cells[k]? =some q∧q.1=p;rw[h.1,h.2.2];exact I.mem⟩
structure jVE (S:jz) (E:Env) (i:Nat) (d:q9):Prop where
  dQ:G7 S E.M.n d i
  hold:∀(k:Nat) (z:Int) (w:cK),d.s[k]? =some z→d.aw[k]? =some w→(6≤d.state→d.at_≤k)→qP E.M.l z=(w.1,true,(i:Int))
  nw:¬bR d
  p4:d.state=4→∃c,E.C i=some c∧c.state=4∧c.now=d.now∧c.s=d.s∧c.cells=d.cells
theorem zt.swap (I:zt S w0 E) (hn:∀c,E.C i=some c→¬bR c) {o:Option q9} (ho:∀d,o=some d→jVE S E i d):zt S w0 ⟨E.M,E.G,cP E.C i o⟩∧ye S E ⟨E.M,E.G,cP E.C i o⟩:=by
 refine⟨⟨I.st,I.ml,λj e he=>?_,λj e he=>?_,λj e he hw=>?_,λj e he h4=>?_,λj k e f he hf a1 a2 b1 b2 hq=>?_,I.Ac,I.g0,λj s j0 j1 h1 h2 ht=>?_,λp p0 p1=>?_⟩,⟨Int.le_refl _,λk=>.inl rfl,λj e he h4=>?_,λ_ _ _=>Int.le_refl _,λj _ _ h=>.inl (h.keep hn),λ_ _ _ _ _ h=>.inl h⟩⟩
 ·rcases jF he with⟨rfl,h⟩ |⟨_,h⟩
  ·exact(ho e h).dQ
  ·exact I.dQ j e h
 ·rcases jF he with⟨rfl,h⟩ |⟨_,h⟩
  ·exact(ho e h).hold
  ·exact I.hold j e h
 ·rcases jF he with⟨rfl,h⟩ |⟨_,h⟩
  ·exact absurd hw (ho e h).nw
  ·exact I.rT j e h hw
 ·rcases jF he with⟨rfl,h⟩ |⟨_,h⟩
  ·obtain⟨c,hc,tL,ou,_⟩:=(ho e h).p4 h4;show E.G (e.now+1-S.start).toNat=[];rw[← ou];exact I.ud _ c hc tL
  ·exact I.ud j e h h4
 ·have A3:∀{e},o=some e→4≤e.state→e.state≤6→e.state=4:=λ{e} h a b=>by
   have:=(ho e h).nw;grind[bR]
  rcases jF he with⟨rfl,h⟩ |⟨hj,h⟩<;>rcases jF hf with⟨rfl,h'⟩ |⟨hk,h'⟩
  ·rfl
  ·obtain⟨c,hc,tL,ou,_⟩:=(ho e h).p4 (A3 h a1 a2);exact I.fa _ _ c f hc h' omQ omQ b1 b2 omQ
  ·obtain⟨c,hc,tL,ou,_⟩:=(ho f h').p4 (A3 h' b1 b2);exact I.fa _ _ e c h hc a1 a2 omQ omQ omQ
  ·exact I.fa j k e f h h' a1 a2 b1 b2 hq
 ·obtain⟨i',c',bH,dV,eD,fZ⟩:=I.eE j s j0 j1 h1 h2 ht;have:i'≠i:=λe=>by grind
  exact⟨i',c',(wQ this).trans bH,dV,eD,fZ⟩
 ·rcases I.mem p p0 p1 with h |⟨i',c',bH,h5,hr⟩
  ·grind
  ·have:i'≠i:=λe=>by subst e;exact hn c' bH (.inl h5)
   exact .inr ⟨i',c',(wQ this).trans bH,h5,hr⟩
 ·rcases jF he with⟨rfl,h⟩ |⟨_,h⟩
  ·obtain⟨c,hc,tL,ou,eD⟩:=(ho e h).p4 h4;grind
  grind
theorem Yr (I:zt S w0 E) {z j:Int} {x:cK} (z0:0≤z) (z1:z<S.ae) (j0:0≤j):qP (E.M.l.set z.toNat x) j=if z=j then x else qP E.M.l j:=by have:=I.ml.l;simp_all[Zr,omQ]
theorem zt.take (I:zt S w0 E) (hc:E.C i=some c) (h1:c.state=1) (hi:i<4) {z:Int} (hz:c.s[c.aw.length]? =some z) (hl:qP E.M.l z=c.lk) {k:Int} (hd:G7 S E.M.n (ju { c with aw:=c.aw++[c.lk] }) i) :
  zt S w0 ⟨{ E.M with l:=E.M.l.set z.toNat (c.lk.1,true,(i:Int)),aT:=k },E.G,cP E.C i (some (ju { c with aw:=c.aw++[c.lk] }))⟩∧
   ye S E ⟨{ E.M with l:=E.M.l.set z.toNat (c.lk.1,true,(i:Int)),aT:=k },E.G,cP E.C i (some (ju { c with aw:=c.aw++[c.lk] }))⟩:=by
 have CI:=I.dQ i c hc;have fG:=CI.lk.s z (List.mem_of_getElem? hz);obtain⟨l1,l2⟩:=CI.lk.s1 h1;have cd:(ju { c with aw:=c.aw++[c.lk] }).state=0∨(ju { c with aw:=c.aw++[c.lk] }).state=2:=by
  unfold ju;grind
 have hs:(ju { c with aw:=c.aw++[c.lk] }).s=c.s:=rfl;have hws:(ju { c with aw:=c.aw++[c.lk] }).aw=c.aw++[c.lk]:=rfl;generalize ju { c with aw:=c.aw++[c.lk] }=d at*;have hnw:¬bR d:=by grind[bR]
 have fI:∀c',E.C i=some c'→¬bR c':=λc' bH=>by
  grind[bR]
 have other:∀j e,E.C j=some e→j≠i→∀y,holds e y→z≠y:=λj e he _ y hy h=>by
  subst h;have:=(I.own he hy).1;grind
 have vs:∀j,0≤j→(qP (E.M.l.set z.toNat (c.lk.1,true,(i:Int))) j).1=(qP E.M.l j).1:=λj j0=>by
  grind[Yr]
 refine⟨⟨I.st,I.ml.put (x:=(c.lk.1,true,(i:Int))) fG.1 fG.2 (by rw[J4];have:=I.ml.n;omega) l2 k,λj e he=>?_,λj e he q y w h2 h3 h4=>?_,λj e he hw=>?_,λj e he h4=>?_,λj q e f he hf a1 a2 b1 b2 hq=>?_,I.Ac,I.g0,λj s j0 j1 g1 g2 ht=>?_,λp p0 p1=>?_⟩,⟨Int.le_refl _,λk=>.inl rfl,λj e he h4=>?_,λj j0 _=>by grind,λj _ _ h=>.inl (h.keep fI),λ_ _ _ _ _ h=>.inl h⟩⟩
 ·rcases jF he with⟨rfl,h⟩ |⟨_,h⟩
  ·grind
  ·exact I.dQ j e h
 ·show qP (E.M.l.set z.toNat (c.lk.1,true,(i:Int))) y=_;rcases jF he with⟨rfl,h⟩ |⟨hj,h⟩
  ·cases h;have fE:=CI.lk.s y (by grind);rw[Yr I fG.1 fG.2 fE.1];rw[hs]at h2;rw[hws]at h3;by_cases hq:q<c.aw.length
   ·rw[List.getElem?_append_left hq]at h3;rw[iQ λe=>?_,I.hold _ c hc q y w h2 h3 λh6=>by omega];subst e;have:=MM CI.lk.cZ h2 hz;omega
   grind
  ·have hy:holds e y:=⟨q,h2,(List.getElem?_eq_some_iff.1 h3).1,h4⟩;rw[Yr I fG.1 fG.2 ((I.dQ j e h).lk.s y (List.mem_of_getElem? h2)).1,iQ (other j e h hj y hy)];exact I.hold j e h q y w h2 h3 h4
 ·rcases jF he with⟨rfl,h⟩ |⟨_,h⟩
  ·grind
  ·exact I.rT j e h hw
 ·rcases jF he with⟨rfl,h⟩ |⟨_,h⟩
  ·grind
  ·exact I.ud j e h h4
 ·rcases jF he with⟨rfl,h⟩ |⟨hj,h⟩
  ·grind
  ·rcases jF hf with⟨rfl,h'⟩ |⟨hk,h'⟩
   ·grind
   ·exact I.fa j q e f h h' a1 a2 b1 b2 hq
 ·have g1:(qP (E.M.l.set z.toNat (c.lk.1,true,(i:Int))) j).1<s:=g1;rw[vs j j0]at g1;obtain⟨i',c',bH,dV,eD,fZ⟩:=I.eE j s j0 j1 g1 g2 ht;have:i'≠i:=λe=>by
   grind
  exact⟨i',c',(wQ this).trans bH,dV,eD,fZ⟩
 ·rcases I.mem p p0 p1 with h |⟨i',c',bH,h5,hr⟩
  ·grind
  ·have:i'≠i:=λe=>by
    grind
   exact .inr ⟨i',c',(wQ this).trans bH,h5,hr⟩
 ·rcases jF he with⟨rfl,h⟩ |⟨_,h⟩
  all_goals grind
theorem zt.raise (I:zt S w0 E) (hc:E.C i=some c) (h3:c.state=3) (hq:E.M.n=c.now) {k:Int} (hd:G7 S (c.now+1) { c with state:=4 } i) :
  zt S w0 ⟨{ E.M with n:=c.now+1,aT:=k },E.G,cP E.C i (some { c with state:=4 })⟩∧ye S E ⟨{ E.M with n:=c.now+1,aT:=k },E.G,cP E.C i (some { c with state:=4 })⟩:=by
 have CI:=I.dQ i c hc;have cd:=I.st;have fI:∀c',E.C i=some c'→¬bR c':=λc' bH=>by
  grind[bR]
 have ma:=CI.lk.s3 h3;have gf:E.G (c.now+1-S.start).toNat=[]:=I.Ac _ omQ;have po:∀j e,E.C j=some e→4≤e.state→e.state≤6→e.now+1≤E.M.n:=λj e he a b=>(I.dQ j e he).lk.s4 a b;refine⟨⟨by grind,⟨I.ml.w,I.ml.l,by have:=I.ml.n;grind,λj a b=>⟨(I.ml.lk j a b).1,by have:=(I.ml.lk j a b).2;grind⟩⟩,λj e he=>?_,λj e he q y w g2 g3 g4=>?_,λj e he hw=>?_,λj e he h4=>?_,λj q e f he hf a1 a2 b1 b2 iT=>?_,λq iT=>I.Ac q (by grind),I.g0,λj s j0 j1 g1 g2 ht=>?_,λp p0 p1=>?_⟩,⟨by grind,λk=>.inl rfl,λj e he h4=>?_,λ_ _ _=>Int.le_refl _,λj _ _ h=>.inl (h.keep fI),λ_ _ _ _ _ h=>.inl h⟩⟩
 ·rcases jF he with⟨rfl,h⟩ |⟨_,h⟩
  ·grind
  ·have:=I.dQ j e h;exact⟨this.lk.mono (by grind),this.fin,this.lX,this.un,this.ne,this.now⟩
 ·rcases jF he with⟨rfl,h⟩ |⟨_,h⟩
  ·cases h;exact I.hold _ c hc q y w g2 g3 λh6=>by omega
  ·exact I.hold j e h q y w g2 g3 g4
 ·rcases jF he with⟨rfl,h⟩ |⟨_,h⟩
  ·cases h;rcases hw with h |h<;>cases h
  ·exact I.rT j e h hw
 ·rcases jF he with⟨rfl,h⟩ |⟨_,h⟩
  ·grind
  ·exact I.ud j e h h4
 ·rcases jF he with⟨rfl,h⟩ |⟨hj,h⟩<;>rcases jF hf with⟨rfl,h'⟩ |⟨hk,h'⟩
  ·rfl
  ·grind
  ·grind
  ·exact I.fa j q e f h h' a1 a2 b1 b2 iT
 ·have g2:s≤c.now+1:=g2;by_cases hs:s=c.now+1
  ·grind[Touch]
  ·obtain⟨i',c',bH,dV,eD,fZ⟩:=I.eE j s j0 j1 g1 omQ ht;have:i'≠i:=λe=>by
    grind
   exact⟨i',c',(wQ this).trans bH,dV,eD,fZ⟩
 ·have e:hv E.G w0 (c.now+1-S.start).toNat p=hv E.G w0 (E.M.n-S.start).toNat p :=
   LN omQ λq h1 h2=>by
    rw[I.Ac q h1];rfl
  rcases I.mem p p0 p1 with h |⟨i',c',bH,h5,hr⟩
  ·grind
  ·have:i'≠i:=λe=>by
    grind
   exact .inr ⟨i',c',(wQ this).trans bH,h5,hr⟩
 ·rcases jF he with⟨rfl,h⟩ |⟨_,h⟩
  all_goals grind
def Ud (G:QT) (k:Nat) (cs:List Cl):QT:=λj=>if j=k then cs else G j
theorem zt.bB (I:zt S w0 E) (hc:E.C i=some c) (h4:c.state=4) (hd:G7 S E.M.n d i) (e5:d.state=5) (ea:d.at_=0) (es:d.s=c.s) (ew:d.aw=c.aw) (ec:d.cells=c.cells) (en:d.now=c.now) :
  zt S w0 ⟨E.M,Ud E.G (c.now+1-S.start).toNat c.cells,cP E.C i (some d)⟩∧ye S E ⟨E.M,Ud E.G (c.now+1-S.start).toNat c.cells,cP E.C i (some d)⟩:=by
 have CI:=I.dQ i c hc;have cd:=I.st;have fI:∀c',E.C i=some c'→¬bR c':=λc' bH=>by
  grind[bR]
 have ma:=(CI.now omQ omQ).1;have oD:=CI.lk.s4 omQ omQ;have gp:=I.ud i c hc h4;have idx:∀j e,E.C j=some e→j≠i→4≤e.state→e.state≤6→(e.now+1-S.start).toNat≠(c.now+1-S.start).toNat:=λj e he hj a b h=>by
  have:=((I.dQ j e he).now omQ b).1;exact hj (I.fa j i e c he hc a b omQ omQ omQ)
 have pg:∀k,k≠(c.now+1-S.start).toNat→Ud E.G (c.now+1-S.start).toNat c.cells k=E.G k:=λk h=>iQ h;have pk:Ud E.G (c.now+1-S.start).toNat c.cells (c.now+1-S.start).toNat=c.cells:=iJ rfl;refine⟨⟨I.st,I.ml,λj e he=>?_,λj e he q y w g2 g3 g4=>?_,λj e he hw=>?_,λj e he tL=>?_,λj q e f he hf a1 a2 b1 b2 iT=>?_,λk hk=>?_,?_,λj s j0 j1 g1 g2 ht=>?_,λp p0 p1=>?_⟩,⟨Int.le_refl _,λk=>?_,λj e he tL=>?_,λ_ _ _=>Int.le_refl _,λj _ _ h=>.inl (h.keep fI),λk j _ _ hk ht=>?_⟩⟩
 ·rcases jF he with⟨rfl,h⟩ |⟨_,h⟩
  ·grind
  ·exact I.dQ j e h
 ·rcases jF he with⟨rfl,h⟩ |⟨_,h⟩
  ·cases h;exact I.hold _ c hc q y w (by grind) (by grind) λh6=>by omega
  ·exact I.hold j e h q y w g2 g3 g4
 ·rcases jF he with⟨rfl,h⟩ |⟨hj,h⟩
  ·grind
  ·show Ud _ _ _ (e.now+1-S.start).toNat=_;rw[pg _ (idx j e h hj (by grind[bR]) (by grind[bR]))];exact I.rT j e h hw
 ·rcases jF he with⟨rfl,h⟩ |⟨hj,h⟩
  ·grind
  ·show Ud _ _ _ (e.now+1-S.start).toNat=_;rw[pg _ (idx j e h hj omQ omQ)];exact I.ud j e h tL
 ·rcases jF he with⟨rfl,h⟩ |⟨hj,h⟩<;>rcases jF hf with⟨rfl,h'⟩ |⟨hk,h'⟩
  ·rfl
  ·grind
  ·grind
  ·exact I.fa j q e f h h' a1 a2 b1 b2 iT
 ·have hk:(E.M.n-S.start).toNat<k:=hk;show Ud _ _ _ k=_;rw[pg k omQ];exact I.Ac k hk
 ·show Ud _ _ _ 0=_;rw[pg 0 omQ];exact I.g0
 ·have ht:Touch S (Ud E.G (c.now+1-S.start).toNat c.cells (s-S.start).toNat) j:=ht;by_cases hs:(s-S.start).toNat=(c.now+1-S.start).toNat
  ·rw[hs,pk]at ht;obtain⟨q,uD,uE⟩:=ht;refine⟨i,d,J1,.inl e5,by grind,hd.holds omQ omQ ?_⟩;rw[es,← uE];exact CI.lX q uD
  ·rw[pg _ hs]at ht;obtain⟨i',c',bH,dV,eD,fZ⟩:=I.eE j s j0 j1 g1 g2 ht;have:i'≠i:=λe=>by
    grind
   exact⟨i',c',(wQ this).trans bH,dV,eD,fZ⟩
 ·by_cases hp:∃q∈c.cells,q.1=p
  ·obtain⟨q,hq,hqp⟩:=hp;obtain⟨k,hk,e⟩:=List.mem_iff_getElem.1 hq;exact .inr ⟨i,d,J1,e5,k,q,by grind,by grind,hqp⟩
  ·have bQ:zk p c.cells=none:=X9.2 λq hq e=>hp ⟨q,hq,e⟩;have e:hv (Ud E.G (c.now+1-S.start).toNat c.cells) w0 (E.M.n-S.start).toNat p=hv E.G w0 (E.M.n-S.start).toNat p :=
    Wa _ λk _=>by
     by_cases hk:k=(c.now+1-S.start).toNat
     ·subst hk;rw[pk,gp,bQ];rfl
     grind
   rcases I.mem p p0 p1 with h |⟨i',c',bH,h5,hr⟩
   ·grind
   ·have:i'≠i:=λe=>by
     grind
    exact .inr ⟨i',c',(wQ this).trans bH,h5,hr⟩
 ·grind
 ·rcases jF he with⟨rfl,h⟩ |⟨_,h⟩
  all_goals grind
 ·have ht:Touch S (Ud E.G (c.now+1-S.start).toNat c.cells k) j:=ht;by_cases lQ:k=(c.now+1-S.start).toNat
  ·subst lQ;rw[pk]at ht;obtain⟨q,uD,uE⟩:=ht;exact .inr (.inl ⟨i,d,J1,.inl e5,hd.holds omQ omQ (by rw[es,← uE];exact CI.lX q uD)⟩)
  grind
end
section
variable {S:jz} {w0:List Int} {E:Env} {i:Nat} {c d:q9}
theorem jJD {cs:List Cl} (h:l6 cs) {q:Cl} (hq:q∈cs):zk q.1 cs=some q.2:=by
 induction cs with
 |nil=>grind
 |cons a l ih=>
  have h':(a.1::l.map (·.1)).Nodup:=h;rw[List.nodup_cons]at h';unfold zk;rcases List.mem_cons.1 hq with rfl |iT
  ·simp
  ·rw[iQ (λe:a.1=q.1=>h'.1 (by grind))];exact ih h'.2 iT
theorem qx0 {w:List Int} {a b x:Int} (ha:0≤a) (hb:0≤b) (hl:a<w.length):qg (w.set a.toNat x) b=if a=b then x else qg w b:=by
 unfold qg;grind
theorem zt.store (I:zt S w0 E) (hc:E.C i=some c) (h5:c.state=5) {a:Nat} (ha:c.at_=a) {q:Cl} (hq:c.cells[a]? =some q) {k:Int} (hd:G7 S E.M.n d i) (es:d.s=c.s) (ew:d.aw=c.aw) (ec:d.cells=c.cells) (en:d.now=c.now)
  (hs:(d.state=5∧d.at_=a+1)∨(d.state=6∧d.at_=0∧a+1=c.cells.length)) :
  zt S w0 ⟨{ E.M with w:=E.M.w.set q.1.toNat q.2,aT:=k },E.G,cP E.C i (some d)⟩∧ye S E ⟨{ E.M with w:=E.M.w.set q.1.toNat q.2,aT:=k },E.G,cP E.C i (some d)⟩:=by
 have CI:=I.dQ i c hc;have LO:=List.mem_of_getElem? hq;have hqr:=CI.lk.cells q LO;have ma:=(CI.now omQ omQ).1;have oD:=CI.lk.s4 omQ omQ;have hw:=I.ml.w;have wd:bR d:=by grind[bR]
 have eu:∀j,holds c j→holds d j:=λj ⟨k,h1,h2,_⟩=>⟨k,by grind,by grind,λh=>by omega⟩;refine⟨⟨I.st,⟨by grind,I.ml.l,I.ml.n,I.ml.lk⟩,λj e he=>?_,λj e he q y w g2 g3 g4=>?_,λj e he dV=>?_,λj e he h4=>?_,λj q e f he hf a1 a2 b1 b2 iT=>?_,I.Ac,I.g0,λj s j0 j1 g1 g2 ht=>?_,λp p0 p1=>?_⟩,⟨Int.le_refl _,λk=>.inl rfl,λj e he h4=>?_,λ_ _ _=>Int.le_refl _,λj _ _ h=>.inl ?_,λ_ _ _ _ _ h=>.inl h⟩⟩
 ·rcases jF he with⟨rfl,h⟩ |⟨_,h⟩
  ·grind
  ·exact I.dQ j e h
 ·rcases jF he with⟨rfl,h⟩ |⟨_,h⟩
  ·cases h;exact I.hold _ c hc q y w (by grind) (by grind) λh6=>by omega
  ·exact I.hold j e h q y w g2 g3 g4
 ·rcases jF he with⟨rfl,h⟩ |⟨_,h⟩
  ·cases h;show E.G (d.now+1-S.start).toNat=_;rw[en,ec];exact I.rT _ c hc (.inl h5)
  ·exact I.rT j e h dV
 ·rcases jF he with⟨rfl,h⟩ |⟨_,h⟩
  ·grind
  ·exact I.ud j e h h4
 ·rcases jF he with⟨rfl,h⟩ |⟨hj,h⟩<;>rcases jF hf with⟨rfl,h'⟩ |⟨hk,h'⟩
  ·rfl
  ·cases h;exact I.fa _ _ c f hc h' omQ omQ b1 b2 omQ
  ·cases h';exact I.fa _ _ e c h hc a1 a2 omQ omQ omQ
  ·exact I.fa j q e f h h' a1 a2 b1 b2 iT
 ·obtain⟨i',c',bH,dV,eD,fZ⟩:=I.eE j s j0 j1 g1 g2 ht;by_cases e:i'=i
  ·subst e;rw[hc]at bH;cases bH;exact⟨i',d,J1,wd,by grind,eu j fZ⟩
  ·exact⟨i',c',(wQ e).trans bH,dV,eD,fZ⟩
 ·show qg (E.M.w.set q.1.toNat q.2) p=_∨_;rw[qx0 omQ omQ omQ];by_cases hp:q.1=p
  ·subst hp;rw[iJ rfl];refine .inl ?_;have hg:E.G (c.now+1-S.start).toNat=c.cells:=I.rT i c hc (.inl h5);have hh:holds c (mW S q.1):=CI.holds omQ omQ (CI.lX q LO);have hver:(qP E.M.l (mW S q.1)).1≤c.now:=by
    obtain⟨k',h1,h2,h3⟩:=hh;rw[I.hold i c hc k' _ _ h1 (iW h2) h3];show(c.aw[k']).1≤c.now;exact(CI.now omQ omQ).2 _ (List.getElem_mem h2)
   have Dx:=CI.lk.s _ (CI.lX q LO);have later:∀k',(c.now+1-S.start).toNat<k'→k'≤(E.M.n-S.start).toNat→zk q.1 (E.G k')=none:=λk' h1 h2=>by
    cases hx:zk q.1 (E.G k')with
    |none=>rfl
    |some v=>
     have bJ:¬(∀c'∈E.G k',c'.1≠q.1):=λh=>by grind[X9]
     have ht:Touch S (E.G (S.start+(k':Int)-S.start).toNat) (mW S q.1):=by
      rw[show(S.start+(k':Int)-S.start).toNat=k' by omega];rcases Classical.em (∃c'∈E.G k',c'.1=q.1)with⟨c',h3,h4⟩ |h
      ·exact⟨c',h3,by rw[h4]⟩
      grind
     obtain⟨i',c',bH,dV,eD,fZ⟩:=I.eE _ (S.start+(k':Int)) Dx.1 Dx.2 omQ (by grind) ht;obtain⟨_,rfl⟩:=I.one hc bH hh fZ;omega
   have e1:hv E.G w0 (E.M.n-S.start).toNat q.1=hv E.G w0 (c.now+1-S.start).toNat q.1:=LN omQ later;show q.2=hv E.G w0 (E.M.n-S.start).toNat q.1;rw[e1];obtain⟨m,hm⟩:∃m,(c.now+1-S.start).toNat=m+1:=⟨(c.now-S.start).toNat,by omega⟩;rw[hm]at hg ⊢;show _=(zk q.1 (E.G (m+1))).getD _;rw[hg,jJD CI.un LO];rfl
  ·rw[iQ hp];rcases I.mem p p0 p1 with h |⟨i',c',bH,A5,k',q',lQ,iT,e'⟩
   ·grind
   ·by_cases e:i'=i
    ·subst e;rw[hc]at bH;cases bH;have hka:k'≠a:=λh=>by
      grind
     have ax:=(List.getElem?_eq_some_iff.1 iT).1;rcases hs with⟨s5,sa⟩ |⟨_,_,sl⟩
     ·exact .inr ⟨i',d,J1,s5,k',q',by omega,by grind,e'⟩
     grind
    ·exact .inr ⟨i',c',(wQ e).trans bH,A5,k',q',lQ,iT,e'⟩
 ·rcases jF he with⟨rfl,h⟩ |⟨_,h⟩
  all_goals grind
 ·obtain⟨i',c',bH,dV,fZ⟩:=h;by_cases e:i'=i
  ·subst e;rw[hc]at bH;cases bH;exact⟨i',d,J1,wd,eu j fZ⟩
  ·exact⟨i',c',(wQ e).trans bH,dV,fZ⟩
theorem zt.nZ (I:zt S w0 E) (hc:E.C i=some c) (h67:c.state=6∨c.state=7) {a:Nat} (ha:c.at_=a) {z:Int} (hz:c.s[a]? =some z) {x:cK} (_:x.2=(false,0)) (hx0:vn x) (T9:x.1≤E.M.n) (eY:(qP E.M.l z).1≤x.1) (BI:bR c→(qP E.M.l z).1<x.1)
  (bQ:∀s:Int,x.1<s→s≤E.M.n→¬Touch S (E.G (s-S.start).toNat) z) {k:Int} {o:Option q9}
  (ho:∀d,o=some d→G7 S E.M.n d i∧d.s=c.s∧d.aw=c.aw∧d.cells=c.cells∧d.now=c.now∧d.state=c.state∧d.at_=a+1) (pn:o=none→c.aw.length≤a+1) :
  zt S w0 ⟨{ E.M with l:=E.M.l.set z.toNat x,aT:=k },E.G,cP E.C i o⟩∧ye S E ⟨{ E.M with l:=E.M.l.set z.toNat x,aT:=k },E.G,cP E.C i o⟩:=by
 have CI:=I.dQ i c hc;have fG:=CI.lk.s z (List.mem_of_getElem? hz);have hhz:∀y w,c.s[y]? =some z→c.aw[y]? =some w→y=a:=λy w h _=>MM CI.lk.cZ h hz;have Cq:a<c.aw.length→holds c z:=λh=>⟨a,hz,h,λ_=>by omega⟩;refine⟨⟨I.st,I.ml.put fG.1 fG.2 hx0 T9 k,λj e he=>?_,λj e he q y w g2 g3 g4=>?_,λj e he dV=>?_,λj e he h4=>?_,λj q e f he hf a1 a2 b1 b2 iT=>?_,I.Ac,I.g0,λj s j0 j1 g1 g2 ht=>?_,λp p0 p1=>?_⟩,⟨Int.le_refl _,λk=>.inl rfl,λj e he h4=>?_,λj j0 j1=>?_,λj j0 j1 h=>?_,λ_ _ _ _ _ h=>.inl h⟩⟩
 ·rcases jF he with⟨rfl,h⟩ |⟨_,h⟩
  ·grind
  ·exact I.dQ j e h
 ·show qP (E.M.l.set z.toNat x) y=_;rcases jF he with⟨rfl,h⟩ |⟨hj,h⟩
  ·obtain⟨_,e1,e2,_,_,e5,e6⟩:=ho e h;rw[e1]at g2;rw[e2]at g3;have hq:=g4 omQ;have fE:=CI.lk.s y (List.mem_of_getElem? g2);rw[Yr I fG.1 fG.2 fE.1,iQ λLQ=>?_]
   ·exact I.hold _ c hc q y w g2 g3 λ_=>by omega
   grind
  ·have fE:=(I.dQ j e h).lk.s y (List.mem_of_getElem? g2);have hy:holds e y:=⟨q,g2,(List.getElem?_eq_some_iff.1 g3).1,g4⟩;by_cases LQ:z=y
   ·subst LQ;by_cases hl:a<c.aw.length
    ·exact absurd (I.one hc h (Cq hl) hy).1 hj
    ·have h7:=CI.lk.a7 omQ;omega
   ·rw[Yr I fG.1 fG.2 fE.1,iQ LQ];exact I.hold j e h q y w g2 g3 g4
 ·rcases jF he with⟨rfl,h⟩ |⟨_,h⟩
  ·obtain⟨_,e1,e2,e3,e4,e5,e6⟩:=ho e h;show E.G (e.now+1-S.start).toNat=_;rw[e4,e3];exact I.rT _ c hc (by grind[bR])
  ·exact I.rT j e h dV
 ·rcases jF he with⟨rfl,h⟩ |⟨_,h⟩
  ·grind
  ·exact I.ud j e h h4
 ·rcases jF he with⟨rfl,h⟩ |⟨hj,h⟩<;>rcases jF hf with⟨rfl,h'⟩ |⟨hk,h'⟩
  ·rfl
  ·obtain⟨_,_,_,_,e4,e5,_⟩:=ho e h;exact I.fa _ _ c f hc h' omQ omQ b1 b2 omQ
  ·obtain⟨_,_,_,_,e4,e5,_⟩:=ho f h';exact I.fa _ _ e c h hc a1 a2 omQ omQ omQ
  ·exact I.fa j q e f h h' a1 a2 b1 b2 iT
 ·have g1:(qP (E.M.l.set z.toNat x) j).1<s:=g1;rw[Yr I fG.1 fG.2 j0]at g1;by_cases Dy:z=j
  ·grind
  ·rw[iQ Dy]at g1;obtain⟨i',c',bH,dV,eD,fZ⟩:=I.eE j s j0 j1 g1 g2 ht;by_cases e:i'=i
   ·subst e;rw[hc]at bH;cases bH;obtain⟨q,h1,h2,h3⟩:=fZ;have hqa:q≠a:=λh=>by
     grind
    have:=h3 omQ;cases hX:o with
    |none=>grind
    |some d=>obtain⟨_,e1,e2,_,e4,e5,e6⟩:=ho d hX;exact⟨i',d,by simp[J1],by grind[bR],by grind,q,by grind,by grind,λ_=>by omega⟩
   ·exact⟨i',c',(wQ e).trans bH,dV,eD,fZ⟩
 ·rcases I.mem p p0 p1 with h |⟨i',c',bH,A5,hr⟩
  ·grind
  ·have:i'≠i:=λe=>by
    grind
   exact .inr ⟨i',c',(wQ this).trans bH,A5,hr⟩
 ·rcases jF he with⟨rfl,h⟩ |⟨_,h⟩
  all_goals grind
 ·show _≤(qP (E.M.l.set z.toNat x) j).1;rw[Yr I fG.1 fG.2 j0]
  grind
 ·show _∨_<(qP (E.M.l.set z.toNat x) j).1;rw[Yr I fG.1 fG.2 j0];obtain⟨i',c',bH,dV,fZ⟩:=h;by_cases e:i'=i
  ·subst e;rw[hc]at bH;cases bH;by_cases Dy:z=j
   ·grind
   ·obtain⟨q,h1,h2,h3⟩:=fZ;have hqa:q≠a:=λh=>by
     grind
    have:=h3 omQ;cases hX:o with
    |none=>grind
    |some d=>obtain⟨_,e1,e2,_,e4,e5,e6⟩:=ho d hX;exact .inl ⟨i',d,by simp[cP],by grind[bR],q,by grind,by grind,λ_=>by omega⟩
  ·exact .inl ⟨i',c',(wQ e).trans bH,dV,fZ⟩
theorem zt.Ad (I:zt S w0 E) (hc:E.C i=some c) (h6:c.state=6) {a:Nat} (ha:c.at_=a) {z:Int} (hz:c.s[a]? =some z) (hl:a<c.aw.length):∀s:Int,c.now+1<s→s≤E.M.n→¬Touch S (E.G (s-S.start).toNat) z:=λs h1 h2 ht=>by
 have CI:=I.dQ i c hc;have fG:=CI.lk.s z (List.mem_of_getElem? hz);have hh:holds c z:=⟨a,hz,hl,λ_=>by omega⟩;have hv:(qP E.M.l z).1≤c.now:=by rw[I.hold i c hc a z _ hz (iW hl) λ_=>by omega];show(c.aw[a]).1≤c.now;exact(CI.now omQ omQ).2 _ (List.getElem_mem hl)
 obtain⟨i',c',bH,_,eD,fZ⟩:=I.eE z s fG.1 fG.2 omQ h2 ht;obtain⟨_,rfl⟩:=I.one hc bH hh fZ;omega
theorem zt.tM (I:zt S w0 E) (hc:E.C i=some c) (h7:c.state=7) {a:Nat} (ha:c.at_=a) {z:Int} (hz:c.s[a]? =some z) (hl:a<c.aw.length):∀s:Int,(c.aw[a]).1<s→s≤E.M.n→¬Touch S (E.G (s-S.start).toNat) z:=λs h1 h2 ht=>by
 have CI:=I.dQ i c hc;have fG:=CI.lk.s z (List.mem_of_getElem? hz);have hh:holds c z:=⟨a,hz,hl,λ_=>by omega⟩;have hv:(qP E.M.l z).1=(c.aw[a]).1:=by rw[I.hold i c hc a z _ hz (iW hl) λ_=>by omega]
 obtain⟨i',c',bH,dV,_,fZ⟩:=I.eE z s fG.1 fG.2 omQ h2 ht;obtain⟨_,rfl⟩:=I.one hc bH hh fZ;grind[bR]
end
section
variable {S:jz} {w0:List Int} {E F:Env} {i:Nat} {x:qf} {c:q9}
def vY (x:qf):Option q9:=if x.state=6 then x.c else none
structure MK (S:jz) (w0:List Int) (E:Env) (x:qf):Prop where
  ok:∀y∈x.r,ot S E x.ad y.1 y.2
  rt:RT S w0 E x.ad x.v.K
  kr:∀c∈x.v.K,∃v,(mW S c.1,v)∈x.r
def jXu (E:Env) (j v:Int):Prop:=v<(qP E.M.l j).1∨mX E j
structure F9 (S:jz) (w0:List Int) (E:Env) (x:qf):Prop where
  at_:x.f.at_=x.v.aC
  st:x.f.aB=mW S x.v.aC
  ad:x.f.ad=x.ad
  lk:x.f.state=1∨x.f.state=2→x.f.lk.2=(false,0)∧x.f.lk.1≤x.ad∧x.f.lk.1≤(qP E.M.l x.f.aB).1
  s2:x.f.state=2→jXu E x.f.aB x.f.lk.1∨((qP E.M.l x.f.aB).1=x.f.lk.1∧x.f.word=hv E.G w0 (x.ad-S.start).toNat x.v.aC∧Gu S E x.f.aB x.f.lk.1 x.ad)
structure Ha (S:jz) (E:Env) (x:qf):Prop where
  seen:x.e.seen=x.r
  fin:x.e.p.fin=0
  a0:0≤x.e.at_
  ld:x.e.aR=true→x.ad≤x.e.ad∧x.e.ad≤E.M.n∧∀(k:Nat) (y:zd),(k:Int)<x.e.at_→x.r[k]? =some y→ot S E x.e.ad y.1 y.2
  l0:x.e.aR=false→x.e.at_=0
structure Cr (S:jz) (w0:List Int) (E:Env) (x:qf) (c:q9):Prop where
  seen:c.seen=x.r
  cells:c.cells=jk x.v.lv
  ad:c.state≤4→c.ad=x.ad
  wg:c.writing=true↔bR c
  a0:c.state≤3→c.at_=0
  pr:c.state=4→∀(k:Nat) (y:zd),(k:Int)<c.at_→x.r[k]? =some y→ot S E c.now y.1 y.2
  wr:bR c→x.ad=c.now+1∧RT S w0 E c.now x.v.K
  sn:3≤c.state→c.state≤4→x.ad≤c.now
  f7:c.state=7→c.bf=4∨c.bf=5
def Wc (x:qf):Prop:=x.fin=2∧jk x.v.lv≠[]
structure Wd (S:jz) (w0:List Int) (E:Env) (x:qf):Prop where
  no:¬Wc x→RT S w0 E x.ad x.v.K
  yes:Wc x→RT S w0 E (x.ad-1) x.v.K∧S.start<x.ad∧E.G (x.ad-S.start).toNat=jk x.v.lv
structure xx (S:jz) (w0:List Int) (E:Env) (i:Nat) (x:qf):Prop where
  lk:vM S E.M.n x i
  z:x.state≤1→x.v.K=[]∧x.r=[]
  t:2≤x.state→S.start≤x.ad∧x.ad≤E.M.n
  live:2≤x.state→x.state≤6→(∀c,x.state=6→x.c=some c→¬bR c)→MK S w0 E x
  f:x.state=3→F9 S w0 E x
  e:x.state=4∨x.state=5→Ha S E x
  c:x.state=6→∀c,x.c=some c→Cr S w0 E x c
  end_:7≤x.state→Wd S w0 E x
theorem MK.later (V:MK S w0 E x) (L:ye S E F) (O:Yp S E) (t:S.start≤x.ad∧x.ad≤E.M.n):MK S w0 F x :=
 ⟨λy hy=>(V.ok y hy).later L O t.2,V.rt.later L O t.1 t.2,V.kr⟩
theorem F9.later (V:F9 S w0 E x) (L:ye S E F) (_:Yp S E) (t:S.start≤x.ad∧x.ad≤E.M.n) (h0:0≤x.f.aB∧x.f.aB<S.ae):F9 S w0 F x:=by
 have hv:=L.v _ h0.1 h0.2;refine⟨V.at_,V.st,V.ad,λh=>?_,λh=>?_⟩
 ·obtain⟨a,b,c⟩:=V.lk h;grind
 ·obtain⟨_,_,l3⟩:=V.lk (.inr h);by_cases hw:mX F x.f.aB
  ·exact .inl (.inr hw)
  ·rcases V.s2 h with(g |g) |⟨g1,g2,g3⟩
   ·exact .inl (.inl (Int.lt_of_lt_of_le g hv))
   ·rcases L.w _ h0.1 h0.2 g with g |g
    ·grind
    ·exact .inl (.inl (Int.lt_of_le_of_lt l3 g))
   ·by_cases e:(qP F.M.l x.f.aB).1=(qP E.M.l x.f.aB).1
    ·refine .inr ⟨e.trans g1,?_,λs h1 h2 ht=>?_⟩
     ·rw[g2];refine(Wa _ λk hk=>?_).symm;rcases L.g k with e1 |e1 |⟨e1,_⟩
      ·rw[e1]
      ·omega
      ·have hnt:¬Touch S (F.G k) (mW S x.v.aC):=λht=>by
        rw[← V.st]at ht;rcases L.b k _ h0.1 h0.2 omQ ht with h' |h' |h'
        ·rw[e1]at h';obtain⟨q,hq,_⟩:=h';grind
        all_goals grind
       rw[Touch.none hnt,e1];rfl
     ·rcases L.b _ _ h0.1 h0.2 omQ ht with h' |h' |h'
      ·exact g3 s h1 h2 h'
      all_goals grind
    ·exact .inl (.inl omQ)
theorem xx.later (A:xx S w0 E i x) (L:ye S E F) (O:Yp S E) (hn:∀c,x.state=6→x.c=some c→4≤c.state→c.state≤6→S.start≤c.now∧c.now+1≤E.M.n):xx S w0 F i x:=by
 refine⟨A.lk.mono L.n,A.z,λh=>⟨(A.t h).1,Int.le_trans (A.t h).2 L.n⟩,λh1 h2 h3=>(A.live h1 h2 h3).later L O (A.t h1),λh=>(A.f h).later L O (A.t omQ) (A.lk.f h).1,λh=>?_,λh c hc=>?_,λh=>?_⟩
 ·have V:=A.e h;exact⟨V.seen,V.fin,V.a0,λhl=>⟨(V.ld hl).1,Int.le_trans (V.ld hl).2.1 L.n,λk y h1 h2=>((V.ld hl).2.2 k y h1 h2).later L O (V.ld hl).2.1⟩,V.l0⟩
 ·have V:=A.c h c hc;refine⟨V.seen,V.cells,V.ad,V.wg,V.a0,λh4 k y h1 h2=>(V.pr h4 k y h1 h2).later L O ?_,λhw=>⟨(V.wr hw).1,(V.wr hw).2.later L O ?_ ?_⟩,V.sn,V.f7⟩
  ·grind
  all_goals grind[bR]
 ·have V:=A.end_ h;have t:=A.t omQ;refine⟨λhw=>(V.no hw).later L O t.1 t.2,λhw=>?_⟩;obtain⟨v1,v2,v3⟩:=V.yes hw;refine⟨v1.later L O omQ omQ,v2,?_⟩;rcases L.g (x.ad-S.start).toNat with e |e |⟨e,_⟩
  ·grind
  ·omega
  ·rw[v3]at e;exact absurd e hw.2
structure YG (S:jz) (w0:List Int) (E:Env) (i:Nat) (x:qf):Prop where
  l0:AttL0 S x i
  t:S.start≤x.ad∧x.ad≤E.M.n
  lv:MK S w0 E x
theorem YG.out (X:YG S w0 E i x) {f e z:Int} (h:f≠2∨jk x.v.lv=[]):xx S w0 E i (zT x f e z) :=
 ⟨X.l0.out,λh=>absurd h (by nofun),λ_=>X.t,λ_ h=>absurd h (by nofun),λh=>(by cases h),λh=>(by rcases h with h |h<;>cases h),λh=>(by cases h),
  λ_=>⟨λ_=>X.lv.rt,λhw=>by rcases h with h |h;exact absurd hw.1 h;exact absurd h hw.2⟩⟩
theorem YG.ask (SO:xZ S) (X:YG S w0 E i x) (h0:0≤x.v.aC):xx S w0 E i (QF x x.v.aC) :=
 ⟨X.l0.ask SO h0,λh=>absurd h (by nofun),λ_=>X.t,λ_ _ _=>⟨X.lv.ok,X.lv.rt,X.lv.kr⟩,
  λ_=>⟨rfl,by show ofM x.v.aC x.set.ae x.set.wide=_;rw[X.l0.set];rfl,rfl,λh=>(by rcases h with h |h<;>cases h),λh=>by cases h⟩,λh=>(by rcases h with h |h<;>cases h),λh=>(by cases h),λh=>absurd h (by nofun)⟩
theorem YG.tN (X:YG S w0 E i x) {s:Int} (hs:s=4∨s=5):xx S w0 E i (wX x s):=by have e:(wX x s).state=s:=rfl;refine⟨X.l0.later hs,λh=>omQ,λ_=>X.t,λ_ _ _=>⟨X.lv.ok,X.lv.rt,X.lv.kr⟩,λh=>omQ,λ_=>⟨rfl,rfl,Int.le_refl _,λh=>(by cases h),λ_=>rfl⟩,λh=>omQ,λh=>by omega⟩
theorem jZn (x:qf):(xK x).2.c=x.c∧(xK x).2.state=x.state:=by
 unfold xK
 grind
theorem YG.iR (SO:xZ S) (X:YG S w0 E i x) (B:Qk x) (hj:bS True x.v x.aN):xx S w0 E i (zn x):=by
 have D:=GC B.aJ B.fr hj;have K:vM S E.M.n (zn x) i:=X.l0.iR SO B hj;have X':YG S w0 E i (xK x).2:=by
  refine⟨⟨D.same.1.trans X.l0.me,D.same.2.1.trans X.l0.set,by rw[D.same.2.2.1];exact X.l0.r,by rw[qZH];exact qJ8 X.l0.inv⟩,by rw[D.same.2.2.2.1];exact X.t,⟨?_,?_,?_⟩⟩
  ·rw[D.same.2.2.1,D.same.2.2.2.1];exact X.lv.ok
  ·rw[D.same.2.2.2.1,D.kept.2.1];exact X.lv.rt
  ·rw[D.same.2.2.1,D.kept.2.1];exact X.lv.kr
 unfold zn at K ⊢;generalize(xK x).1=ke at*;generalize(xK x).2=d at*;unfold yX at K ⊢
 split
 ·rename_i h1;exact X'.ask SO (by have:=(D.aC h1).1;omega)
 ·rename_i h1;rw[iQ h1]at K
  split
  ·exact YG.tN (x:={ d with dB:=true }) ⟨⟨X'.l0.me,X'.l0.set,X'.l0.r,X'.l0.inv⟩,X'.t,⟨X'.lv.ok,X'.lv.rt,X'.lv.kr⟩⟩ (.inr rfl)
  ·rename_i h3;rw[iQ h3]at K
   split
   ·exact X'.out (.inl od)
   ·rename_i h4;rw[iQ h4]at K
    split
    ·rename_i h;exact X'.out (.inr h)
    ·rename_i bJ;rw[iQ bJ]at K;have cd:∀me sp st r cs a w,(Jv me sp st r cs a w).state=0∨(Jv me sp st r cs a w).state=2:=λme sp st r cs a w=>by
      unfold Jv ju;grind
     refine⟨K,λh=>absurd h (by simp),λ_=>X'.t,λ_ _ _=>⟨X'.lv.ok,X'.lv.rt,X'.lv.kr⟩,λh=>(by grind),λh=>(by grind),λ_ c hc=>?_,λh=>absurd h (by simp)⟩;cases hc;have:=cd d.me d.set.af d.ad d.r (jk d.v.lv) d.set.ae d.set.wide;exact⟨rfl,rfl,λ_=>rfl,⟨λh=>(by cases h),λh=>by grind[bR]⟩,λ_=>rfl,λh=>omQ,λh=>(by grind[bR]),λh=>omQ,λh=>by omega⟩
theorem xx.stamped (A:xx S w0 E i x) (h:x.c=none):xx S w0 E i (jV x):=by
 grind[jV,zZ]
end
section
variable {S:jz} {w0:List Int} {F:Env} {i:Nat} {x:qf}
theorem qZ7 {r:List zd} {s:zd} (h:(gT r s).1=0):(∀y∈r,y∈(gT r s).2)∧s∈(gT r s).2∧∀y∈(gT r s).2,y∈r∨y=s:=by
 unfold gT at*
 grind
theorem qvo {V:VM} {p w:Int}:(xz V p w).2.K=V.K∨(xz V p w).2.K=V.K++[(p,w)]:=by
 unfold xz
 grind
theorem xx.Cs (A:xx S w0 F i x) (h2:2≤x.state) (h5:x.state≤5):YG S w0 F i x:=⟨A.lk.toAttL0,A.t h2,A.live h2 omQ λc h _=>by omega⟩
theorem wc {y:qf} (_:x.c=none) (e:(if(zN x).1=0 then x else if(zN x).1=5 then zT x 5 0 (zN x).2 else jr x)=y) (hy:xx S w0 F i y) (rR:y.c=none∨(ql y=false)):xx S w0 F i (q8 x):=by
 grind[q8,jV,zZ]
theorem zt.bK (I:zt S w0 F) {j:Int} (h0:0≤j) (h1:j<S.ae) (hf:¬(qP F.M.l j).2.1=true):(qP F.M.l j).2=(false,0):=by have:=(I.ml.lk j h0 h1).1;unfold vn at this;grind
theorem xx.Hb (SO:xZ S) (I:zt S w0 F) (A:xx S w0 F i x) (O:zG x) (h3:x.state=3) {a:cE} (ha:a.err=0) (Ct:vB a) (hw:x.f.state=1→a.word=qg F.M.w x.v.aC) (hk:x.f.state≠1→a.lk=qP F.M.l x.f.aB):xx S w0 F i (q8 { x with f:=jP x.f a }):=by
 have X:=A.Cs omQ omQ;have V:=A.f h3;obtain⟨n0,Af⟩:=A.lk.f h3;have iM:=O.c0 omQ;have lR:=O.aC omQ omQ;have bP:(x.v.sz:Int)=S.words:=by rw[O.sz,A.lk.set]
 have uc:=XP (O.f h3).2 Ct;have ef:∀f:wJ,zN { x with f:=f }=(f.p.fin,f.p.ch):=λf=>by simp_all[zN]
 have going:∀f:wJ,f.p.fin=0→f.aB=x.f.aB→F9 S w0 F { x with f:=f }→xx S w0 F i (q8 { x with f:=f }):=λf h0 hs hf=>by
  refine wc (x:={ x with f:=f }) (y:={ x with f:=f }) iM (by grind) ⟨⟨⟨A.lk.me,A.lk.set,A.lk.r,A.lk.inv⟩,λ_=>⟨by grind,h0⟩,A.lk.c⟩,A.z,A.t,λa b c=>⟨X.lv.ok,X.lv.rt,X.lv.kr⟩,λ_=>hf,λh=>?_,λh=>?_,λh=>?_⟩ (.inl iM)
  all_goals grind
 have XF:∀f:wJ,YG S w0 F i { x with f:=f }:=λf=>⟨⟨A.lk.me,A.lk.set,A.lk.r,A.lk.inv⟩,X.t,⟨X.lv.ok,X.lv.rt,X.lv.kr⟩⟩;have ft:jP x.f a=(if x.f.state=1 then{ x.f with word:=a.word,state:=2 }else if x.f.state=2∧a.lk=x.f.lk then{ x.f with p:=zW x.f.p 2 0 (-1) }else gD x.f a.lk):=by simp_all[jP,Qq]
 rw[ft]at uc ⊢;by_cases s1:x.f.state=1
 ·rw[iJ s1];refine going _ Af rfl ⟨V.at_,V.st,V.ad,λ_=>V.lk (.inl s1),λ_=>?_⟩;obtain⟨l1,l2,l3⟩:=V.lk (.inl s1);show jXu F x.f.aB x.f.lk.1∨((qP F.M.l x.f.aB).1=x.f.lk.1∧a.word=_∧_);by_cases dZ:mX F x.f.aB
  ·exact .inl (.inr dZ)
  ·by_cases ax:x.f.lk.1<(qP F.M.l x.f.aB).1
   ·exact .inl (.inl ax)
   ·have he:(qP F.M.l x.f.aB).1=x.f.lk.1:=by omega
    have q:Gu S F x.f.aB x.f.lk.1 F.M.n:=λs g1 g2 ht=>by
     obtain⟨i',c',h1,h2,_,h4⟩:=I.eE _ s n0.1 n0.2 omQ g2 ht;exact dZ ⟨i',c',h1,h2,h4⟩
    have q2:Gu S F x.f.aB x.f.lk.1 x.ad:=λs g1 g2=>q s g1 (by have:=X.t.2;omega);refine .inr ⟨he,?_,q2⟩;have t:=X.t;rw[hw s1,I.word lR.1 omQ λi' c' h1 h2 h4=>dZ ⟨i',c',h1,h2,by rw[V.st];grind⟩];rw[V.st]at q q2;exact Mi (v:=x.f.lk.1) omQ t.1 omQ l2 q q2
 ·rw[iQ s1]at uc ⊢;have hk:=hk s1;by_cases s2:x.f.state=2∧a.lk=x.f.lk
  ·rw[iJ s2]at uc ⊢;obtain⟨l1,l2,l3⟩:=V.lk (.inr s2.1);have hm:qP F.M.l x.f.aB=x.f.lk:=by grind
   have my:(qP F.M.l x.f.aB).2.1=false:=by grind
   have dX:ot S F x.ad x.f.aB x.f.lk.1:=by
    have:=I.free n0.1 n0.2 my (T:=x.ad) (by grind) X.t.2
    grind
   have Cu:x.f.word=hv F.G w0 (x.ad-S.start).toNat x.v.aC:=by
    rcases V.s2 s2.1 with(g |⟨i',c',g1,_,g2⟩) |⟨_,g,_⟩
    ·grind
    ·rw[(I.own g1 g2).1]at my;grind
    grind
   refine wc (x:={ x with f:={ x.f with p:=zW x.f.p 2 0 (-1) } }) iM (y:=jt { x with f:={ x.f with p:=zW x.f.p 2 0 (-1) } }) ?_ ?_ ?_
   ·rw[ef,iQ (by nofun),iQ (by nofun)];simp_all[jr]
   ·have es:yZ { x.f with p:=zW x.f.p 2 0 (-1) }=(x.f.aB,x.f.lk.1):=by
     rfl
    have ew:xn { x.f with p:=zW x.f.p 2 0 (-1) }=x.f.word:=by rfl
    unfold jt;rw[iQ (by nofun)];dsimp only;rw[es,ew]
    split
    ·rename_i h0;obtain⟨a1,a2,a3⟩:=qZ7 h0;have B:=O.b;have hj:bS True x.v x.aN:=O.aN.same λ_=>by omega
     have rS:=(O.f h3).2;have k:=kQ (V:=x.v) (p:=x.v.aC) (x:=x.f.word);refine YG.iR SO (x:={ x with f:={ x.f with p:=zW x.f.p 2 0 (-1) },r:=(gT x.r (x.f.aB,x.f.lk.1)).2,v:=(xz x.v x.v.aC x.f.word).2 }) ⟨⟨A.lk.me,A.lk.set,qG7 A.lk.r n0,qKc A.lk.inv⟩,X.t,⟨λy hy=>?_,λc dS=>?_,λc dS=>?_⟩⟩
      ⟨B.set,Qu B.aJ rS,by rw[k.2];exact B.sz,by rw[k.1];exact B.fr,Xv B.r,(hj.lN (p:=x.v.aC) rS).dead not_false,B.c⟩ (hj.lN (p:=x.v.aC) rS)
     ·rcases a3 y hy with h |h
      ·exact X.lv.ok y h
      grind
     ·have dS:c∈(xz x.v x.v.aC x.f.word).2.K:=dS;rcases qvo (V:=x.v) (p:=x.v.aC) (w:=x.f.word)with e |e
      ·rw[e]at dS;exact X.lv.rt c dS
      ·rw[e]at dS;rcases List.mem_append.1 dS with dS |dS
       ·exact X.lv.rt c dS
       ·rw[List.mem_singleton.1 dS];exact⟨Cu,by rw[← V.st];exact dX.np⟩
     ·have dS:c∈(xz x.v x.v.aC x.f.word).2.K:=dS;rcases qvo (V:=x.v) (p:=x.v.aC) (w:=x.f.word)with e |e
      ·rw[e]at dS;obtain⟨v,hv⟩:=X.lv.kr c dS;grind
      ·rw[e]at dS;rcases List.mem_append.1 dS with dS |dS
       ·obtain⟨v,hv⟩:=X.lv.kr c dS;grind
       ·rw[List.mem_singleton.1 dS];exact⟨x.f.lk.1,by show(mW S x.v.aC,x.f.lk.1)∈_;rw[← V.st];grind⟩
    ·split
     ·exact(XF _).out (.inl od)
     ·exact(XF _).out (.inl od)
   ·--it doesn't write
    refine .inr ?_;unfold jt;rw[iQ (by nofun)]
    split
    ·grind[UG]
    ·split<;>exact zZ iM
  ·rw[iQ s2]at uc ⊢;rw[hk];unfold gD
   split
   ·split
    ·exact going _ (cJ.trans Af) rfl ⟨V.at_,V.st,V.ad,λh=>(by grind),λh=>by grind⟩
    ·refine wc (x:={ x with f:=_ }) iM (by rw[ef];exact(iQ (by nofun)).trans (iJ rfl)) ((XF _).out (.inl od)) (.inl iM)
   ·rename_i hf
    split
    ·refine wc (x:={ x with f:={ x.f with state:=0,p:=zW x.f.p 6 0 (-1) } }) iM (y:=wX { x with f:={ x.f with state:=0,p:=zW x.f.p 6 0 (-1) } } 4) ?_ ((XF _).tN (.inl rfl)) (.inl iM);rw[ef,iQ (by nofun),iQ (by nofun)];unfold jr;rw[iJ (by grind)];rfl
    ·rename_i eY;refine going _ Af rfl ⟨V.at_,V.st,V.ad,λ_=>⟨I.bK n0.1 n0.2 hf,?_,Int.le_refl _⟩,λh=>by grind⟩;have eY:¬x.f.ad<(qP F.M.l x.f.aB).1:=eY;rw[V.ad]at eY;grind
theorem xx.ext (SO:xZ S) (I:zt S w0 F) (A:xx S w0 F i x) (O:zG x) (pG:x.state=4∨x.state=5) {a:cE} (ha:a.err=0) (hw:x.e.aR=false→a.word=F.M.n) (hk:x.e.aR=true→a.lk=qP F.M.l (jZ x.e.seen x.e.at_).1):xx S w0 F i (q8 { x with e:=zw x.e a }):=by
 have X:=A.Cs omQ omQ;have V:=A.e pG;have EO:=O.e omQ omQ;have iM:=O.c0 omQ;have t:=X.t;have ef:∀e:wO,zN { x with e:=e }=(e.p.fin,e.p.ch):=λe=>by
  unfold zN;grind
 have going:∀e:wO,Ha S F { x with e:=e }→xx S w0 F i (q8 { x with e:=e }):=λe he=>by
  refine wc (x:={ x with e:=e }) (y:={ x with e:=e }) iM (by rw[ef];exact iJ he.fin) ⟨⟨⟨A.lk.me,A.lk.set,A.lk.r,A.lk.inv⟩,A.lk.f,A.lk.c⟩,A.z,A.t,λa b c=>⟨X.lv.ok,X.lv.rt,X.lv.kr⟩,λh=>absurd h (by grind),λ_=>he,λh=>absurd h (by grind),λh=>absurd h (by grind)⟩ (.inl iM)
 have XE:∀(e:wO),YG S w0 F i { x with e:=e }:=λe=>⟨⟨A.lk.me,A.lk.set,A.lk.r,A.lk.inv⟩,X.t,⟨X.lv.ok,X.lv.rt,X.lv.kr⟩⟩;have aI:∀e:wO,e.p.fin=5→xx S w0 F i (q8 { x with e:=e }):=λe h5=>wc (x:={ x with e:=e }) (y:=zT { x with e:=e } 5 0 (zN { x with e:=e }).2) iM ((iQ (by grind)).trans (iJ (by grind))) ((XE _).out (.inl od)) (.inl iM)
 have done:∀e:wO,e.p.fin=2→S.start≤e.ad∧e.ad≤F.M.n→(∀y∈x.r,ot S F e.ad y.1 y.2)→xx S w0 F i (q8 { x with e:=e }):=λe h2 ht dX=>by
  have XD:YG S w0 F i { x with e:=e,ad:=e.ad }:=⟨⟨A.lk.me,A.lk.set,A.lk.r,A.lk.inv⟩,ht,⟨dX,λc hc=>?_,X.lv.kr⟩⟩
  ·have est:yt e=e.ad:=by simp_all[yt]
   rcases pG with h4 |h5
   ·refine wc (x:={ x with e:=e }) iM (y:=QF { x with e:=e,ad:=e.ad } x.v.aC) ?_ (XD.ask SO (by have:=O.aC omQ omQ;grind)) (.inl iM);simp_all[jr]
   ·refine wc (x:={ x with e:=e }) iM (y:=zT { x with e:=e,ad:=e.ad } 3 0 (-1)) ?_ (XD.out (.inl od)) (.inl iM);simp_all[jr]
  ·obtain⟨v,hv⟩:=X.lv.kr c hc;have o1:=X.lv.ok _ hv;have o2:=dX _ hv;obtain⟨k1,k2⟩:=X.lv.rt c hc;refine⟨?_,o2.np⟩;rw[k1];exact Mi t.1 ht.1 o1.le o2.le o1.q o2.q
 have et:zw x.e a=(if x.e.aR=false then kB { x.e with aR:=true,ad:=a.word }
   else if a.lk.2.1=true then(if(jA x.e.p a.lk).1=true then{ x.e with p:=(jA x.e.p a.lk).2 }else{ x.e with p:=zW (jA x.e.p a.lk).2 5 0 a.lk.2.2 })
   else if a.lk.1≠(jZ x.e.seen x.e.at_).2 then{ x.e with p:=zW x.e.p 5 0 (-1) }
   else kB { x.e with at_:=x.e.at_+1 }):=by
  unfold zw;rw[Qq V.fin ha,iQ (λh=>by grind)]
 rw[et];cases hl:x.e.aR with
 |false=>
  rw[iJ rfl,hw hl];have h0:=V.l0 hl;have hn:x.ad≤F.M.n:=t.2;unfold kB
  split
  ·rename_i he;have he:x.e.at_=(x.e.seen.length:Int):=he;refine done _ rfl ⟨I.st,Int.le_refl _⟩ λy hy=>?_;rw[V.seen,h0]at he;grind
  ·exact going _ ⟨V.seen,V.fin,V.a0,λ_=>⟨hn,Int.le_refl _,λk y h1 h2=>absurd h1 (by grind)⟩,λh=>by grind⟩
 |true=>
  rw[iQ od];obtain⟨l1,l2,l3⟩:=V.ld hl;have ax:=EO.lX V.fin hl;have hk:=hk hl;obtain⟨k,ig⟩:∃k:Nat,x.e.at_=k:=⟨x.e.at_.toNat,by have:=V.a0;omega⟩;have l7:k<x.r.length:=by rw[V.seen]at ax;omega
  have Dz:jZ x.e.seen x.e.at_=x.r[k]:=by unfold jZ;rw[V.seen,ig,Int.toNat_natCast,iW l7];rfl
  rw[Dz]at hk ⊢;have Hc:=List.getElem_mem l7;have hr:=A.lk.r _ Hc;rw[hk]
  split
  ·split
   ·refine going _ ⟨V.seen,cJ.trans V.fin,V.a0,λ_=>⟨l1,l2,l3⟩,λh=>?_⟩;grind
   ·exact aI _ rfl
  ·rename_i hf
   split
   ·exact aI _ rfl
   ·rename_i hv;have hv:(qP F.M.l (x.r[k]).1).1=(x.r[k]).2:=by grind
    have o1:=X.lv.ok _ Hc;have ok1:ot S F x.e.ad (x.r[k]).1 (x.r[k]).2:=by
     have:=I.free hr.1 hr.2 (by grind) (T:=x.e.ad) (by rw[hv];have:=o1.le;omega) l2
     grind
    have all:∀(q:Nat) (y:zd),(q:Int)<x.e.at_+1→x.r[q]? =some y→ot S F x.e.ad y.1 y.2:=λq y h1 h2=>by
     grind
    unfold kB
    split
    ·rename_i he;have he:x.e.at_+1=(x.e.seen.length:Int):=he;rw[V.seen]at he;refine done _ rfl ⟨by grind,l2⟩ λy hy=>?_;obtain⟨q,hq,e⟩:=List.mem_iff_getElem.1 hy;exact all q y omQ (by grind)
    ·refine going _ ⟨V.seen,V.fin,by grind,λ_=>⟨l1,l2,all⟩,λh=>?_⟩;grind
theorem xx.Cv (SO:xZ S) (I:zt S w0 F) (A:xx S w0 F i x) (O:zG x) (h6:x.state≠6) {a:cE} (ha:a.err=0) (Ct:vB a) (h1:x.state=1→a.word=F.M.n)
  (hw:x.state=3→x.f.state=1→a.word=qg F.M.w x.v.aC) (hk:x.state=3→x.f.state≠1→a.lk=qP F.M.l x.f.aB)
  (dV:x.state=4∨x.state=5→x.e.aR=false→a.word=F.M.n) (lQ:x.state=4∨x.state=5→x.e.aR=true→a.lk=qP F.M.l (jZ x.e.seen x.e.at_).1):xx S w0 F i (qL x a):=by
 have cd:=O.st;unfold qL;by_cases h8:x.state=8
 ·grind
 rw[iQ h8,iQ (λh=>h ha)];by_cases s0:x.state=0
 ·rw[iJ s0];exact⟨⟨⟨A.lk.me,A.lk.set,A.lk.r,A.lk.inv⟩,λh=>(by grind),λh=>by grind⟩,λ_=>A.z omQ,λh=>absurd h (by simp),λh=>absurd h (by simp),λh=>(by grind),λh=>(by grind),λh=>(by grind),λh=>absurd h (by simp)⟩
 rw[iQ s0];by_cases s1:x.state=1
 ·rw[iJ s1,h1 s1];have hz:=A.z omQ;refine⟨⟨⟨A.lk.me,A.lk.set,A.lk.r,A.lk.inv⟩,λh=>(by grind),λh=>by grind⟩,λh=>absurd h (by simp),λ_=>⟨I.st,Int.le_refl _⟩,λ_ _ _=>⟨λy hy=>?_,λc hc=>?_,λc hc=>?_⟩,λh=>(by grind),λh=>(by grind),λh=>(by grind),λh=>absurd h (by simp)⟩
  all_goals grind
 rw[iQ s1];by_cases s2:x.state=2
 ·rw[iJ s2];exact(A.Cs omQ omQ).iR SO O.b (O.aN.same λ_=>by omega)
 rw[iQ s2];by_cases s7:x.state=7
 ·rw[iJ s7];have V:=A.end_ omQ;exact⟨⟨⟨A.lk.me,A.lk.set,A.lk.r,A.lk.inv⟩,λh=>(by grind),λh=>by grind⟩,λh=>absurd h (by simp),λ_=>A.t omQ,λ_ h=>absurd h (by simp),λh=>(by grind),λh=>(by grind),λh=>(by grind),λ_=>⟨V.no,V.yes⟩⟩
 rw[iQ s7];by_cases s3:x.state=3
 ·rw[iJ s3];exact A.Hb SO I O s3 ha Ct (hw s3) (hk s3)
 rw[iQ s3,iQ h6];exact A.ext SO I O omQ ha (dV omQ) (lQ omQ)
end
section
variable {S:jz} {w0:List Int} {E F:Env} {i:Nat} {x:qf} {c d:q9} {M':jX}
def dH (S:jz) (w0:List Int) (E:Env) (i:Nat) (M':jX) (y:qf):Prop :=
 ∃G',zt S w0 ⟨M',G',cP E.C i (vY y)⟩∧ye S E ⟨M',G',cP E.C i (vY y)⟩∧xx S w0 ⟨M',G',cP E.C i (vY y)⟩ i y∧(∀k,G' k=E.G k∨(G' k=jk y.v.lv∧ql y=true∧(y.ad-S.start).toNat=k))∧(ql y=true→(∃c,E.C i=some c∧bR c)∨E.G (y.ad-S.start).toNat=[])
theorem Hd (h6:x.state=6):zN { x with c:=some d }=(d.p.fin,d.p.ch):=by simp_all[zN]
theorem yW {y:qf} {e:q9} (h8:y.state≠8) (hc:y.c=some e):ql y=((e.writing&&decide (e.p.fin=0))||decide (e.p.fin=2)):=by simp_all[ql,kT,iG]
theorem Y3 {y:qf} {e:q9} (h8:y.state≠8) (hc:y.c=some e) (hw:e.writing=false) (hf:e.p.fin≠2):ql y=false:=by simp_all[yW,iV]
theorem DA {y:qf} {P:Prop} (h:ql y=false):ql y=true→P:=λh'=>by grind
theorem Jk {y:qf} (h:ql y=false):jV y=y:=by grind[jV]
theorem Vy {y:qf} {e:q9} (hc:y.c=some e) (h:ql y=true):jV y={ y with ad:=JU e }:=by simp_all[jV]
theorem Yn (h6:x.state=6) (h0:d.p.fin=0):q8 { x with c:=some d }=if d.writing=true then{ x with c:=some d,ad:=d.now+1 }else{ x with c:=some d }:=by
 unfold q8;rw[Hd h6,iJ h0];cases hw:d.writing with
 |true=>rw[iJ rfl,Vy (e:=d) rfl (by rw[yW (e:=d) (by grind) rfl,hw,iG h0];rfl)];simp_all[JU]
 |false=>rw[iQ od,Jk];rw[yW (e:=d) (by grind) rfl,hw,iV (by omega:¬d.p.fin=2)];rfl
theorem Ur (h6:x.state=6) (hf:d.p.fin=4∨d.p.fin=5) (hw:d.writing=false):∃e z,q8 { x with c:=some d }=zT { x with c:=some d } d.p.fin e z:=by
 have hs:∀y:qf,y.state≠8→y.c=some d→jV y=y:=λy h8 hy=>by
  refine Jk ?_;rw[yW h8 hy,hw,iV (by omega:¬d.p.fin=2)];rfl
 unfold q8;rw[Hd h6];rcases hf with h |h
 ·refine⟨d.p.err,-1,?_⟩;rw[iQ (by grind),iQ (by grind)];unfold jr;rw[iQ (by grind),iQ (by grind),iQ (by grind)];exact hs _ (by nofun) rfl
 ·refine⟨0,d.p.ch,?_⟩;rw[iQ (by grind),iJ (by grind),h];exact hs _ (by nofun) rfl
theorem Xb (h6:x.state=6) (h2:d.p.fin=2) (hw:d.writing=true):q8 { x with c:=some d }={ zT { x with c:=some d } 2 d.p.err (-1)with ad:=d.now+1 }:=by unfold q8;rw[Hd h6,iQ (by grind),iQ (by grind)];unfold jr;rw[iQ (by grind),iQ (by grind),iQ (by grind)];dsimp only;rw[Vy (y:=zT { x with c:=some d } d.p.fin d.p.err (-1)) (e:=d) rfl (by rw[yW (e:=d) (by nofun) rfl,hw,iG h2,Bool.or_true]),h2];simp_all[JU]
theorem xx.Bb {z:Int} (l0:AttL0 S x i) (h6:x.state=6) (lk:wY S F.M.n d i) (h0:d.p.fin=0) (t:S.start≤z∧z≤F.M.n) (lv:¬bR d→MK S w0 F { x with c:=some d,ad:=z }) (J:Cr S w0 F { x with c:=some d,ad:=z } d):xx S w0 F i { x with c:=some d,ad:=z } :=
 ⟨⟨⟨l0.me,l0.set,l0.r,l0.inv⟩,λh=>absurd h (by grind),λ_ e he=>by grind⟩,λh=>absurd h (by grind),λ_=>t,λ_ _ h=>lv (h d h6 rfl),λh=>absurd h (by grind),λh=>absurd h (by grind),
  λ_ e he=>by grind,λh=>absurd h (by grind)⟩
theorem wR (hM:M'.w=E.M.w∧M'.l=E.M.l∧M'.n=E.M.n):ye S E ⟨M',E.G,E.C⟩ :=
 ⟨by grind,λ_=>.inl rfl,λ_ e he h4=>.inr ⟨e,he,h4,rfl,rfl,rfl⟩,λj _ _=>by grind,λ_ _ _ h=>.inl h,λ_ _ _ _ _ h=>.inl h⟩
structure Uu (S:jz) (w0:List Int) (E:Env) (i:Nat) (x:qf) (c:q9):Prop where
  l0:AttL0 S x i
  t:S.start≤x.ad∧x.ad≤E.M.n
  lv:¬bR c→MK S w0 E x
  J:Cr S w0 E x c
theorem xx.We (A:xx S w0 E i x) (h6:x.state=6) (hc:x.c=some c):Uu S w0 E i x c :=
 ⟨A.lk.toAttL0,A.t omQ,λnw=>A.live omQ omQ λe _ he=>by grind,A.c h6 c hc⟩
theorem NG (I:zt S w0 E) (A:Uu S w0 E i x c) (h6:x.state=6) (hC:E.C i=some c) (h4:c.state≤4) (hM:M'.w=E.M.w∧M'.l=E.M.l∧M'.n=E.M.n)
  (hd:wY S E.M.n d i) (es:d.s=c.s) (ee:d.seen=c.seen) (ec:d.cells=c.cells) (ew:d.aw=c.aw) (et:d.ad=c.ad) (eg:d.writing=false) (nw:¬bR d)
  (ma:3≤d.state→d.state≤6→S.start≤d.now∧∀w∈d.aw,w.1≤d.now) (p4:d.state=4→c.state=4∧d.now=c.now∧∀(k:Nat) (y:zd),(k:Int)<d.at_→x.r[k]? =some y→ot S E d.now y.1 y.2) (a0:d.state≤3→d.at_=0)
  (hf:d.p.fin=0∨d.p.fin=4∨d.p.fin=5) (hsn:3≤d.state→d.state≤4→x.ad≤d.now) (hf7:d.state=7→d.bf=4∨d.bf=5):dH S w0 E i M' (q8 { x with c:=some d }):=by
 have fI:¬bR c:=by grind[bR]
 have CI:=I.dQ i c hC;have J:=A.J;have V:=A.lv fI;have t:=A.t;have I1:=I.same hM;have Wf:d.p.fin=0→G7 S M'.n d i:=λh0=>⟨by rw[hM.2.2];exact hd.mf h0,h0,by rw[ec,es];exact CI.lX,by rw[ec];exact CI.un,by rw[ec];exact CI.ne,ma⟩;have lV:∀o:Option q9,(∀e,o=some e→e=d∧d.p.fin=0)→zt S w0 ⟨M',E.G,cP E.C i o⟩∧ye S E ⟨M',E.G,cP E.C i o⟩:=λo ho=>by
  obtain⟨a,b⟩:=I1.swap (i:=i) (λe he=>by grind) (o:=o) λe he=>by
   obtain⟨rfl,h0⟩:=ho e he;refine⟨Wf h0,λk z w g1 g2 g3=>?_,nw,λh=>?_⟩
   ·show qP M'.l z=_;rw[hM.2.1];exact I.hold i c hC k z w (by grind) (by grind) λh=>by omega
   grind
  exact⟨a,(wR hM).trans b I.env⟩
 rcases hf with h0 |hf
 ·have ey:q8 { x with c:=some d }={ x with c:=some d }:=by rw[Yn h6 h0,iQ (by grind)]
  have ea:vY { x with c:=some d }=some d:=iJ h6;obtain⟨r1,r2⟩:=lV (some d) λe he=>by grind
  rw[ey];refine⟨E.G,by grind,by grind,?_,λ_=>.inl rfl,DA (Y3 (e:=d) (by grind) rfl eg omQ)⟩;rw[ea];have V':=V.later r2 I.env t;refine xx.Bb (z:=x.ad) A.l0 h6 (by grind) h0 ⟨t.1,by grind⟩ (λ_=>⟨V'.ok,V'.rt,V'.kr⟩) ⟨by rw[ee];exact J.seen,by rw[ec];exact J.cells,λ_=>by rw[et];exact J.ad h4,⟨λh=>(by grind),λh=>absurd h nw⟩,a0,λh k y g1 g2=>?_,λh=>absurd h nw,hsn,hf7⟩;obtain⟨q1,q2,q3⟩:=p4 h;have:=CI.lk.s4 omQ omQ;exact(q3 k y g1 g2).later r2 I.env omQ
 ·obtain⟨e,z,ey⟩:=Ur (x:=x) h6 hf eg;have ea:vY (zT { x with c:=some d } d.p.fin e z)=none:=iQ (by nofun);obtain⟨r1,r2⟩:=lV none λe he=>by grind
  rw[ey];refine⟨E.G,by grind,by grind,?_,λ_=>.inl rfl,DA (Y3 (e:=d) (by nofun) rfl eg omQ)⟩;rw[ea];have V':=V.later r2 I.env t;exact YG.out (x:={ x with c:=some d }) ⟨⟨A.l0.me,A.l0.set,A.l0.r,A.l0.inv⟩,⟨t.1,by grind⟩,⟨V'.ok,V'.rt,V'.kr⟩⟩ (.inl omQ)
theorem qve (I:zt S w0 E) (A:Uu S w0 E i x c) (h6:x.state=6) (hC:E.C i=some c) (h4:c.state=4) (hd:wY S E.M.n (zj c) i) (Wg:RT S w0 E c.now x.v.K):dH S w0 E i E.M (q8 { x with c:=some (zj c) }):=by
 have CI:=I.dQ i c hC;have J:=A.J;have fF:0<c.cells.length:=List.length_pos_iff.2 CI.ne;have eb:zj c={ c with writing:=true,at_:=0,state:=5 }:=by simp[zj,jo];omega
 rw[eb]at hd ⊢;have hn:=(CI.now omQ omQ);have oD:=CI.lk.s4 omQ omQ;have h0:({ c with writing:=true,at_:=0,state:=5 }:q9).p.fin=0:=CI.fin;have Wf:G7 S E.M.n { c with writing:=true,at_:=0,state:=5 } i:=⟨hd.mf h0,h0,CI.lX,CI.un,CI.ne,λ_ _=>hn⟩;obtain⟨r1,r2⟩:=I.bB hC h4 Wf rfl rfl rfl rfl rfl rfl;have ey:q8 { x with c:=some { c with writing:=true,at_:=0,state:=5 } }={ x with c:=some { c with writing:=true,at_:=0,state:=5 },ad:=c.now+1 }:=by rw[Yn h6 h0,iJ rfl]
 rw[ey];have ea:vY { x with c:=some { c with writing:=true,at_:=0,state:=5 },ad:=c.now+1 }=some { c with writing:=true,at_:=0,state:=5 }:=iJ h6;refine⟨_,by rw[ea];exact r1,by grind,?_,λk=>?_,λ_=>.inr (I.ud i c hC h4)⟩;rw[ea];refine xx.Bb A.l0 h6 hd h0 ⟨by omega,oD⟩ (λh=>absurd (.inl rfl) h) ⟨J.seen,J.cells,λh=>absurd h (by simp),⟨λ_=>.inl rfl,λ_=>rfl⟩,λh=>absurd h (by simp),λh=>(by grind),λ_=>⟨rfl,?_⟩,λ_ h=>absurd h (by simp),λh=>by grind⟩;exact Wg.later r2 I.env hn.1 omQ;by_cases hk:k=(c.now+1-S.start).toNat
 ·subst hk;refine .inr ⟨?_,?_,rfl⟩
  ·show Ud E.G _ c.cells _=jk x.v.lv;rw[← J.cells];exact iJ rfl
  ·rw[yW (e:={ c with writing:=true,at_:=0,state:=5 }) (by grind) rfl,iG h0];rfl
 ·exact .inl (iQ hk)
theorem qv3:∀{s:List Int} {w:List cK} {j v:Int},QS s w j=some v→∃(k:Nat) (q:cK),s[k]? =some j∧w[k]? =some q∧q.1=v:=by
 intro s
 induction s with
 |nil=>nofun
 |cons a s ih=>
  intro w j v h;cases w with
  |nil=>trivial
  |cons b w=>
   unfold QS at h
   split at h
   ·rename_i e;cases h;exact⟨0,b,by grind,rfl,rfl⟩
   ·obtain⟨k,q,h1,h2,h3⟩:=ih h;exact⟨k+1,q,h1,h2,h3⟩
theorem qK6:∀(n:Nat) {c:q9},0≤c.at_→(c.seen.length:Int)<c.at_+n→c.state=4→
  (∃b,ja c n={ c with at_:=b }∧c.at_≤b∧b<c.seen.length∧∀k:Nat,c.at_≤k→(k:Int)<b→∃v,QS c.s c.aw (jZ c.seen k).1=some v∧v=(jZ c.seen k).2)∨
  (∃b,ja c n=jN { c with at_:=b } 5 0 (-1))∨
  (∃b,ja c n=zj { c with at_:=b }∧∀k:Nat,c.at_≤k→k<c.seen.length→∃v,QS c.s c.aw (jZ c.seen k).1=some v∧v=(jZ c.seen k).2):=by
 intro n
 induction n with
 |zero=>intro c h0 hl h4;exact .inr (.inr ⟨c.at_,rfl,λk h1 h2=>by omega⟩)
 |succ n ih=>
  intro c h0 hl h4;unfold ja;by_cases ax:c.at_<(c.seen.length:Int)
  ·rw[iJ ax];cases ho:QS c.s c.aw (jZ c.seen c.at_).1 with
   |none=>grind
   |some v=>
    dsimp only;by_cases hv:v=(jZ c.seen c.at_).2
    ·rw[iQ (λh=>h hv)];have step:∀k:Nat,c.at_≤k→¬c.at_+1≤(k:Int)→∃v,QS c.s c.aw (jZ c.seen k).1=some v∧v=(jZ c.seen k).2:=λk h1 h2=>by
      grind
     rcases ih (c:={ c with at_:=c.at_+1 }) (by grind) (by grind) h4 with⟨b,e,g1,g2,g3⟩ |⟨b,e⟩ |⟨b,e,g⟩
     ·grind
     all_goals grind
    ·rw[iJ hv];grind
  ·rw[iQ ax];grind
theorem qjm {f e y:Int} (hp:c.p.fin=0):(jN c f e y).s=c.s∧(jN c f e y).seen=c.seen∧(jN c f e y).cells=c.cells∧(jN c f e y).aw=c.aw∧(jN c f e y).ad=c.ad∧(jN c f e y).writing=c.writing∧(jN c f e y).state=7∧(jN c f e y).at_=0∧((jN c f e y).p.fin=0∨(jN c f e y).p.fin=f)∧(jN c f e y).bf=f:=by
 unfold jN zc
 split
 ·exact⟨rfl,rfl,rfl,rfl,rfl,rfl,rfl,rfl,.inr rfl,rfl⟩
 grind
theorem LR (I:zt S w0 E) (A:Uu S w0 E i x c) (h6:x.state=6) (hC:E.C i=some c) (h4:c.state≤4) (hM:M'.w=E.M.w∧M'.l=E.M.l∧M'.n=E.M.n) {e:q9} (he:e.s=c.s∧e.seen=c.seen∧e.cells=c.cells∧e.aw=c.aw∧e.ad=c.ad∧e.writing=c.writing∧e.p.fin=0)
  {f er y:Int} (hf:f=4∨f=5) (hd:wY S E.M.n (jN e f er y) i):dH S w0 E i M' (q8 { x with c:=some (jN e f er y) }):=by
 obtain⟨a1,a2,a3,a4,a5,a6,a7⟩:=he;obtain⟨b1,b2,b3,b4,b5,b6,b7,b8,b9,b10⟩:=qjm (c:=e) (f:=f) (e:=er) (y:=y) a7;have J:=A.J;have Wh:c.writing=false:=by
  cases hw:c.writing with
  |false=>rfl
  |true=>have:=J.wg.1 hw;grind[bR]
 exact NG I A h6 hC h4 hM hd (b1.trans a1) (b2.trans a2) (b3.trans a3) (b4.trans a4) (b5.trans a5) (b6.trans (a6.trans Wh)) (by grind[bR]) (λ_ h=>by omega) (λh=>by omega) (λh=>by omega) omQ (λ_ h=>by omega) (λ_=>by omega)
theorem jX1 (I:zt S w0 E) (A:Uu S w0 E i x c) (h6:x.state=6) (hC:E.C i=some c) (h4:c.state=4) {a:Int} (Ly:0≤a) (hpr:∀(k:Nat) (y:zd),(k:Int)<a→x.r[k]? =some y→ot S E c.now y.1 y.2)
  (hd:wY S E.M.n (xF { c with at_:=a }) i):dH S w0 E i E.M (q8 { x with c:=some (xF { c with at_:=a }) }):=by
 have CI:=I.dQ i c hC;have J:=A.J;have fI:¬bR c:=by grind[bR]
 have hn:=CI.now omQ omQ;have oD:=CI.lk.s4 omQ omQ;have hfull:=CI.full omQ omQ;have V:=A.lv fI;have Wh:c.writing=false:=by
  cases hw:c.writing with
  |false=>rfl
  |true=>exact absurd (J.wg.1 hw) fI
 have own:∀(k:Nat) (y:zd),x.r[k]? =some y→(∃v,QS c.s c.aw (jZ c.seen k).1=some v∧v=(jZ c.seen k).2)→ot S E c.now y.1 y.2:=λk y hy ⟨v,h1,h2⟩=>by
  have hs:jZ c.seen (k:Int)=y:=by unfold jZ;rw[J.seen,Int.toNat_natCast,hy];rfl
  rw[hs]at h1 h2;obtain⟨q,l,g1,g2,g3⟩:=qv3 h1;have hh:holds c y.1:=⟨q,g1,(List.getElem?_eq_some_iff.1 g2).1,λh=>by omega⟩;have hl:=I.hold i c hC q y.1 l g1 g2 λh=>by omega
  have hr:=CI.lk.s y.1 (List.mem_of_getElem? g1);have hv:(qP E.M.l y.1).1=y.2:=by grind
  have hle:y.2≤c.now:=by grind
  have:=I.oL hC fI hr.1 hr.2 hh (T:=c.now) omQ omQ (λ_=>Int.le_refl _)
  grind
 have ec4:({ ({ c with at_:=a }:q9)with state:=4 }:q9)={ c with at_:=a }:=by grind
 have ep:xF { c with at_:=a }=ja { c with at_:=a } (c.seen.length+1):=by grind[xF]
 rw[ep]at hd ⊢;rcases qK6 (c.seen.length+1) (c:={ c with at_:=a }) Ly (by grind) h4 with⟨b,e,g1,g2,g3⟩ |⟨b,e⟩ |⟨b,e,g⟩
 ·rw[e]at hd ⊢;refine NG I A h6 hC omQ ⟨rfl,rfl,rfl⟩ hd rfl rfl rfl rfl rfl Wh fI (λ_ _=>hn) (λ_=>⟨h4,rfl,λk y h1 h2=>?_⟩) (λh=>by grind) (.inl CI.fin) (λ_ _=>J.sn omQ omQ) (λh=>by grind);grind
 ·rw[e]at hd ⊢;exact LR I A h6 hC omQ ⟨rfl,rfl,rfl⟩ ⟨rfl,rfl,rfl,rfl,rfl,rfl,CI.fin⟩ (.inr rfl) hd
 ·rw[e]at hd ⊢;have eb:zj { ({ c with at_:=a }:q9)with at_:=b }=zj c:=rfl;rw[eb]at hd ⊢;refine qve I A h6 hC h4 hd λq hq=>?_;obtain⟨v,hv⟩:=V.kr q hq;obtain⟨k,hk,ek⟩:=List.mem_iff_getElem.1 hv;have lQ:x.r[k]? =some (mW S q.1,v):=by grind
  have ok:ot S E c.now (mW S q.1) v:=by
   by_cases hka:(k:Int)<a
   ·grind
   ·exact own k _ lQ (g k (by grind) (by show k<c.seen.length;rw[J.seen];grind))
  have o1:=V.ok _ hv;obtain⟨k1,k2⟩:=V.rt q hq;have t:=A.t;refine⟨?_,ok.np⟩;rw[k1];exact Mi t.1 hn.1 o1.le ok.le o1.q ok.q
end
section
variable {S:jz} {w0:List Int} {E F:Env} {i:Nat} {x y:qf} {c d:q9} {M':jX}
theorem RT.at_ {T T':Int} {K:List Cl} (h:RT S w0 E T K) (e:T'=T):RT S w0 E T' K:=e▸h
theorem jQr {C:Nat→Option q9} {o o':Option q9}:cP (cP C i o) i o'=cP C i o':=by
 funext j
 simp_all[cP]
theorem dH.after (O:Yp S E) {M1:jX} {o1:Option q9} (ho:∀c,o1=some c→¬bR c) (L:ye S E ⟨M1,E.G,cP E.C i o1⟩) (h:dH S w0 ⟨M1,E.G,cP E.C i o1⟩ i M' y):dH S w0 E i M' y:=by
 obtain⟨G',a,b,c,f,f2⟩:=h;have e:cP (cP E.C i o1) i (vY y)=cP E.C i (vY y):=jQr;refine⟨G',?_,?_,?_,f,λhw=>?_⟩
 ·grind
 ·rw[← e];exact L.trans b O
 all_goals grind[cP,J1,absurd]
theorem dH.aT {M1:jX} (I:zt S w0 E) (hM:M1.w=E.M.w∧M1.l=E.M.l∧M1.n=E.M.n) (h:dH S w0 ⟨M1,E.G,E.C⟩ i M' y):dH S w0 E i M' y:=by obtain⟨G',a,b,c,f,f2⟩:=h;exact⟨G',a,(wR hM).trans b I.env,c,f,f2⟩
theorem Uu.later (A:Uu S w0 E i x c) (L:ye S E F) (O:Yp S E) (hn:4≤c.state→c.state≤6→S.start≤c.now∧c.now+1≤E.M.n):Uu S w0 F i x c:=by
 have V:=A.J;refine⟨A.l0,⟨A.t.1,Int.le_trans A.t.2 L.n⟩,λnw=>(A.lv nw).later L O A.t,⟨V.seen,V.cells,V.ad,V.wg,V.a0,λh4 k y h1 h2=>(V.pr h4 k y h1 h2).later L O ?_,λhw=>⟨(V.wr hw).1,(V.wr hw).2.later L O ?_ ?_⟩,V.sn,V.f7⟩⟩
 ·omega
 all_goals grind[bR]
theorem Uu.wf (A:Uu S w0 E i x c) (h:¬bR c):c.writing=false:=by
 cases hw:c.writing with
 |false=>rfl
 |true=>exact absurd (A.J.wg.1 hw) h
theorem jX4 (I:zt S w0 E) (A:Uu S w0 E i x c) (h6:x.state=6) (hC:E.C i=some c) (h4:c.state≤4) (hM:M'.w=E.M.w∧M'.l=E.M.l∧M'.n=E.M.n) {l:cK} (hd:wY S E.M.n (zx c l) i):dH S w0 E i M' (q8 { x with c:=some (zx c l) }):=by
 have CI:=I.dQ i c hC;have J:=A.J;have fI:¬bR c:=by grind[bR]
 unfold zx at hd ⊢;by_cases hw:(jA c.p l).1=true
 ·rw[iJ hw]at hd ⊢;exact NG I A h6 hC h4 hM hd rfl rfl rfl rfl rfl (A.wf fI) fI CI.now (λh=>⟨h,rfl,J.pr h⟩) J.a0 (.inl (cJ.trans CI.fin)) J.sn (λh=>by grind)
 ·rw[iQ hw]at hd ⊢;exact LR (e:={ c with p:=(jA c.p l).2 }) I A h6 hC h4 hM ⟨rfl,rfl,rfl,rfl,rfl,rfl,cJ.trans CI.fin⟩ (.inr rfl) hd
theorem Wi (I:zt S w0 E) (A:Uu S w0 E i x c) (h6:x.state=6) (hC:E.C i=some c) (hw:bR c) (r:zt S w0 ⟨M',E.G,cP E.C i (some d)⟩∧ye S E ⟨M',E.G,cP E.C i (some d)⟩) (hk:wY S M'.n d i) (h0:d.p.fin=0) (wd:bR d) (es:d.seen=c.seen) (ec:d.cells=c.cells) (en:d.now=c.now) (ew:d.writing=c.writing):dH S w0 E i M' (q8 { x with c:=some d }):=by
 have CI:=I.dQ i c hC;have J:=A.J;obtain⟨r1,r2⟩:=r;have Wj:5≤c.state∧c.state≤6:=by grind[bR]
 have d56:5≤d.state∧d.state≤6:=by grind[bR]
 have hn:=(CI.now omQ omQ).1;have oD:=CI.lk.s4 omQ omQ;have dZ:d.writing=true:=by rw[ew];exact J.wg.2 hw
 rw[Yn h6 h0,iJ dZ];have ea:vY { x with c:=some d,ad:=d.now+1 }=some d:=iJ h6;refine⟨E.G,by grind,by grind,?_,λ_=>.inl rfl,λ_=>.inl ⟨c,hC,hw⟩⟩;rw[ea];have hM:=r2.n;refine xx.Bb A.l0 h6 hk h0 ⟨by omega,by grind⟩ (λh=>absurd wd h) ⟨by rw[es];exact J.seen,by rw[ec];exact J.cells,λh=>omQ,⟨λ_=>wd,λ_=>dZ⟩,λh=>omQ,λh=>omQ,λ_=>⟨rfl,?_⟩,λ_ h=>omQ,λh=>by omega⟩;rw[en];exact(J.wr hw).2.later r2 I.env hn omQ
theorem xx.Wk (I:zt S w0 E) (B:xx S w0 E i x) (h6:x.state=6) (hi:i<4) (hc:x.c=some c) (hC:E.C i=some c) {o:dG} (hn:xX c=some o) :
  dH S w0 E i (qF E.M o).2 (q8 { x with c:=some (qn c (qF E.M o).1) }):=by
 have CI:=I.dQ i c hC;have C:=(B.lk.c h6 c hc).1;have A:=B.We h6 hc;have O:=C.ok;have hp:=CI.fin;have J:=A.J;have t:=A.t;have MO:=I.ml;have cd:=O.st;have hnn:=MO.n;have hM:({ E.M with aT:=E.M.aT+1 }:jX).w=E.M.w∧({ E.M with aT:=E.M.aT+1 }:jX).l=E.M.l∧({ E.M with aT:=E.M.aT+1 }:jX).n=E.M.n:=⟨rfl,rfl,rfl⟩;obtain⟨o',hX,st⟩:=Uf I.ml C omQ hp;rw[hn]at hX;cases hX;have hk:=st.dQ;clear st
 have lP:xX c=(if c.state=0 then some (bz 3 (qg c.s c.aw.length) 0)
   else if c.state=1 then some ⟨4,qg c.s c.aw.length,0,0,c.lk,(c.lk.1,true,c.me)⟩
   else if c.state=2 then some (bz 6 0 0)
   else if c.state=3 then some ⟨7,0,c.now,c.now+1,bK,bK⟩
   else if c.state=4 then some (bz 3 (jZ c.seen c.at_).1 0)
   else if c.state=5 then some (bz 2 (yF c.cells c.at_).1 (yF c.cells c.at_).2)
   else if c.state=6 then some ⟨5,qg c.s c.at_,0,0,bK,(c.now+1,false,0)⟩
   else some ⟨5,qg c.s c.at_,0,0,bK,qP c.aw c.at_⟩):=by
  simp[xX];omega
 rw[lP]at hn;clear lP;have ik:∀k:Nat,k<c.s.length→∃z,c.s[k]? =some z∧qg c.s (k:Int)=z∧0≤z∧z<S.ae:=λk hk=>⟨c.s[k],iW hk,GV hk,C.s _ (List.getElem_mem hk)⟩
 by_cases s0:c.state=0
 ·rw[iJ s0]at hn;obtain⟨z,hz,Cw,z0,z1⟩:=ik _ (O.hY hp omQ);rw[Cw]at hn;cases hn;rw[VV MO z0 z1]at hk ⊢;have et:qn c ⟨0,qP E.M.l z,false,0⟩=if(qP E.M.l z).2.1=true then zx c (qP E.M.l z)else{ c with lk:=qP E.M.l z,state:=1 }:=by
   rw[jj hp rfl,iJ (.inl s0)];unfold yH;grind
  dsimp only at hk ⊢;rw[et]at hk ⊢;by_cases hh:(qP E.M.l z).2.1=true
  ·rw[iJ hh]at hk ⊢;exact jX4 I A h6 hC omQ hM hk
  ·rw[iQ hh]at hk ⊢;exact NG I A h6 hC omQ hM hk rfl rfl rfl rfl rfl (A.wf (by grind[bR])) (by nofun) (λh _=>absurd h (by simp)) (λh=>(by grind)) (λ_=>J.a0 omQ) (.inl hp) (λh=>absurd h (by simp)) (λh=>by grind)
 rw[iQ s0]at hn;by_cases s1:c.state=1
 ·rw[iJ s1]at hn;obtain⟨z,hz,Cw,z0,z1⟩:=ik _ (O.hY hp omQ);obtain⟨l1,l2⟩:=C.s1 s1;have hl:=MO.l;rw[Cw]at hn;cases hn;have hx:vn (c.lk.1,true,c.me):=by rw[J4,C.me];omega
  by_cases he:qP E.M.l z=c.lk
  ·have e:qF E.M ⟨4,z,0,0,c.lk,(c.lk.1,true,c.me)⟩=(⟨0,bK,true,0⟩,{ E.M with l:=E.M.l.set z.toNat (c.lk.1,true,(i:Int)),aT:=E.M.aT+1 }):=by
    rw[← C.me];refine J3 (M:=E.M) (N:={ E.M with l:=E.M.l.set z.toNat (c.lk.1,true,c.me) }) (.inr (.inl rfl)) ?_ rfl;simp_all[Xi,iQ]
   rw[e]at hk ⊢;have et:qn c ⟨0,bK,true,0⟩=ju { c with aw:=c.aw++[c.lk] }:=by rw[jj hp rfl,iJ (.inr s1)];unfold yH;grind
   dsimp only at hk ⊢;rw[et]at hk ⊢;have Ej:(ju { c with aw:=c.aw++[c.lk] }).state=0∨(ju { c with aw:=c.aw++[c.lk] }).state=2:=by
    unfold ju;grind
   have hdI:G7 S E.M.n (ju { c with aw:=c.aw++[c.lk] }) i:=⟨hk.mf hp,hp,CI.lX,CI.un,CI.ne,λh=>by omega⟩;obtain⟨r1,r2⟩:=I.take hC s1 hi hz he hdI (k:=E.M.aT+1);have q1:(ju { c with aw:=c.aw++[c.lk] }).p.fin=0:=hp;have q2:(ju { c with aw:=c.aw++[c.lk] }).seen=c.seen:=rfl;have q3:(ju { c with aw:=c.aw++[c.lk] }).cells=c.cells:=rfl;have q4:(ju { c with aw:=c.aw++[c.lk] }).ad=c.ad:=rfl;have q5:(ju { c with aw:=c.aw++[c.lk] }).writing=c.writing:=rfl;have q6:(ju { c with aw:=c.aw++[c.lk] }).at_=c.at_:=rfl;generalize ju { c with aw:=c.aw++[c.lk] }=d at*;have fI:¬bR c:=by grind[bR]
   have ue:¬bR d:=by grind[bR]
   have wf:=q5.trans (A.wf fI);rw[Yn h6 q1,iQ (by grind)];have ea:vY { x with c:=some d }=some d:=iJ h6;refine⟨E.G,by grind,by grind,?_,λ_=>.inl rfl,DA (Y3 (e:=d) (by grind) rfl wf omQ)⟩;rw[ea];have V':=(A.lv fI).later r2 I.env t;exact xx.Bb (z:=x.ad) A.l0 h6 hk q1 t (λ_=>⟨V'.ok,V'.rt,V'.kr⟩) ⟨by rw[q2];exact J.seen,by rw[q3];exact J.cells,λ_=>by rw[q4];exact J.ad omQ,⟨λh=>(by grind),λh=>absurd h ue⟩,λ_=>by rw[q6];exact J.a0 omQ,λh=>omQ,λh=>absurd h ue,λh=>omQ,λh=>by omega⟩
  ·have e:qF E.M ⟨4,z,0,0,c.lk,(c.lk.1,true,c.me)⟩=(dM,{ E.M with aT:=E.M.aT+1 }):=by
    refine J3 (M:=E.M) (N:=E.M) (.inr (.inl rfl)) ?_ rfl;simp_all[Xi,iQ]
   rw[e]at hk ⊢;have et:qn c dM={ c with state:=0 }:=by rw[jj hp rfl,iJ (.inr s1)];unfold yH;rw[iQ (λh=>s0 h.1),iQ s0,iQ (by nofun)]
   dsimp only at hk ⊢;rw[et]at hk ⊢;exact NG I A h6 hC omQ hM hk rfl rfl rfl rfl rfl (A.wf (by grind[bR])) (by nofun) (λh _=>absurd h (by simp)) (λh=>(by grind)) (λ_=>J.a0 omQ) (.inl hp) (λh=>absurd h (by simp)) (λh=>by grind)
 rw[iQ s1]at hn;by_cases s2:c.state=2
 ·rw[iJ s2]at hn;cases hn;have e:qF E.M (bz 6 0 0)=(⟨E.M.n,bK,false,0⟩,{ E.M with aT:=E.M.aT+1 }):=kt (.inl rfl) rfl rfl;rw[e]at hk ⊢;have et:qn c ⟨E.M.n,bK,false,0⟩=if 4611686018427387903≤E.M.n then jN c 4 7 (-1)else{ c with now:=E.M.n,state:=3 }:=by
   rw[jj hp rfl,iQ omQ,iJ (.inl s2)];simp_all[xe]
  dsimp only at hk ⊢;rw[et]at hk ⊢;by_cases hc:4611686018427387903≤E.M.n
  ·rw[iJ hc]at hk ⊢;exact LR I A h6 hC omQ hM ⟨rfl,rfl,rfl,rfl,rfl,rfl,hp⟩ (.inl rfl) hk
  ·rw[iQ hc]at hk ⊢;exact NG I A h6 hC omQ hM hk rfl rfl rfl rfl rfl (A.wf (by grind[bR])) (by nofun) (λ_ _=>⟨I.st,λw hw=>(C.aw w hw).2⟩) (λh=>(by grind)) (λ_=>J.a0 omQ) (.inl hp) (λ_ _=>t.2) (λh=>by grind)
 rw[iQ s2]at hn;by_cases s3:c.state=3
 ·rw[iJ s3]at hn;cases hn;have ma:=C.s3 s3;have lW:0≤c.now:=by have:=O.ar;grind[zF]
  have rU:=CI.now omQ omQ;have fI:¬bR c:=by grind[bR]
  by_cases hq:E.M.n=c.now
  ·have e:qF E.M ⟨7,0,c.now,c.now+1,bK,bK⟩=(⟨0,bK,true,0⟩,{ E.M with n:=c.now+1,aT:=E.M.aT+1 }):=by
    refine kt (M:=E.M) (N:={ E.M with n:=c.now+1 }) (.inr rfl) ?_ rfl;unfold JZ;grind
   rw[e]at hk ⊢;have et:qn c ⟨0,bK,true,0⟩=if c.now=c.ad then zj c else xF c:=by rw[jj hp rfl,iQ omQ,iJ (.inr s3)];simp_all[xe]
   dsimp only at hk ⊢;rw[et]at hk ⊢;have n4:({ c with state:=4 }:q9).state=4:=rfl;have W:Dw S (c.now+1) { c with state:=4 }:=⟨CI.lk.cZ,CI.lk.s,CI.lk.cells,λh=>(by grind),λh=>(by grind),λ_ _=>Int.le_refl _,λ_ _=>CI.lk.full omQ omQ,λh=>absurd h (by simp)⟩;obtain⟨r1,r2⟩:=I.raise hC s3 hq (k:=E.M.aT+1) ⟨W,hp,CI.lX,CI.un,CI.ne,λ_ _=>rU⟩;have ue:¬bR ({ c with state:=4 }:q9):=by nofun
   refine dH.after I.env (λe he=>by grind) r2 ?_;have h0:=J.a0 omQ;have A1:Uu S w0 ⟨{ E.M with n:=c.now+1,aT:=E.M.aT+1 },E.G,cP E.C i (some { c with state:=4 })⟩ i x { c with state:=4 } :=
    ⟨A.l0,⟨t.1,by grind⟩,λ_=>(A.lv fI).later r2 I.env t,⟨J.seen,J.cells,λ_=>J.ad omQ,⟨λh=>absurd (show c.writing=true from h) (by rw[A.wf fI];simp),λh=>absurd h ue⟩,λh=>absurd h (by simp),λ_ k y h=>absurd h (by grind),λh=>absurd h ue,λ_ _=>J.sn omQ omQ,λh=>by grind⟩⟩
   by_cases hs:c.now=c.ad
   ·rw[iJ hs]at hk ⊢;have Wg:=(A1.lv ue).rt;exact qve (c:={ c with state:=4 }) r1 A1 h6 J1 rfl hk (Wg.at_ (hs.trans (J.ad omQ)))
   ·rw[iQ hs]at hk ⊢;have e0:({ c with state:=4,at_:=0 }:q9)={ c with state:=4 }:=congrArg (λz=>({ c with state:=4,at_:=z }:q9)) h0.symm;have ep:xF c=xF { ({ c with state:=4 }:q9)with at_:=0 }:=by
     unfold xF;grind
    rw[ep]at hk ⊢;exact jX1 (c:={ c with state:=4 }) r1 A1 h6 J1 rfl (Int.le_refl _) (λk y h=>by omega) hk
  ·have e:qF E.M ⟨7,0,c.now,c.now+1,bK,bK⟩=(dM,{ E.M with aT:=E.M.aT+1 }):=by
    refine kt (M:=E.M) (N:=E.M) (.inr rfl) ?_ rfl;unfold JZ;grind
   rw[e]at hk ⊢;have et:qn c dM={ c with state:=2 }:=by rw[jj hp rfl,iQ omQ,iJ (.inr s3)];unfold xe;rw[iQ (λh=>s2 h.1),iQ s2,iJ (by rfl)]
   dsimp only at hk ⊢;rw[et]at hk ⊢;exact NG I A h6 hC omQ hM hk rfl rfl rfl rfl rfl (A.wf fI) (by nofun) (λh _=>absurd h (by simp)) (λh=>(by grind)) (λ_=>J.a0 omQ) (.inl hp) (λh=>absurd h (by simp)) (λh=>by grind)
 rw[iQ s3]at hn;by_cases s4:c.state=4
 ·rw[iJ s4]at hn;cases hn;have dJ:=O.A3 hp s4;have dI:=O.lo;have fI:¬bR c:=by grind[bR]
  obtain⟨k,ig⟩:∃k:Nat,c.at_=k:=⟨c.at_.toNat,by omega⟩;have l7:k<x.r.length:=by rw[J.seen]at dJ;omega
  have Dz:jZ c.seen c.at_=x.r[k]:=by unfold jZ;rw[J.seen,ig,Int.toNat_natCast,iW l7];rfl
  have Hc:=List.getElem_mem l7;have hr:=A.l0.r _ Hc;rw[Dz]at hk ⊢;rw[VV MO hr.1 hr.2]at hk ⊢;have et:qn c ⟨0,qP E.M.l (x.r[k]).1,false,0⟩=xI c (qP E.M.l (x.r[k]).1):=by rw[jj hp rfl,iQ omQ,iQ omQ,iJ s4]
  dsimp only at hk ⊢;rw[et]at hk ⊢;unfold xI at hk ⊢;by_cases hh:(qP E.M.l (x.r[k]).1).2.1=true
  ·rw[iJ hh]at hk ⊢;exact jX4 I A h6 hC omQ hM hk
  rw[iQ hh,Dz]at hk ⊢;by_cases hv:(qP E.M.l (x.r[k]).1).1=(x.r[k]).2
  ·rw[iQ (λh=>h hv)]at hk ⊢;have rU:=CI.now omQ omQ;have oD:=CI.lk.s4 omQ omQ;refine dH.aT I hM ?_;have I':=I.same hM;have A':=A.later (wR hM) I.env λ_ _=>⟨rU.1,oD⟩;have o1:=(A.lv fI).ok _ Hc;have hsn:=J.sn omQ omQ;refine jX1 I' A' h6 hC s4 omQ (λq y h1 h2=>?_) hk;by_cases hq:q=k
   ·subst hq;rw[iW l7]at h2;cases h2;have:=I'.free hr.1 hr.2 (by grind) (T:=c.now) (by show(qP E.M.l (x.r[q]).1).1≤c.now;rw[hv];have:=o1.le;omega) (by grind)
    grind
   ·exact A'.J.pr s4 q y omQ h2
  ·rw[iJ hv]at hk ⊢;exact LR I A h6 hC omQ hM ⟨rfl,rfl,rfl,rfl,rfl,rfl,hp⟩ (.inr rfl) hk
 rw[iQ s4]at hn;by_cases s5:c.state=5
 ·rw[iJ s5]at hn;cases hn;have dJ:=O.FH hp s5;have dI:=O.lo;have hw:=MO.w;obtain⟨k,ig⟩:∃k:Nat,c.at_=k:=⟨c.at_.toNat,by omega⟩;have l7:k<c.cells.length:=by omega
  have Py:yF c.cells c.at_=c.cells[k]:=by simp_all[yF,Int.toNat_natCast]
  have hq:c.cells[k]? =some (c.cells[k]):=iW l7;have hz:=C.cells _ (List.getElem_mem l7);rw[Py]at hk ⊢;generalize c.cells[k]=q at*;have e:qF E.M (bz 2 q.1 q.2)=(dM,{ E.M with w:=E.M.w.set q.1.toNat q.2,aT:=E.M.aT+1 }):=by refine V8 (M:=E.M) (N:={ E.M with w:=E.M.w.set q.1.toNat q.2 }) (.inr rfl) ?_ rfl;unfold Kk;rw[iQ (by show¬(q.1<1∨(E.M.w.length:Int)≤q.1);omega),iQ (by nofun)];rfl
  rw[e]at hk ⊢;have et:qn c dM=jo { c with at_:=c.at_+1 }:=by rw[jj hp rfl,iQ omQ,iQ omQ,iQ omQ,iJ s5]
  dsimp only at hk ⊢;rw[et]at hk ⊢;have hs0:0<c.s.length:=by have:=O.ar;grind[zF]
  have rU:=CI.now omQ omQ;unfold jo at hk ⊢;by_cases hl:c.at_+1=(c.cells.length:Int)
  ·rw[iJ hl]at hk ⊢;unfold zg at hk ⊢;rw[iQ (by grind)]at hk ⊢;exact Wi I A h6 hC (.inl s5) (I.store hC s5 ig hq ⟨hk.mf hp,hp,CI.lX,CI.un,CI.ne,λ_ _=>rU⟩ rfl rfl rfl rfl (.inr ⟨rfl,rfl,by omega⟩)) hk hp (.inr rfl) rfl rfl rfl rfl
  ·rw[iQ hl]at hk ⊢;exact Wi I A h6 hC (.inl s5) (I.store hC s5 ig hq ⟨hk.mf hp,hp,CI.lX,CI.un,CI.ne,λ_ _=>rU⟩ rfl rfl rfl rfl (.inl ⟨s5,by grind⟩)) hk hp (.inl s5) rfl rfl rfl rfl
 rw[iQ s5]at hn;by_cases s6:c.state=6
 ·rw[iJ s6]at hn;cases hn;have dJ:=O.FI hp s6;have dI:=O.lo;obtain⟨k,ig⟩:∃k:Nat,c.at_=k:=⟨c.at_.toNat,by omega⟩;obtain⟨z,hz,Cw,z0,z1⟩:=ik k omQ;have rU:=CI.now omQ omQ;have oD:=CI.lk.s4 omQ omQ;have ma:0≤c.now:=by have:=O.ar;grind[zF]
  have oX:=CI.full omQ omQ;have hx:vn (c.now+1,false,0):=by grind[Yh]
  rw[ig,Cw]at hk ⊢;rw[Oi MO z0 z1 hx]at hk ⊢;have et:qn c dM=zg { c with at_:=c.at_+1 }:=by rw[jj hp rfl,iQ omQ,iQ omQ,iQ omQ,iQ omQ,iJ s6]
  dsimp only at hk ⊢;rw[et]at hk ⊢;have nh:k<c.aw.length:=by omega
  have He:=I.hold i c hC k z _ hz (iW nh) λ_=>by omega
  have eY:(qP E.M.l z).1<c.now+1:=by grind
  have LG:=λo:Option q9=>I.nZ (o:=o) hC (.inl s6) ig hz (x:=(c.now+1,false,0)) rfl hx oD (Int.le_of_lt eY) (λ_=>eY) (I.Ad hC s6 ig hz nh) (k:=E.M.aT+1);unfold zg at hk ⊢;by_cases hl:c.at_+1=(c.s.length:Int)
  ·rw[iJ hl]at hk ⊢;obtain⟨r1,r2⟩:=LG none (λd h=>by grind) (λ_=>by omega);have wr:bR c:=.inr s6;have dZ:=J.wg.2 wr;rw[Xb (x:=x) (d:={ ({ c with at_:=c.at_+1 }:q9)with p:=zW c.p 2 0 (-1) }) h6 rfl dZ];have ea:∀y:qf,y.state=7→vY y=none:=λy h=>iQ omQ;refine⟨E.G,by trivial,by trivial,?_,λ_=>.inl rfl,λ_=>.inl ⟨c,hC,wr⟩⟩;rw[ea _ rfl];obtain⟨j1,j2⟩:=J.wr wr;have hce:jk x.v.lv=c.cells:=J.cells.symm;refine⟨⟨⟨A.l0.me,A.l0.set,A.l0.r,A.l0.inv⟩,λh=>(by cases h),λh=>by cases h⟩,λh=>absurd h (by nofun),λ_=>⟨by grind,oD⟩,λ_ h=>absurd h (by nofun),λh=>(by cases h),λh=>(by rcases h with h |h<;>cases h),λh=>(by cases h),λ_=>⟨λh=>absurd ⟨rfl,?_⟩ h,λ_=>⟨?_,by grind,?_⟩⟩⟩
   ·show RT S w0 _ (c.now+1-1) x.v.K;rw[show c.now+1-1=c.now by omega];exact j2.later r2 I.env rU.1 omQ
   ·show E.G (c.now+1-S.start).toNat=jk x.v.lv;rw[hce];exact I.rT i c hC wr
   ·show jk x.v.lv≠[];rw[hce];exact CI.ne
  ·rw[iQ hl]at hk ⊢;exact Wi I A h6 hC (.inr s6) (LG (some { c with at_:=c.at_+1 }) (λd h=>by cases h;exact⟨⟨hk.mf hp,hp,CI.lX,CI.un,CI.ne,λ_ _=>rU⟩,rfl,rfl,rfl,rfl,rfl,by grind⟩) (λh=>by grind)) hk hp (.inr s6) rfl rfl rfl rfl
 rw[iQ s6]at hn;have s7:c.state=7:=by omega
 cases hn;have dJ:=O.Dn hp s7;have dI:=O.lo;have fI:¬bR c:=by grind[bR]
 obtain⟨k,ig⟩:∃k:Nat,c.at_=k:=⟨c.at_.toNat,by omega⟩;have nh:k<c.aw.length:=by omega
 obtain⟨z,hz,Cw,z0,z1⟩:=ik k (by have:=O.aw;omega);have hw:=C.aw _ (List.getElem_mem nh);have ew:qP c.aw c.at_=c.aw[k]:=by simp_all[qP,Int.toNat_natCast]
 have hx:vn c.aw[k]:=by
  unfold vn;grind
 have He:=I.hold i c hC k z _ hz (iW nh) λ_=>by omega
 rw[ew,ig,Cw]at hk ⊢;rw[Oi MO z0 z1 hx]at hk ⊢;have et:qn c dM=zc { c with at_:=c.at_+1 }:=by rw[jj hp rfl,iQ omQ,iQ omQ,iQ omQ,iQ omQ,iQ omQ]
 dsimp only at hk ⊢;rw[et]at hk ⊢;have eY:(qP E.M.l z).1=(c.aw[k]).1:=by rw[He]
 have LG:=λo:Option q9=>I.nZ (o:=o) hC (.inr s7) ig hz (x:=c.aw[k]) hw.1 hx hw.2 (Int.le_of_eq eY) (λh=>absurd h fI) (I.tM hC s7 ig hz nh) (k:=E.M.aT+1);have V:=A.lv fI;have wf:=A.wf fI;unfold zc at hk ⊢;by_cases hl:c.at_+1=(c.aw.length:Int)
 ·rw[iJ hl]at hk ⊢;obtain⟨r1,r2⟩:=LG none (λd h=>by cases h) (λ_=>by omega);have hf:=J.f7 s7;have IP:(zW c.p c.bf c.fX c.iP).fin=4∨(zW c.p c.bf c.fX c.iP).fin=5:=hf;obtain⟨e,z',ey⟩:=Ur (x:=x) (d:={ ({ c with at_:=c.at_+1 }:q9)with p:=zW c.p c.bf c.fX c.iP }) h6 IP wf;rw[ey];have ea:∀y:qf,y.state=7→vY y=none:=λy h=>iQ omQ;refine⟨E.G,by rw[ea _ rfl];exact r1,by rw[ea _ rfl];exact r2,?_,λ_=>.inl rfl,DA (Y3 (e:={ ({ c with at_:=c.at_+1 }:q9)with p:=zW c.p c.bf c.fX c.iP }) (by show¬(7:Int)=8;decide) rfl wf (λh2=>by have h2:c.bf=2:=h2;omega))⟩;rw[ea _ rfl];have V':=V.later r2 I.env t;refine YG.out (x:={ x with c:=some { ({ c with at_:=c.at_+1 }:q9)with p:=zW c.p c.bf c.fX c.iP } }) ⟨⟨A.l0.me,A.l0.set,A.l0.r,A.l0.inv⟩,?_,⟨V'.ok,V'.rt,V'.kr⟩⟩ (.inl (λh2=>by have h2:c.bf=2:=h2;omega));exact t
 ·rw[iQ hl]at hk ⊢;obtain⟨r1,r2⟩:=LG (some { c with at_:=c.at_+1 }) (λd h=>by cases h;exact⟨⟨hk.mf hp,hp,CI.lX,CI.un,CI.ne,λ_ h=>by have h:c.state≤6:=h;omega⟩,rfl,rfl,rfl,rfl,rfl,by show c.at_+1=_;omega⟩) (λh=>by cases h);have q1:({ c with at_:=c.at_+1 }:q9).p.fin=0:=hp;rw[Yn h6 q1,iQ (by show¬c.writing=true;rw[wf];decide)];have ea:vY { x with c:=some { c with at_:=c.at_+1 } }=some { c with at_:=c.at_+1 }:=iJ h6;refine⟨E.G,by rw[ea];exact r1,by rw[ea];exact r2,?_,λ_=>.inl rfl,DA (Y3 (e:={ c with at_:=c.at_+1 }) (by show¬x.state=8;omega) rfl wf omQ)⟩;rw[ea];have V':=V.later r2 I.env t;have e7:({ c with at_:=c.at_+1 }:q9).state=7:=s7;have ue:¬bR ({ c with at_:=c.at_+1 }:q9):=fI;exact xx.Bb (z:=x.ad) A.l0 h6 hk q1 t (λ_=>⟨V'.ok,V'.rt,V'.kr⟩) ⟨J.seen,J.cells,λh=>omQ,⟨λh=>absurd (show c.writing=true from h) (by rw[wf];decide),λh=>absurd h ue⟩,λh=>omQ,λh=>omQ,λh=>absurd h ue,λ_ h=>omQ,λ_=>J.f7 s7⟩
end
section
variable {S:jz} {w0:List Int} {E F:Env} {i:Nat} {x y:qf} {c d:q9} {M:jX}
theorem qwA {V:VM} (O:dT V):l6 (jk V.lv):=by
 have key:∀(l:List bM) (a:List Cl),l6 a→(∀x∈l,l6 x.1)→l6 (l.foldl (λout x=>vN x.1 out) a):=by
  intro l
  induction l with
  |nil=>exact λa h _=>h
  |cons x l ih=>exact λa h hl=>ih _ (l6.oR (hl x (iK ..))) λy hy=>hl y (iX _ hy)
 exact key _ _ (show([]:List Int).Nodup from List.nodup_nil) O.lm.un
def Hf (y:qf):Prop:=y.state=6→jk y.v.lv≠[]∧∃me sp st r,y.c=some (Jv me sp st r (jk y.v.lv) y.set.ae y.set.wide)
theorem vD (h:y.state≠6):Hf y:=λh'=>absurd h' h
theorem qZE {k e:Int}:Hf (yX x k e):=by
 unfold yX
 split
 ·exact vD (by show¬(3:Int)=6;decide)
 ·split
  ·exact vD (by show¬(5:Int)=6;decide)
  ·split
   ·exact vD (by show¬(7:Int)=6;decide)
   ·split
    ·exact vD (by show¬(7:Int)=6;decide)
    ·rename_i bJ;exact λ_=>⟨bJ,_,_,_,_,rfl⟩
theorem VG (h:Hf y):Hf (jV y):=by
 unfold jV
 split
 ·split
  ·exact h
  ·exact h
 ·exact h
theorem qvF {a:cE} (h6:x.state≠6):Hf (qL x a):=by
 unfold qL
 split
 ·exact vD h6
 split
 ·exact vD (by show¬(8:Int)=6;decide)
 split
 ·exact vD (by show¬(1:Int)=6;decide)
 split
 ·exact vD (by show¬(2:Int)=6;decide)
 split
 ·exact qZE
 split
 ·exact vD (by show¬(8:Int)=6;decide)
 split
 ·rename_i h3;unfold q8;refine VG ?_
  split
  ·exact vD (by show¬x.state=6;exact h6)
  ·split
   ·exact vD (by show¬(7:Int)=6;decide)
   ·unfold jr;rw[iJ (by show x.state=3;exact h3)];unfold jt
    split
    ·exact vD (by show¬(4:Int)=6;decide)
    ·split
     ·exact qZE
     ·split
      ·exact vD (by show¬(7:Int)=6;decide)
      ·exact vD (by show¬(7:Int)=6;decide)
 ·rename_i h3;unfold q8;refine VG ?_
  split
  ·exact vD (by show¬x.state=6;exact h6)
  ·split
   ·exact vD (by show¬(7:Int)=6;decide)
   ·unfold jr;rw[iQ (by show¬x.state=3;exact h3)]
    split
    ·exact vD (by show¬(3:Int)=6;decide)
    ·split
     ·exact vD (by show¬(7:Int)=6;decide)
     ·split
      ·exact vD (by show¬(7:Int)=6;decide)
      ·exact vD (by show¬x.state=6;exact h6)
theorem qZp {y:qf} (h:(if(zN x).1=0 then x else if(zN x).1=5 then zT x 5 0 (zN x).2 else jr x)=y) (hy:ql y=false):ql (q8 x)=false:=by unfold q8;rw[h,Jk hy];exact hy
theorem qgA {a:cE} (O:zG x) (h6:x.state≠6):ql (qL x a)=false:=by
 have cd:=O.st;have at8:∀y:qf,y.state=8→ql y=false:=λy h=>by
  unfold ql;rw[iV (by omega:¬y.state≠8)];rfl
 unfold qL
 split
 ·exact at8 _ ‹_›
 split
 ·exact at8 _ rfl
 split
 ·exact zZ (x:={ x with state:=1 }) (O.c0 omQ)
 split
 ·exact zZ (x:={ x with begun:=true,bB:=a.word,ad:=a.word,state:=2 }) (O.c0 omQ)
 split
 ·exact UG (O.c0 omQ)
 split
 ·exact at8 _ rfl
 have hc:=O.c0 omQ
 split
 ·rename_i h3;refine qZp rfl ?_
  split
  ·exact zZ hc
  split
  ·exact zZ hc
  unfold jr;rw[iJ (by show x.state=3;exact h3)];unfold jt
  split
  ·exact zZ hc
  split
  ·exact UG hc
  split
  ·exact zZ hc
  ·exact zZ hc
 ·rename_i h3;refine qZp rfl ?_
  split
  ·exact zZ hc
  split
  ·exact zZ hc
  unfold jr;rw[iQ (by show¬x.state=3;exact h3)]
  split
  ·exact zZ hc
  split
  ·exact zZ hc
  ·split
   ·exact zZ hc
   ·exact zZ hc
theorem Qh {p k:Int} (h0:0≤p) (h1:p<M.s.length):qF M (bz 9 p k)=(dM,{ M with s:=M.s.set p.toNat k,aT:=M.aT+1 }):=by
 have e':yR M (bz 9 p k)=(dM,{ M with s:=M.s.set p.toNat k }):=by unfold yR;rw[iQ (by show¬((9:Int)=1∨(9:Int)=2);decide),iQ (by show¬((9:Int)=3∨(9:Int)=4∨(9:Int)=5);decide),iQ (by show¬((9:Int)=6∨(9:Int)=7);decide),iJ (.inr rfl)];unfold VO;rw[iQ (by show¬(p<0∨(M.s.length:Int)≤p);omega),iQ (by show¬(9:Int)=8;decide)];rfl
 rw[ve,e'];exact iJ rfl
theorem qkS {p:Int} (h0:1≤p) (h1:p<M.w.length):qF M (bz 1 p 0)=(⟨qg M.w p,bK,false,0⟩,{ M with aT:=M.aT+1 }):=by refine V8 (M:=M) (N:=M) (.inl rfl) ?_ rfl;unfold Kk;rw[iQ (by show¬(p<1∨(M.w.length:Int)≤p);omega)];rfl
theorem LS:qF M (bz 6 0 0)=(⟨M.n,bK,false,0⟩,{ M with aT:=M.aT+1 }):=kt (.inl rfl) rfl rfl
structure Ag (S:jz) (M:jX) (x:qf) (r:cE×jX):Prop where
  err:r.1.err=0
  same:r.2.w=M.w∧r.2.l=M.l∧r.2.n=M.n
  h1:x.state=1→r.1.word=M.n
  hw:x.state=3→x.f.state=1→r.1.word=qg M.w x.v.aC
  hk:x.state=3→x.f.state≠1→r.1.lk=qP M.l x.f.aB
  dV:x.state=4∨x.state=5→x.e.aR=false→r.1.word=M.n
  lQ:x.state=4∨x.state=5→x.e.aR=true→r.1.lk=qP M.l (jZ x.e.seen x.e.at_).1
theorem xx.LL (I:zt S w0 E) (A:xx S w0 E i x) (O:zG x) (hs:(i:Int)<E.M.s.length) (h6:x.state≠6) {o:dG} (hn:jd x=some o):Ag S E.M x (qF E.M o):=by
 have cd:=O.st;have mc:x.me=(i:Int):=A.lk.me;have slot:∀k:Int,x.state≠1→x.state≠3→x.state≠4→x.state≠5→Ag S E.M x (qF E.M (bz 9 x.me k)):=λk a1 a3 a4 a5=>by
  rw[Qh omQ omQ];exact⟨rfl,⟨rfl,rfl,rfl⟩,λh=>absurd h a1,λh=>absurd h a3,λh=>absurd h a3,λh=>absurd h omQ,λh=>absurd h omQ⟩
 unfold jd at hn;by_cases s0:x.state=0
 ·rw[iJ s0]at hn;cases hn;exact slot _ omQ omQ omQ omQ
 rw[iQ s0]at hn;by_cases s1:x.state=1
 ·rw[iJ s1]at hn;cases hn;rw[LS];exact⟨rfl,⟨rfl,rfl,rfl⟩,λ_=>rfl,λh=>omQ,λh=>omQ,λh=>omQ,λh=>by omega⟩
 rw[iQ s1]at hn;by_cases s2:x.state=2
 ·rw[iJ s2]at hn;cases hn;exact slot _ omQ omQ omQ omQ
 rw[iQ s2]at hn;by_cases s7:x.state=7
 ·rw[iJ s7]at hn;cases hn;exact slot _ omQ omQ omQ omQ
 rw[iQ s7]at hn;by_cases s8:x.state=8
 ·rw[iJ s8]at hn;cases hn
 rw[iQ s8]at hn;by_cases s3:x.state=3
 ·rw[iJ s3]at hn;obtain⟨hr,hf⟩:=A.lk.f s3;have V:=A.f s3;have lR:=O.aC omQ omQ;have bP:(x.v.sz:Int)=S.words:=by rw[O.sz,A.lk.set]
  have oX:=I.ml.w;unfold kl at hn;rw[iQ (λh=>h hf)]at hn;by_cases f1:x.f.state=1
  ·rw[iJ f1,V.at_]at hn;cases hn;rw[qkS lR.1 omQ];exact⟨rfl,⟨rfl,rfl,rfl⟩,λh=>omQ,λ_ _=>rfl,λ_ h=>absurd f1 h,λh=>omQ,λh=>by omega⟩
  ·rw[iQ f1]at hn;cases hn;rw[VV I.ml hr.1 hr.2];exact⟨rfl,⟨rfl,rfl,rfl⟩,λh=>omQ,λ_ h=>absurd h f1,λ_ _=>rfl,λh=>omQ,λh=>by omega⟩
 rw[iQ s3,iQ h6]at hn;have pG:x.state=4∨x.state=5:=by omega
 have V:=A.e pG;have EO:=O.e omQ omQ;unfold ko at hn;rw[iQ (λh=>h V.fin)]at hn;cases hl:x.e.aR with
 |false=>rw[iJ hl]at hn;cases hn;rw[LS];exact⟨rfl,⟨rfl,rfl,rfl⟩,λh=>omQ,λh=>omQ,λh=>omQ,λ_ _=>rfl,λ_ h=>by rw[hl]at h;cases h⟩
 |true=>
  rw[iQ (by rw[hl];decide)]at hn;cases hn;have ax:=EO.lX V.fin hl;have Ly:=V.a0;have l7:x.e.at_.toNat<x.r.length:=by rw[V.seen]at ax;omega
  have Dz:jZ x.e.seen x.e.at_=x.r[x.e.at_.toNat]:=by unfold jZ;rw[V.seen,iW l7];rfl
  have hr:=A.lk.r _ (List.getElem_mem l7);rw[← Dz]at hr;rw[VV I.ml hr.1 hr.2];exact⟨rfl,⟨rfl,rfl,rfl⟩,λh=>omQ,λh=>omQ,λh=>omQ,λ_ h=>(by rw[hl]at h;cases h),λ_ _=>rfl⟩
theorem xx.step (SO:xZ S) (I:zt S w0 E) (A:xx S w0 E i x) (O:zG x) (hi:i<4) (hs:(i:Int)<E.M.s.length) (hC:E.C i=vY x) {o:dG} (hn:jd x=some o) (ha:vB (qF E.M o).1) :
  dH S w0 E i (qF E.M o).2 (qL x (qF E.M o).1):=by
 have cd:=O.st;by_cases h6:x.state=6
 ·obtain⟨c,hc⟩:∃c,x.c=some c:=by
   cases h:x.c with
   |none=>exact absurd h (O.c6 h6)
   |some c=>exact⟨c,rfl⟩
  obtain⟨CL,hf⟩:=A.lk.c h6 c hc;obtain⟨o',bQ,K⟩:=Uf I.ml CL omQ hf;have:o'=o:=by unfold jd at hn;rw[iQ omQ,iQ omQ,iQ omQ,iQ omQ,iQ omQ,iQ omQ,iJ h6,hc]at hn;have hn:xX c=some o:=hn;rw[bQ]at hn;cases hn;rfl
  subst this;have et:qL x (qF E.M o').1=q8 { x with c:=some (qn c (qF E.M o').1) }:=by unfold qL;rw[iQ omQ,iQ (λh=>h K.err),iQ omQ,iQ omQ,iQ omQ,iQ omQ,iQ omQ,iJ h6,hc];rfl
  rw[et];have rV:E.C i=some c:=by rw[hC];unfold vY;rw[iJ h6,hc]
  exact A.Wk I h6 hi hc rV bQ
 ·have K:=A.LL I O hs h6 hn;have N:=qvF (a:=(qF E.M o).1) h6;have NW:=qgA (a:=(qF E.M o).1) O h6;have O':=XN O ha;generalize qF E.M o=r at*;have hM:=K.same;have I':=I.same hM;have A':=A.later (wR hM) I.env λc h=>absurd h h6;have B:=A'.Cv SO I' O h6 K.err ha (λh=>by rw[K.h1 h];exact hM.2.2.symm) (λh h'=>by rw[K.hw h h'];show _=qg r.2.w _;rw[hM.1]) (λh h'=>by rw[K.hk h h'];show _=qP r.2.l _;rw[hM.2.1]) (λh h'=>by rw[K.dV h h'];exact hM.2.2.symm) (λh h'=>by rw[K.lQ h h'];show _=qP r.2.l _;rw[hM.2.1]);generalize qL x r.1=y at*;have hCn:E.C i=none:=by
   rw[hC];exact iQ h6
  have fresh:∀d,y.state=6→y.c=some d→(d.state=0∨d.state=2)∧d.aw=[]∧d.cells=jk y.v.lv∧d.s=xJ (jk y.v.lv) S.ae S.wide∧jk y.v.lv≠[]:=λd h hd=>by
   obtain⟨bJ,me,sp,st,q,e⟩:=N h;rw[hd]at e;cases e;refine⟨?_,rfl,rfl,by show xJ _ y.set.ae y.set.wide=_;rw[B.lk.set],bJ⟩;unfold Jv ju;dsimp only
   split
   ·exact .inr rfl
   ·exact .inl rfl
  obtain⟨r1,r2⟩:=I'.swap (i:=i) (λe he=>by have he:E.C i=some e:=he;rw[hCn]at he;cases he) (o:=vY y) λd hd=>by
   have DB:y.state=6:=by
    unfold vY at hd
    split at hd
    ·assumption
    ·cases hd
   have rR:y.c=some d:=by unfold vY at hd;rw[iJ DB]at hd;exact hd
   obtain⟨f1,f2,f3,f4,f5⟩:=fresh d DB rR;obtain⟨CL,hf⟩:=B.lk.c DB d rR;refine⟨⟨CL.mf hf,hf,λq hq=>?_,by rw[f3];exact qwA O'.aJ.ok,by rw[f3];exact f5,λh=>omQ⟩,λk z w _ h=>?_,by unfold bR;omega,λh=>by omega⟩
   ·rw[f4,← f3];exact(Ju (λq hq=>by have:=CL.cells q hq;omega)).2 (List.mem_map_of_mem hq)
   ·rw[f2]at h;cases h
  refine⟨E.G,r1,(wR hM).trans r2 I.env,B.later r2 I'.env λd h hd h4=>?_,λ_=>.inl rfl,DA NW⟩;have:=(fresh d h hd).1;omega
end
section
variable {S:jz} {w0:List Int} {E F:Env} {i:Nat} {x y:qf} {a:cE}
structure Ah (x y:qf):Prop where
  b:y.begun=x.begun
  t:y.bB=x.bB
  s:2≤y.state
def Bg (x:qf):Prop:=x.begun=true↔2≤x.state
theorem Ah.at_ {k:Int} (b:y.begun=x.begun) (t:y.bB=x.bB) (s:y.state=k) (h:2≤k):Ah x y:=⟨b,t,by omega⟩
theorem qY6 (x:qf) (k e:Int):Ah x (yX x k e):=by
 unfold yX
 repeat' split
 ·exact .at_ rfl rfl rfl (show(2:Int)≤3 by decide)
 ·exact .at_ rfl rfl rfl (show(2:Int)≤5 by decide)
 ·exact .at_ rfl rfl rfl (show(2:Int)≤7 by decide)
 ·exact .at_ rfl rfl rfl (show(2:Int)≤7 by decide)
 ·exact .at_ rfl rfl rfl (show(2:Int)≤6 by decide)
theorem ZQ (x:qf):Ah x (zn x):=by
 have h:(xK x).2.begun=x.begun∧(xK x).2.bB=x.bB:=by
  unfold xK
  split<;>exact⟨rfl,rfl⟩
 have b:=qY6 (xK x).2 (xK x).1.1 (xK x).1.2;exact⟨b.b.trans h.1,b.t.trans h.2,b.s⟩
theorem qQ1 (x:qf):Ah x (jt x):=by
 unfold jt
 split
 ·exact .at_ rfl rfl rfl (show(2:Int)≤4 by decide)
 ·split
  ·have b:=ZQ { x with r:=(gT x.r (yZ x.f)).2,v:=(xz x.v x.v.aC (xn x.f)).2 };exact⟨b.b,b.t,b.s⟩
  ·split
   ·exact .at_ rfl rfl rfl (show(2:Int)≤7 by decide)
   ·exact .at_ rfl rfl rfl (show(2:Int)≤7 by decide)
theorem U0 (h2:2≤x.state):Ah x (q8 x):=by
 have hs:∀y:qf,Ah x y→Ah x (jV y):=λy b=>by
  unfold jV
  repeat' split
  all_goals exact⟨b.b,b.t,b.s⟩
 unfold q8;refine hs _ ?_
 split
 ·exact⟨rfl,rfl,h2⟩
 ·split
  ·exact .at_ rfl rfl rfl (show(2:Int)≤7 by decide)
  ·unfold jr
   split
   ·exact qQ1 x
   ·split
    ·exact .at_ rfl rfl rfl (show(2:Int)≤3 by decide)
    ·split
     ·exact .at_ rfl rfl rfl (show(2:Int)≤7 by decide)
     ·split
      ·exact .at_ rfl rfl rfl (show(2:Int)≤7 by decide)
      ·exact⟨rfl,rfl,h2⟩
theorem Ui (h2:2≤x.state):Ah x (qL x a):=by
 unfold qL
 split
 ·exact⟨rfl,rfl,h2⟩
 split
 ·exact .at_ rfl rfl rfl (show(2:Int)≤8 by decide)
 rw[iQ omQ,iQ omQ]
 split
 ·exact ZQ x
 split
 ·exact .at_ rfl rfl rfl (show(2:Int)≤8 by decide)
 split
 ·have b:=U0 (x:={ x with f:=jP x.f a }) h2;exact⟨b.b,b.t,b.s⟩
 split
 ·have b:=U0 (x:={ x with c:=x.c.map λc=>qn c a }) h2;exact⟨b.b,b.t,b.s⟩
 ·have b:=U0 (x:={ x with e:=zw x.e a }) h2;exact⟨b.b,b.t,b.s⟩
theorem jQD (B:Bg x) (h0:0≤x.state) (ha:a.err=0):Bg (qL x a):=by
 unfold Bg at B ⊢;by_cases h2:2≤x.state
 ·have b:=Ui (a:=a) h2;rw[b.b];exact⟨λ_=>b.s,λ_=>B.2 h2⟩
 ·unfold qL;rw[iQ omQ,iQ (λh=>h ha)];by_cases s0:x.state=0
  ·rw[iJ s0];exact⟨λh=>absurd (B.1 h) h2,λh=>absurd h (by show¬(2:Int)≤1;decide)⟩
  ·rw[iQ s0,iJ omQ];exact⟨λ_=>Int.le_refl _,λ_=>rfl⟩
def Ai (x:qf):Prop:=x.state=7→(ql x=true↔Wc x)
def N7 (x:qf):Prop:=x.state=7→x.c=none∧(x.fin≠2∨jk x.v.lv=[])
theorem N7.w (h:N7 x):Ai x:=λh7=>by
 obtain⟨hc,hf⟩:=h h7;rw[zZ hc];exact⟨λh=>(by cases h),λh=>by rcases hf with hf |hf;exact absurd h.1 hf;exact absurd hf h.2⟩
theorem YT (h:x.state≠7):N7 x:=λh'=>absurd h' h
theorem U8 {f e z:Int} (hc:x.c=none) (h:f≠2):N7 (zT x f e z):=λ_=>⟨hc,.inl h⟩
theorem qy0 {k e:Int} (hc:x.c=none):N7 (yX x k e):=by
 unfold yX
 split
 ·exact YT (by show¬(3:Int)=7;decide)
 split
 ·exact YT (by show¬(5:Int)=7;decide)
 split
 ·exact U8 hc od
 split
 ·rename_i h;exact λ_=>⟨hc,.inr h⟩
 ·exact YT (by show¬(6:Int)=7;decide)
theorem qYe (hc:x.c=none):N7 (zn x):=qy0 ((jZn x).1.trans hc)
theorem Nl (h:N7 y):N7 (jV y):=by
 unfold jV
 split
 ·split
  ·exact h
  ·exact h
 ·exact h
theorem jJ6 (hc:x.c=none) (h5:x.state≤5) (h0:0≤x.state):N7 (qL x a):=by
 unfold qL;rw[iQ omQ]
 split
 ·exact YT (by show¬(8:Int)=7;decide)
 split
 ·exact YT (by show¬(1:Int)=7;decide)
 split
 ·exact YT (by show¬(2:Int)=7;decide)
 split
 ·exact qYe hc
 rw[iQ omQ]
 split
 ·rename_i h3;unfold q8;refine Nl ?_
  split
  ·exact YT (by show¬x.state=7;omega)
  split
  ·exact U8 hc od
  unfold jr;rw[iJ (by show x.state=3;exact h3)];unfold jt
  split
  ·exact YT (by show¬(4:Int)=7;decide)
  split
  ·exact qYe hc
  split
  ·exact U8 hc od
  ·exact U8 hc od
 ·rename_i h3;rw[iQ omQ];unfold q8;refine Nl ?_
  split
  ·exact YT (by show¬x.state=7;omega)
  split
  ·exact U8 hc od
  unfold jr;rw[iQ (by show¬x.state=3;exact h3)]
  split
  ·exact YT (by show¬(3:Int)=7;decide)
  split
  ·exact U8 hc od
  ·split
   ·rename_i c bH;have bH:x.c=some c:=bH;rw[hc]at bH;cases bH
   ·exact YT (by show¬x.state=7;omega)
theorem jQM (O:zG x) (bJ:x.state=6→jk x.v.lv≠[]) (ha:a.err=0):Ai (qL x a):=by
 have cd:=O.st;by_cases h5:x.state≤5
 ·exact(jJ6 (O.c0 h5) h5 cd.1).w
 by_cases h6:x.state=6
 ·obtain⟨c,hc⟩:∃c,x.c=some c:=by
   cases h:x.c with
   |none=>exact absurd h (O.c6 h6)
   |some c=>exact⟨c,rfl⟩
  have et:qL x a=q8 { x with c:=some (qn c a) }:=by unfold qL;rw[iQ omQ,iQ (λh=>h ha),iQ omQ,iQ omQ,iQ omQ,iQ omQ,iQ omQ,iJ h6,hc];rfl
  rw[et];generalize qn c a=d;have bJ:=bJ h6;have sw:∀y:qf,Ai y→Ai (jV y):=λy h=>by
   unfold jV
   split
   ·split
    ·exact h
    ·exact h
   ·exact h
  unfold q8;refine sw _ ?_;rw[Hd h6]
  split
  ·exact λh=>absurd h (by show¬x.state=7;omega)
  ·rename_i h0;have h0:¬d.p.fin=0:=h0;have key:∀f e z:Int,f=d.p.fin→Ai (zT { x with c:=some d } f e z):=λf e z hf _=>by
    rw[yW (e:=d) (by show¬(7:Int)=8;decide) rfl,iV h0,Bool.and_false,Bool.false_or,decide_eq_true_iff];exact⟨λh=>⟨by show f=2;omega,bJ⟩,λh=>by have:f=2:=h.1;omega⟩
   split
   ·rename_i h5;exact key _ _ _ (Eq.symm h5)
   ·unfold jr;rw[iQ (by show¬x.state=3;omega),iQ (by show¬x.state=4;omega),iQ (by show¬x.state=5;omega)];exact key _ _ _ rfl
 ·refine λh=>?_;exfalso;revert h;unfold qL
  split
  ·omega
  ·rw[iQ (λh=>h ha),iQ omQ,iQ omQ,iQ omQ,iJ omQ];show¬(8:Int)=7;decide
theorem qkM (A:xx S w0 E i x) (O:zG x) (W:Ai x) (hw:ql x=true) (ha:a.err=0) :
  (qL x a).v=x.v∧(qL x a).ad=x.ad∧(((qL x a).state=8∧(qL x a).fin=2)∨ql (qL x a)=true):=by
 have cd:=O.st;have h5:¬x.state≤5:=λh=>by
  rw[zZ (O.c0 h)]at hw;cases hw
 have h8:x.state≠8:=λh=>by
  unfold ql at hw;rw[iV (by omega:¬x.state≠8)]at hw;cases hw
 by_cases h6:x.state=6
 ·obtain⟨c,hc⟩:∃c,x.c=some c:=by
   cases h:x.c with
   |none=>exact absurd h (O.c6 h6)
   |some c=>exact⟨c,rfl⟩
  obtain⟨CL,hp⟩:=A.lk.c h6 c hc;have J:=A.c h6 c hc;rw[yW h8 hc,iG hp,iV (by omega:¬c.p.fin=2),Bool.and_true,Bool.or_false]at hw;have wr:=J.wg.1 hw;have hx:=(J.wr wr).1;have Wj:c.state=5∨c.state=6:=wr;have et:qL x a=q8 { x with c:=some (qn c a) }:=by unfold qL;rw[iQ omQ,iQ (λh=>h ha),iQ omQ,iQ omQ,iQ omQ,iQ omQ,iQ omQ,iJ h6,hc];rfl
  have mR:∀e:q9,(zg e).now=e.now∧(zg e).writing=e.writing∧((zg e).p.fin=e.p.fin∨(zg e).p.fin=2):=λe=>by
   unfold zg
   split
   ·exact⟨rfl,rfl,.inr rfl⟩
   ·exact⟨rfl,rfl,.inl rfl⟩
  have D:(qn c a).now=c.now∧(qn c a).writing=c.writing∧((qn c a).p.fin=c.p.fin∨(qn c a).p.fin=2):=by
   rw[jj hp ha,iQ omQ,iQ omQ,iQ omQ]
   split
   ·unfold jo
    split
    ·exact mR _
    ·exact⟨rfl,rfl,.inl rfl⟩
   ·rw[iJ omQ];exact mR _
  rw[et];generalize qn c a=d at*;obtain⟨d1,d2,d3⟩:=D;rw[hp]at d3;have uc:d.writing=true:=d2.trans hw;rcases d3 with d3 |d3
  ·rw[Yn h6 d3,iJ uc];refine⟨rfl,by show d.now+1=x.ad;omega,.inr ?_⟩;rw[yW (e:=d) (by show¬x.state=8;omega) rfl,uc,iG d3];rfl
  ·rw[Xb h6 d3 uc];refine⟨rfl,by show d.now+1=x.ad;omega,.inr ?_⟩;rw[yW (e:=d) (by show¬(7:Int)=8;decide) rfl,iG d3,Bool.or_true]
 ·have h7:x.state=7:=by omega
  have et:qL x a={ x with state:=8 }:=by unfold qL;rw[iQ omQ,iQ (λh=>h ha),iQ omQ,iQ omQ,iQ omQ,iJ h7]
  rw[et];exact⟨rfl,rfl,.inl ⟨rfl,((W h7).1 hw).1⟩⟩
def QE (r:yr):Prop:=r.kind=2∧r.cells≠[]
structure Cy (S:jz) (w0:List Int) (E:Env) (r:yr):Prop where
  t:S.start≤r.ad∧r.ad≤E.M.n
  no:¬QE r→RT S w0 E r.ad r.reads
  yes:QE r→RT S w0 E (r.ad-1) r.reads∧S.start<r.ad∧E.G (r.ad-S.start).toNat=r.cells
variable {r:yr} {t:qd} {pick:Int}
theorem Cy.later (R:Cy S w0 E r) (L:ye S E F) (O:Yp S E):Cy S w0 F r:=by
 refine⟨⟨R.t.1,Int.le_trans R.t.2 L.n⟩,λh=>(R.no h).later L O R.t.1 R.t.2,λh=>?_⟩;obtain⟨v1,v2,v3⟩:=R.yes h;have:=R.t;refine⟨v1.later L O omQ omQ,v2,?_⟩;rcases L.g (r.ad-S.start).toNat with e |e |⟨e,_⟩
 ·rw[e];exact v3
 ·omega
 ·rw[v3]at e;exact absurd e h.2
theorem Q5:QE (jY t x pick)↔(ql x=true∨(x.state=8∧x.fin=2))∧jk x.v.lv≠[]:=by
 unfold QE jY w9 yJ;dsimp only;cases hw:ql x with
 |true=>rw[iJ rfl,Bool.or_true,iJ rfl];exact⟨λh=>⟨.inl rfl,h.2⟩,λh=>⟨rfl,h.2⟩⟩
 |false=>
  rw[iQ od,Bool.or_false];have h8:jh x=2↔x.state=8∧x.fin=2:=by
   unfold jh;by_cases h:x.state=8
   ·rw[iQ (λh'=>h' h)];exact⟨λe=>⟨h,e⟩,λe=>e.2⟩
   ·rw[iJ h];exact⟨λe=>(by cases e),λe=>absurd e.1 h⟩
  rw[← h8];by_cases he:jh x=2
  ·rw[iG he,iJ rfl];exact⟨λh=>⟨.inr he,h.2⟩,λh=>⟨he,h.2⟩⟩
  ·exact⟨λh=>absurd h.1 he,λh=>by rcases h.1 with h |h;cases h;exact absurd h he⟩
theorem GE (h:QE (jY t x pick)):(jY t x pick).cells=jk x.v.lv:=by
 have h1:=(Q5.1 h).1;show w9 x=_;unfold w9;refine iJ ?_;unfold yJ;rcases h1 with h1 |⟨h1,h2⟩
 ·rw[h1,Bool.or_true]
 ·have:jh x=2:=by
   unfold jh;rw[iQ (λh'=>h' h1)];exact h2
  rw[iG this];rfl
theorem xx.ne6 (A:xx S w0 E i x) (I:zt S w0 E) (hC:E.C i=vY x) (O:zG x) (h6:x.state=6):jk x.v.lv≠[]:=by
 obtain⟨c,hc⟩:∃c,x.c=some c:=by
  cases h:x.c with
  |none=>exact absurd h (O.c6 h6)
  |some c=>exact⟨c,rfl⟩
 have rV:E.C i=some c:=by rw[hC];unfold vY;rw[iJ h6,hc]
 rw[← (A.c h6 c hc).cells];exact(I.dQ i c rV).ne
theorem xx.Wl (A:xx S w0 E i x) (I:zt S w0 E) (hC:E.C i=vY x) (O:zG x) (W:Ai x) (h2:2≤x.state):Cy S w0 E (jY t x pick):=by
 have cd:=O.st;have no5:x.state≤5→ql x=false:=λh=>zZ (O.c0 h);have Bb:x.state=6→∃c,x.c=some c∧E.C i=some c∧c.p.fin=0∧(ql x=true↔bR c):=λh6=>by
  obtain⟨c,hc⟩:∃c,x.c=some c:=by
   cases h:x.c with
   |none=>exact absurd h (O.c6 h6)
   |some c=>exact⟨c,rfl⟩
  have hp:=(A.lk.c h6 c hc).2;refine⟨c,hc,by rw[hC];unfold vY;rw[iJ h6,hc],hp,?_⟩;rw[yW omQ hc,iG hp,iV (by omega:¬c.p.fin=2),Bool.and_true,Bool.or_false];exact(A.c h6 c hc).wg
 refine⟨A.t h2,λh=>?_,λh=>?_⟩
 ·rw[Q5]at h;show RT S w0 E x.ad x.v.K;by_cases h7:x.state=7
  ·exact(A.end_ omQ).no λhx=>h ⟨.inl ((W h7).2 hx),hx.2⟩
  by_cases h8:x.state=8
  ·exact(A.end_ omQ).no λhx=>h ⟨.inr ⟨h8,hx.1⟩,hx.2⟩
  refine(A.live h2 omQ λc h6 hc hw=>?_).rt;obtain⟨c',bH,_,_,Cz⟩:=Bb h6;rw[hc]at bH;cases bH;exact h ⟨.inl (Cz.2 hw),A.ne6 I hC O h6⟩
 ·have e:=GE h;rw[Q5]at h;rw[e];show RT S w0 E (x.ad-1) x.v.K∧S.start<x.ad∧E.G (x.ad-S.start).toNat=jk x.v.lv;by_cases h7:7≤x.state
  ·refine(A.end_ h7).yes ⟨?_,h.2⟩;rcases h.1 with h1 |⟨_,h1⟩
   ·by_cases h8:x.state=8
    ·unfold ql at h1;rw[iV (by omega:¬x.state≠8)]at h1;cases h1
    ·exact((W omQ).1 h1).1
   ·exact h1
  ·have hw:ql x=true:=by
    rcases h.1 with h1 |⟨h1,_⟩
    ·exact h1
    ·omega
   have h6:x.state=6:=by
    by_cases h5:x.state≤5
    ·rw[no5 h5]at hw;cases hw
    ·omega
   obtain⟨c,hc,rV,hp,Cz⟩:=Bb h6;have wr:=Cz.1 hw;have J:=A.c h6 c hc;have CI:=I.dQ i c rV;have Wj:c.state=5∨c.state=6:=wr;have hn:=(CI.now omQ omQ).1;obtain⟨j1,j2⟩:=J.wr wr;refine⟨by rw[show x.ad-1=c.now by omega];exact j2,by omega,?_⟩;rw[j1,← J.cells];exact I.rT i c rV wr
end
section
variable {S S':jz} {w0:List Int} {E F:Env} {i:Nat} {x y:qf} {t:qd} {r:yr} {d p:Int} {M:jX}
structure DC (S:jz) (w0:List Int) (E:Env) (i:Nat) (x:qf):Prop where
  ai:xx S w0 E i x
  w7:Ai x
  bg:Bg x
structure VU (S:jz) (w0:List Int) (E:Env) (i:Nat) (t:qd):Prop where
  a:t.state=1→∀x,t.now=some x→DC S w0 E i x
  p:∀r∈t.ao,Cy S w0 E r
theorem jKM {me:Int} {j:GT} (L:vM S E.M.n (NZ me S' j) i):DC S w0 E i (NZ me S' j) :=
 ⟨⟨L,λ_=>⟨rfl,rfl⟩,λh=>absurd h (by show¬(2:Int)≤0;decide),λh=>absurd h (by show¬(2:Int)≤0;decide),λh=>(by cases h),λh=>(by rcases h with h |h<;>cases h),λh=>(by cases h),λh=>absurd h (by show¬(7:Int)≤0;decide)⟩,
  λh=>(by cases h),⟨λh=>(by cases h),λh=>absurd h (by show¬(2:Int)≤0;decide)⟩⟩
def ow (t:qd):Prop:=t.state=1→∀x,t.now=some x→∃me S j,x=NZ me S j
theorem Jy (h:t.state≠1):ow t:=λh'=>absurd h' h
theorem gR:ow (zO t):=by
 unfold zO
 split
 ·exact Jy (by show¬(6:Int)=1;decide)
 ·intro _ x hx;have hx:=Option.some.inj hx;subst hx
  split
  ·exact⟨_,_,_,rfl⟩
  ·exact⟨_,_,_,rfl⟩
theorem Wm:ow (xE t d):=by
 unfold xE
 split
 ·exact gR
 ·exact Jy (by show¬(3:Int)=1;decide)
theorem Wn (h5:t.state≠1):ow (yQ t):=by
 have key:∀u:qd,u.state≠1→ow (yG u):=λu c=>by
  unfold yG
  split
  ·exact Jy c
  ·split
   ·exact gR
   ·exact gR
 unfold yQ
 split
 ·exact key _ h5
 ·exact key _ h5
theorem Wo:ow (zP t x d p):=by
 unfold zP;dsimp only
 split
 ·split
  ·exact Jy (by show¬(2:Int)=1;decide)
  ·exact Wm
 ·split
  ·split
   ·exact gR
   ·exact Jy (by show¬(4:Int)=1;decide)
  ·split
   ·exact gR
   ·unfold Qr
    split
    ·exact gR
    ·exact Wn (by show¬(5:Int)=1;decide)
theorem UK (h:t.state≠1):ow (jK t):=by
 unfold jK
 split
 ·split
  ·exact gR
  ·exact Jy (by show¬t.state=1;exact h)
 ·exact Jy h
theorem n6:JB t (jK t):=by
 unfold jK
 split
 ·split
  ·exact(JB.trans (u:={ t with br:=0 }) ⟨rfl,rfl⟩ (yv _))
  ·exact⟨rfl,rfl⟩
 ·exact .refl t
theorem JM:(zP t x d p).ao=t.ao++[jY t x p]:=by
 unfold zP;dsimp only
 split
 ·split
  ·rfl
  ·exact(wL _ _).ao
 ·split
  ·split
   ·exact(yv _).ao
   ·rfl
  ·split
   ·exact(KB _ _).ao
   ·exact(U5 _).ao
theorem VU.fresh (L:ThrLk S E.M.n t i) (hf:ow t) (hp:∀r∈t.ao,Cy S w0 E r):VU S w0 E i t :=
 ⟨λh1 x hx=>by
  have L1:=L.a h1 x hx;obtain⟨a,b,c,e⟩:=hf h1 x hx;subst e
  exact jKM L1,hp⟩
theorem Ym (h:t.state≠1):yV t=none:=iQ h
theorem KA (h1:t.state=1) (hx:t.now=some x):yV t=vY x:=by unfold yV vY;rw[iJ h1,hx]
theorem XK (hf:ow t):yV t=none:=by
 by_cases h1:t.state=1
 ·cases hx:t.now with
  |none=>unfold yV;rw[iJ h1,hx]
  |some x=>obtain⟨a,b,c,e⟩:=hf h1 x hx;rw[KA h1 hx,e];exact iQ (by show¬(0:Int)=6;decide)
 ·exact Ym h1
theorem DC.later (Z:DC S w0 E i x) (I:zt S w0 E) (hC:E.C i=vY x) (L:ye S E F):DC S w0 F i x :=
 ⟨Z.ai.later L I.env λc h6 hc h4 DB=>by
  have rV:E.C i=some c:=by rw[hC];unfold vY;rw[iJ h6,hc]
  have:=I.dQ i c rV
  exact⟨(this.now omQ DB).1,this.lk.s4 h4 DB⟩,Z.w7,Z.bg⟩
theorem VU.later (T:VU S w0 E i t) (I:zt S w0 E) (hC:E.C i=yV t) (L:ye S E F):VU S w0 F i t :=
 ⟨λh1 x hx=>(T.a h1 x hx).later I (hC.trans (KA h1 hx)) L,λr hr=>(T.p r hr).later L I.env⟩
theorem YB (h:r∈t.ao):r∈qi t:=List.mem_append_left _ h
theorem jVM {s v:Int} (T:VU S w0 E i t) (L:ThrLk S E.M.n (jm t s v) i):VU S w0 E i (jm t s v)∧yV (jm t s v)=yV t∧∀r∈qi t,r∈qi (jm t s v):=by
 unfold jm at L ⊢
 split
 ·exact⟨T,rfl,λr h=>h⟩
 ·rename_i x hx;rw[hx]at L;dsimp only at L
  split
  ·rename_i hs;rw[iJ hs]at L
   split
   ·rename_i h4;rw[iJ h4]at L;refine⟨.fresh L gR λr hr=>T.p r ((yv t).ao▸hr),(XK gR).trans (Ym omQ).symm,λr hr=>YB ?_⟩;rw[(yv t).ao];unfold qi at hr;rw[hx]at hr;dsimp only at hr;rw[iQ (λh=>by have:=h.1;omega),List.append_nil]at hr;exact hr
   ·split
    ·exact⟨⟨T.a,T.p⟩,rfl,λr h=>h⟩
    ·exact⟨T,rfl,λr h=>h⟩
  ·exact⟨T,rfl,λr h=>h⟩
theorem jX6 (Z:DC S w0 F i y) (P:∀r∈t.ao,Cy S w0 F r) (h1:t.state=1) (I:zt S w0 F) (hC:F.C i=vY y) (O:zG y) (L:ThrLk S F.M.n (zU t x y d p) i) :
  VU S w0 F i (zU t x y d p)∧yV (zU t x y d p)=vY y:=by
 unfold zU at L ⊢;dsimp only at L ⊢;by_cases he:jh y=0
 ·rw[iJ he]at L ⊢;exact⟨⟨λ_ z hz=>by cases hz;exact Z,P⟩,KA h1 rfl⟩
 ·rw[iQ he]at L ⊢;have h8:y.state=8:=by
   unfold jh at he
   split at he
   ·exact absurd rfl he
   ·rename_i h;omega
  refine⟨.fresh L Wo λr hr=>?_,(XK Wo).trans (Eq.symm (iQ omQ))⟩;rw[JM]at hr;rcases List.mem_append.1 hr with hr |hr
  ·exact P r hr
  ·rw[List.mem_singleton.1 hr];exact Z.ai.Wl I hC O Z.w7 omQ
theorem qz2 (h:r∈t.ao):r∈qi (zU t x y d p):=by
 refine YB ?_;unfold zU;dsimp only
 split
 ·exact h
 ·rw[JM];exact List.mem_append_left _ h
theorem qJp (h1:t.state=1) (hb:y.begun=true) (hw:(y.state=8∧y.fin=2)∨ql y=true) (bJ:jk y.v.lv≠[]) :
  ∃r∈qi (zU t x y d p),QE r∧r.cells=jk y.v.lv∧r.ad=y.ad:=by
 unfold zU;dsimp only
 split
 ·rename_i he;generalize hu:({ t with now:=some y,born:=if y.begun=true∧x.begun=false then p else t.born }:qd)=u;have e:qi u=u.ao++[jY u y 0]:=by
   subst hu;unfold qi;dsimp only;rw[iJ ⟨h1,hb⟩]
  have w:QE (jY u y 0):=Q5.2 ⟨by rcases hw with h |h;exact .inr h;exact .inl h,bJ⟩;exact⟨jY u y 0,by rw[e];exact List.mem_append_right _ (List.mem_singleton.2 rfl),w,GE w,rfl⟩
 ·generalize({ t with now:=some y,born:=if y.begun=true∧x.begun=false then p else t.born }:qd)=u;have w:QE (jY u y p):=Q5.2 ⟨by rcases hw with h |h;exact .inr h;exact .inl h,bJ⟩;exact⟨jY u y p,YB (by rw[JM];exact List.mem_append_right _ (List.mem_singleton.2 rfl)),w,GE w,rfl⟩
structure Aj (w0:List Int) (m:zl) (G:QT):Prop where
  mem:zt m.s w0 (yI m G)
  t:∀(i:Nat) (t:qd),m.t[i]? =some t→VU m.s w0 (yI m G) i t
  src:∀k:Nat,G k≠[]→∃(i:Nat) (t:qd) (r:yr),m.t[i]? =some t∧r∈qi t∧QE r∧r.cells=G k∧r.ad=m.s.start+k
  len:m.m.s.length=m.t.length
theorem Wp {m:zl} {G:QT} {M:jX} {C:Nat→Option q9} (h1:m.m=M) (h2:∀k,(m.t[k]?).bind yV=C k):yI m G=⟨M,G,C⟩:=by unfold yI;rw[h1,show(λi=>(m.t[i]?).bind yV)=C from funext h2]
end
end Go.Proofs.YtemjbhdofokbhaaGreatDoor
