/- Lemmas for 'quietus/quietuslaw26.AttemptPlays': A programs run on a view: what holds all along;A programs run: by the programs interpreter;A programs run: parts that open and close;the heap;one ... No condition. -/
import Derived.Test.YtpbpkcdebchbbaaGreatDoorAttemptPlaysM2
namespace Go.Proofs.YtpbpkcdebchbbaaGreatDoor
open Go Go.Ae
set_option maxRecDepth 100000
section
structure Jr (M M':VM):Prop where
  sz:M'.sz=M.sz
  K:M'.K=M.K
  most:M'.most=M.most
  len:M'.lv.length=M.lv.length
def J5 (M M':VM):Prop:=M'.lv=M.lv∧1≤M'.aw∧M'.aw<M.sz∧zc M'.aw M.K=none
theorem Jr.refl (M:VM):Jr M M:=⟨rfl,rfl,rfl,rfl⟩
theorem Jr.trans {M N Q:VM} (a:Jr M N) (b:Jr N Q):Jr M Q:=⟨b.sz.trans a.sz,b.K.trans a.K,b.most.trans a.most,b.len.trans a.len⟩
theorem xd (M:VM) (p:Int):Jr M (qi M p).2:=by
 unfold qi
 repeat' split
 all_goals exact⟨rfl,rfl,rfl,rfl⟩
theorem Qj {M:VM} {p:Int} (h:(qi M p).1.2=11):J5 M (qi M p).2:=by
 unfold qi at h ⊢
 split
 ·rename_i h1;rw[iJ h1]at h
  split
  ·grind
  ·rename_i h2;rw[h2]at h;dsimp only at h ⊢
   split
   ·grind
   ·rename_i h3;exact⟨rfl,h1.1,h1.2,h3⟩
 grind
theorem qgN {most:Nat} {lv:List ba} {p v:Int}:(vk most lv p v).1=0∨(vk most lv p v).1=2∨(vk most lv p v).1=5:=by
 unfold vk
 grind
theorem qWE {most:Nat} {az:List ba}:∀{cs:List Cl} {lv:List ba},(vW most az lv cs).1=0∨(vW most az lv cs).1=2∨(vW most az lv cs).1=5:=by
 intro cs
 induction cs with
 |nil=>intro lv;exact .inl rfl
 |cons c cs ih=>
  grind[vC,qgN]
theorem qYm {M:VM} {cs:List Cl}:(zq M cs).1=0∨(zq M cs).1=2∨(zq M cs).1=5:=by
 unfold zq
 split
 ·exact qWE
 simp
theorem GE {M:VM} {cs:List Cl} (h:(zq M cs).1=11):False:=by grind[qYm]
theorem gi {M:VM} {cs:List Cl} (O:cU M):Jr M (zq M cs).2:=by
 unfold zq
 split
 ·exact⟨rfl,rfl,rfl,(ZH O.eR O.eR rfl).2⟩
 ·exact .refl M
theorem ZY (M:VM) (b:Int):Jr M (jr M b).2:=by
 unfold jr
 repeat' split
 all_goals first |exact .refl M |simp[xd]
theorem qQR {M:VM} {b:Int} (h:(jr M b).1.2.2=11):J5 M (jr M b).2:=by
 unfold jr at h ⊢
 split
 ·grind
 ·rename_i h1;rw[iQ h1]at h
  split
  ·grind
  simp_all[Qj]
theorem rF {lv:List ba} {b:Int}:(J3 lv b).length=lv.length:=by cases lv<;>rfl
theorem qVs {M:VM} {b:Int} (O:cU M):Jr M (vP M b).2:=by
 have ha:=ZY M b;unfold vP
 repeat' split
 ·have ht:=ha.trans (gi (cs:=[(b-1,(jr M b).1.1)]) (Qt (b:=b) O));exact⟨ht.sz,ht.K,ht.most,rF.trans ht.len⟩
 ·exact ha.trans (gi (Qt O))
 all_goals grind
theorem qVI {M:VM} {b:Int} (h:(vP M b).1=11):J5 M (vP M b).2:=by
 unfold vP at h ⊢
 split
 ·rename_i h1;rw[iJ h1]at h
  split
  ·rename_i h2;rw[iJ h2]at h
   split
   ·grind
   ·rename_i h3;rw[iQ h3]at h;grind[GE]
  grind
 simp_all[qQR]
theorem qJr {M:VM} {c b:Int} (O:cU M):Jr M (yA M c b).2:=by
 unfold yA
 repeat' split
 ·exact .refl M
 ·exact(xd M _).trans (gi (xH O))
 ·exact(xd M _).trans (gi (xH O))
 simp[xd]
theorem qZO {M:VM} {c b:Int} (h:(yA M c b).1.2=11):J5 M (yA M c b).2:=by
 unfold yA at h ⊢
 split
 ·grind
 ·rename_i h1;rw[iQ h1]at h
  split
  ·rename_i h2;rw[iJ h2]at h
   split
   ·grind
   ·rename_i h3;rw[iQ h3]at h;grind[GE]
  simp_all[Qj]
theorem qJU {M:VM} {c:Int} (O:cU M):Jr M (yg M c).2:=by
 unfold yg
 repeat' split
 ·simp[xd]
 ·exact(xd M _).trans (gi (xH O))
 ·exact(xd M _).trans (gi (xH O))
 simp[xd]
theorem qZE {M:VM} {c:Int} (h:(yg M c).1.2=11):J5 M (yg M c).2:=by
 unfold yg at h ⊢
 split
 ·rename_i h1;rw[iJ h1]at h
  split
  ·grind
  ·rename_i h2;rw[iQ h2]at h
   split
   ·grind
   ·rename_i h3;rw[iQ h3]at h;grind[GE]
 simp_all[Qj]
theorem Vw {M:VM} {x:Int} (O:cU M):Jr M (zf M x).2:=by
 unfold zf
 repeat' split
 ·exact .refl M
 ·exact(xd M _).trans (qJU (xH O))
 ·exact(xd M _).trans (qJr (xH O))
 simp[xd]
theorem qJl {M:VM} {x:Int} (h:(zf M x).1.2=11):J5 M (zf M x).2:=by
 unfold zf at h ⊢
 split
 ·grind
 ·rename_i h1;rw[iQ h1]at h
  split
  ·rename_i h2;rw[iJ h2]at h;have e:=KF h2
   split
   all_goals simp_all[qZE,qZO]
  simp_all[Qj]
theorem Oj {M:VM} {x:Int} (W:mP M) (h:(zf M x).1.2=0):0≤(zf M x).1.1∧(zf M x).1.1≤2147483648:=by
 unfold zf at h ⊢
 split
 ·simp
 ·rename_i h1;rw[iQ h1]at h
  split
  ·rename_i h2;rw[iJ h2]at h;have hr:=W.read (p:=zJ x)
   split
   ·rename_i h3;rw[iJ h3]at h;unfold yg at h ⊢
    grind
   ·rename_i h3;rw[iQ h3]at h;unfold yA at h ⊢
    grind
  simp
structure JJ (r:List Int):Prop where
  len:r.length=8
  bd:∀z∈r,0≤z∧z<18446744073709551616
theorem JJ.at {r:List Int} (h:JJ r) (i:Int):0≤qP r i∧qP r i<18446744073709551616:=by
 unfold qP;cases hi:r[i.toNat]? with
 |none=>simp
 |some z=>exact h.bd z (List.mem_of_getElem? hi)
theorem JJ.set {r:List Int} {i v:Int} (h:JJ r) (hv:0≤v∧v<18446744073709551616):JJ (r.set i.toNat v) :=
 ⟨by rw[List.length_set];exact h.len,λz hz=>by
  rcases List.mem_or_eq_of_mem_set hz with hz |rfl
  ·exact h.bd z hz
  grind⟩
structure uY (l:List qe) (p:cy):Prop where
  aa:JJ p.aa
  pc:∃k:Nat,p.pc=k∧k<l.length
  op:(p.op=14∨p.op=17∨p.op=18)∧(qU l p.pc).1=p.op
def cH:Nat→List cy→Prop
 |_,[]=>True
 |n,p::r=>p.told≤n∧cH p.told r
theorem cH.mono:∀{o:List cy} {n n':Nat},n≤n'→cH n o→cH n' o:=by
 intro o;cases o with
 |nil=>intro _ _ _ _;trivial
 |cons p r=>intro n n' h h2;exact⟨Nat.le_trans h2.1 h,h2.2⟩
structure GB (s:IM):Prop where
  aa:JJ s.aa
  out:s.out.length≤16
  its:∀x∈s.out,DD x
structure GI (l:List qe) (s:IM) (V:VM):Prop where
  gb:GB s
  pc:∃k:Nat,s.pc=k∧k≤l.length
  mQ:∀p∈s.ay,uY l p
  told:cH s.out.length s.ay
  CC:s.ay.map (·.pc)=(qL l s.pc.toNat).reverse
  lv:V.lv.length=s.ay.length+1
  ap:ju V
theorem I0 (z:Int):0≤zC .u64 z∧zC .u64 z<18446744073709551616:=by
  cases z with
  | ofNat a => show (0 : Int) ≤ Int.ofNat (a % 18446744073709551616) ∧ Int.ofNat (a % 18446744073709551616) < 18446744073709551616
               grind
  | negSucc a => show (0 : Int) ≤ Int.ofNat (18446744073709551615 - a % 18446744073709551616) ∧ Int.ofNat (18446744073709551615 - a % 18446744073709551616) < 18446744073709551616
                 grind
theorem qXl (p:Prop) [Decidable p]:0≤wa p∧wa p<18446744073709551616:=by grind[wa]
theorem GB.b9 {s:IM} {i v:Int} (h:GB s) (hv:0≤v∧v<18446744073709551616):GB (b9 s i v):=⟨h.aa.set hv,h.out,h.its⟩
structure Y9 (l:List qe) (s:IM) (V:VM) (r:SM):Prop where
  gb:GB r.s
  ap:ju r.v
  fr:bA r.v.lv≤bA V.lv+1
  sz:r.v.sz=V.sz
  K:r.v.K=V.K
  most:r.v.most=V.most
  next:r.e=0→r.bf=false→GI l { r.s with pc:=r.nx } r.v
  aw:r.e=11→r.s=s∧J5 V r.v
  bl:r.bf=true→r.e=0
theorem qZD {l:List qe} {i:Nat} (h1:ze (qU l i).1=false) (h2:(qU l i).1≠18) (h3:zZ (qU l i).1=0):qL l (i+1)=qL l i:=by simp_all[jb,jD,omQ]
theorem GI.plain {l:List qe} {s s':IM} {V V':VM} {i:Nat} (G:GI l s V) (hi:s.pc=i) (ae:i<l.length) (h1:ze (qU l i).1=false) (h2:(qU l i).1≠18) (h3:zZ (qU l i).1=0)
  (gb:GB s') (ho:s'.ay=s.ay) (hl:s.out.length≤s'.out.length) (hv:V'.lv.length=V.lv.length) (hg:ju V'):GI l { s' with pc:=s.pc+1 } V':=by
 refine⟨⟨gb.aa,gb.out,gb.its⟩,⟨i+1,by grind,by omega⟩,by rw[ho];exact G.mQ,by rw[ho];exact G.told.mono hl,?_,by rw[ho,hv];exact G.lv,hg⟩;rw[ho,hi,show((i:Int)+1).toNat=i+1 by rfl,qZD h1 h2 h3,G.CC,hi,Int.toNat_natCast]
theorem Vo {l:List qe} {s:IM} {V:VM} {op:Int} {p:Nat} {st:List Int} (gb:GB s) (hp:p<l.length) (ho:(op=14∨op=17∨op=18)∧(qU l (p:Int)).1=op) (mQ:∀p∈s.ay,uY l p) (told:cH s.out.length s.ay)
  (bK:s.ay.map (·.pc)=st.reverse) (ID:qL l (p+1)=st++[(p:Int)]) (lv:V.lv.length=s.ay.length+1) (hd:s.ay.length<5) (G:ju V) :
  (zW op p ((p:Int)+1) s V).e=0∧(zW op p ((p:Int)+1) s V).bf=false∧(zW op p ((p:Int)+1) s V).nx=(p:Int)+1∧GI l { (zW op p ((p:Int)+1) s V).s with pc:=(p:Int)+1 } (zW op p ((p:Int)+1) s V).v∧
   (zW op p ((p:Int)+1) s V).v=(xN V).2:=by
 have h0:(xN V).1=0∧(xN V).2.lv=([],[])::V.lv:=by unfold xN gg;grind
 unfold zW;rw[iJ h0.1];refine⟨rfl,rfl,rfl,⟨⟨gb.aa,gb.out,gb.its⟩,⟨p+1,rfl,by omega⟩,?_,⟨Nat.le_refl _,told⟩,?_,?_,G.th.1⟩,rfl⟩
 ·intro q hq;rcases List.mem_cons.1 hq with rfl |hq
  ·exact⟨gb.aa,⟨p,rfl,hp⟩,ho⟩
  grind
 all_goals grind
theorem Qq {V:VM} (h:2≤V.lv.length):(zN V).1=0∧(zN V).2.lv=V.lv.tail:=by unfold zN wS;grind
theorem wo {V:VM} (h:2≤V.lv.length):(vj V).1=0∧(vj V).2.lv.length+1=V.lv.length:=by
 unfold vj
 match hl:V.lv,h with
 |[],h=>grind
 |[x],h=>grind
 |x::y::r,_=>trivial
theorem cH.tail {n:Nat} {p:cy} {o:List cy} (h:cH n (p::o)):cH n o:=h.2.mono h.1
theorem Y9.plain {l:List qe} {s s':IM} {V V':VM} {i:Nat} {e:Int} (G:GI l s V) (hi:s.pc=i) (ae:i<l.length) (h1:ze (qU l i).1=false) (h2:(qU l i).1≠18) (h3:zZ (qU l i).1=0)
  (gb:GB s') (ho:s'.ay=s.ay) (hl:s.out.length≤s'.out.length) (hk:Jr V V') (hg:ju V') (hf:bA V'.lv≤bA V.lv+1) (hn:e=11→s'=s∧J5 V V'):Y9 l s V ⟨e,s.pc+1,false,s',V'⟩ :=
 ⟨gb,hg,hf,hk.sz,hk.K,hk.most,λ_ _=>G.plain hi ae h1 h2 h3 gb ho hl hk.len hg,hn,λh=>(by grind)⟩
theorem qJb {l:List qe} (F:Fit l) {i:Nat} (ae:i<l.length) (ho:(qU l i).1=12∨(qU l i).1=13):∃c:Nat,(qU l i).2.2.2.1=c∧c≤l.length∧qL l c=qL l i:=by
 have hm:=(yZ (F.ok i ae)).1;have hj:=F.jump i ae;generalize qU l i=x at*;have hc:0≤x.2.2.2.1∧x.2.2.2.1≤40:=by
  unfold gG jM vS at hm;grind
 obtain⟨c,BB⟩:∃c:Nat,x.2.2.2.1=c:=⟨x.2.2.2.1.toNat,by omega⟩;refine⟨c,BB,?_⟩;unfold JO at hj;rw[BB]at hj;have hle:c≤l.length:=by
  grind
 refine⟨hle,?_⟩;by_cases he:c=l.length
 ·subst he;rw[F.nil];have:qP (xc l 0 []) (i:Int)= -1:=Classical.not_not.1 λh=>hj ⟨ho,.inr (.inl ⟨rfl,h⟩)⟩;rw[vN F ae]at this
  exact(Classical.not_not.1 λh=>by
   have:=(YI i).1.dG (λh'=>h h'.symm)
   omega:[]=qL l i)
 ·have:qP (xc l 0 []) (c:Int)=qP (xc l 0 []) (i:Int):=Classical.not_not.1 λh=>hj ⟨ho,.inr (.inr ⟨by omega,h⟩)⟩;rw[vN F ae,vN F omQ]at this;grind[qqH]
theorem JP {l:List qe} (F:Fit l):∀i,i≤l.length→(qL l i).length≤5:=by
 intro i
 induction i with
 |zero=>simp[qL]
 |succ i ih=>
  intro h;have h1:=ih omQ;have hw:=yZ (F.ok i omQ);rw[jb];unfold jD
  repeat' split
  ·grind
  ·rename_i hb he;rcases hb with hb |hb
   ·grind
   ·exact absurd (by rw[hb];decide) he
  all_goals grind
theorem XV {o:List cy} {p:cy} {st:List Int} (h:(p::o).map (·.pc)=st.reverse):st=st.dropLast++[p.pc]∧o.map (·.pc)=st.dropLast.reverse:=by
 have e:st=o.reverse.map (·.pc)++[p.pc]:=by have:=congrArg List.reverse h;rw[List.reverse_reverse]at this;rw[← this,List.map_cons,List.reverse_cons,List.map_reverse]
 grind
def tj (l:List qe) (st:List Int):Prop:=∀k p:Nat,st[k]? =some (p:Int)→qL l (p+1)=st.take (k+1)
theorem tj.dropLast {l:List qe} {st:List Int} (h:tj l st):tj l st.dropLast:=by
 intro k p hk;have h1:=(List.getElem?_eq_some_iff.1 hk).1;have h2:k+1≤st.length-1:=by grind
 rw[List.getElem?_dropLast]at hk
 split at hk
 ·rw[h k p hk,List.dropLast_eq_take,List.take_take,Nat.min_eq_left h2]
 grind
theorem GB.back {l:List qe} {s:IM} {p:cy} (g:GB s) (h:uY l p):GB (gr s p):=⟨h.aa,by
 show(s.out.take p.told).length≤16;have:=g.out
 grind,λx hx=>g.its x (List.mem_of_mem_take hx)⟩
theorem qxR {l:List qe} {st:List Int} (hp:tj l st) {o:List cy} {p:cy} {q:Nat} (h:(p::o).map (·.pc)=st.reverse) (hq:p.pc=q):qL l (q+1)=st:=by
 have e:=(XV h).1;have hl:st.length=st.dropLast.length+1:=by grind
 have:=hp st.dropLast.length q (by grind);grind
theorem qJu {l:List qe} (F:Fit l) {s0:IM} {V0:VM}:∀(o:List cy) (s:IM) (V:VM) (st:List Int),tj l st→o.map (·.pc)=st.reverse→GB s→(∀p∈o,uY l p)→cH s.out.length o→V.lv.length=o.length+1→ju V→
  bA V.lv≤bA V0.lv→V.sz=V0.sz→V.K=V0.K→V.most=V0.most→Y9 l s0 V0 (xw (qb l) o s V):=by
 intro o
 induction o with
 |nil=>intro s V st hp hm gb _ _ fN G hf h1 h2 h3;exact⟨⟨gb.aa,gb.out,gb.its⟩,G,by show bA V.lv≤_;omega,h1,h2,h3,λ_ h=>(by cases h),λh=>(by cases h),λ_=>rfl⟩
 |cons p o ih=>
  intro s V st hp hm gb mQ told fN G hf h1 h2 h3;have hd:=Qq (V:=V) (by grind);have Hb:=G.dy;have tn:(zN V).2.lv.length=o.length+1:=by grind
  have mR:=XV hm;unfold xw;rw[iJ hd.1]
  split
  ·rename_i fL;have P:=mQ p (iK ..);obtain⟨q,hq,Rz⟩:=P.pc;have hqo:(qU l (q:Int)).1=17:=by rw[← hq,P.op.2,fL]
   obtain⟨e,e1,e2,e3,e4,e5⟩:=gn F Rz (.inr (.inl hqo));have bK:=qxR hp hm hq;have DF:(qU l (e:Int)).1=18:=by
    grind[zZ]
   have RA:qL l (e+1)=st.dropLast++[(e:Int)]:=by rw[jb,e5,bK];unfold jD;grind
   have h5:=JP F e omQ;rw[e5,bK]at h5;have hl5:st.length=st.dropLast.length+1:=by grind
   have ea:o.length=st.dropLast.length:=by have:=congrArg List.length mR.2;grind
   have A4:GB { gr s p with ay:=o }:=⟨(gb.back P).aa,(gb.back P).out,(gb.back P).its⟩;have Hc:cH (s.out.take p.told).length o:=by rw[List.length_take,Nat.min_eq_left told.1];exact told.2
   have key:=Vo (l:=l) (s:={ gr s p with ay:=o }) (V:=(zN V).2) (op:=18) (p:=e) (st:=st.dropLast) A4 e3 ⟨.inr (.inr rfl),DF⟩ (λr hr=>mQ r (iX _ hr)) Hc mR.2 RA tn (by grind) Hb.1;rw[hq,e1];obtain⟨k1,k2,k3,k4,k5⟩:=key;have RC:=Hb.1.th;refine⟨k4.gb |> λg=>⟨g.aa,g.out,g.its⟩,k4.ap,?_,?_,?_,?_,λ_ _=>?_,λh=>(by grind),λh=>(by grind)⟩
   ·grind
   ·rw[k5];exact h1
   ·rw[k5];exact h2
   ·rw[k5];exact h3
   grind
  ·exact ih s (zN V).2 st.dropLast hp.dropLast mR.2 gb (λr hr=>mQ r (iX _ hr)) told.tail tn Hb.1 (by grind) h1 h2 h3
theorem qZT {l:List qe} {s:IM} {V:VM} {x:qe} (G:GI l s V) (hf:bA V.lv<10000) :
  GB (jm s V x).2.1∧(jm s V x).2.1.ay=s.ay∧(jm s V x).2.1.out=s.out∧(jm s V x).2.1.pc=s.pc∧Jr V (jm s V x).2.2∧ju (jm s V x).2.2∧bA (jm s V x).2.2.lv≤bA V.lv+1∧
   ((jm s V x).1=11→(jm s V x).2.1=s∧J5 V (jm s V x).2.2):=by
 have gb:=G.gb;have ap:=G.ap;have hr:=λi=>gb.aa.at i;have same:∀e:Int,e≠11→GB s∧s.ay=s.ay∧s.out=s.out∧s.pc=s.pc∧Jr V V∧ju V∧bA V.lv≤bA V.lv+1∧(e=11→s=s∧J5 V V) :=
  λe he=>⟨gb,rfl,rfl,rfl,.refl V,ap,by omega,λh=>absurd h he⟩
 unfold jm
 split
 ·split
  ·split
   ·refine⟨gb.b9 ?_,rfl,rfl,rfl,xd V _,ap.read,by simp[yF],nofun⟩;exact ap.wd.read
   ·exact⟨gb,rfl,rfl,rfl,xd V _,ap.read,by simp[yF],λh=>⟨rfl,Qj h⟩⟩
  ·exact same 2 omQ
 ·split
  ·split
   ·exact⟨gb,rfl,rfl,rfl,gi ap.ok,ap.take (iL.F5 (hr _)),by simp[wF],λh=>(GE h).elim⟩
   ·exact same 2 omQ
  ·split
   ·split
    ·exact same 3 omQ
    ·split
     ·rename_i h0;have hb:=Oj (x:=qP s.aa x.2.2.1) ap.wd h0;exact⟨gb.b9 omQ,rfl,rfl,rfl,Vw ap.ok,(ap.alloc).1,by rw[(ap.alloc).2];omega,nofun⟩
     ·exact⟨gb,rfl,rfl,rfl,Vw ap.ok,(ap.alloc).1,by rw[(ap.alloc).2];omega,λh=>⟨rfl,qJl h⟩⟩
   ·split
    ·exact same 2 omQ
    ·exact⟨gb,rfl,rfl,rfl,qVs ap.ok,(ap.free omQ).1,(ap.free omQ).2,λh=>⟨rfl,qVI h⟩⟩
theorem G1 {l:List qe} {s:IM} {V:VM} (G:GI l s V):s.ay.length=(qL l s.pc.toNat).length:=by have:=congrArg List.length G.CC;grind
theorem YY {l:List qe} (F:Fit l) {s:IM} {V:VM} (G:GI l s V) {i:Nat} (hi:s.pc=i) (ae:i<l.length) (hf:bA V.lv<10000) (hN:0≤(qU l i).2.2.2.2∧(qU l i).2.2.2.2<18446744073709551616) (_:(qU l i).1≠23) :
  Y9 l s V (aZ (qb l) s V (qU l i)):=by
 have hw:=yZ (F.ok i ae);have tW:=zi (F.ok i ae);have fL:1≤(qU l i).1∧(qU l i).1≤23:=by simp_all[gG,Bool.and_eq_true,decide_eq_true_eq]
 have Df:ze (qU l i).1=decide ((qU l i).1=14∨(qU l i).1=17):=rfl;have fH:zZ (qU l i).1=if(qU l i).1=15 then 14 else if(qU l i).1=18 then 17 else if(qU l i).1=19 then 18 else 0:=rfl
 have RD:=λh=>qJb F ae h;have fI:=G.CC;rw[hi,Int.toNat_natCast]at fI;have ea:=G1 G;rw[hi,Int.toNat_natCast]at ea;have hr:=λi=>G.gb.aa.at i;have hmb:=λh=>gn F ae h;have hmu:=λh=>QF F ae h;have RE:qL l (i+1)=jD (qL l i) i (qU l i).1:=jb;have plain:(qU l i).1≠14→(qU l i).1≠17→(qU l i).1≠15→(qU l i).1≠18→(qU l i).1≠19→ze (qU l i).1=false∧(qU l i).1≠18∧zZ (qU l i).1=0:=by grind
 have keep:∀{s':IM} {V':VM} {e:Int},(qU l i).1≠14→(qU l i).1≠17→(qU l i).1≠15→(qU l i).1≠18→(qU l i).1≠19→GB s'→s'.ay=s.ay→s.out.length≤s'.out.length→Jr V V'→ju V'→bA V'.lv≤bA V.lv+1→
   (e=11→s'=s∧J5 V V')→Y9 l s V ⟨e,s.pc+1,false,s',V'⟩:=λa b c d e gb ho hl hk hg hf hn=>
  Y9.plain G hi ae (plain a b c d e).1 (plain a b c d e).2.1 (plain a b c d e).2.2 gb ho hl hk hg hf hn
 generalize hxe:qU l i=x at*;obtain⟨hZ,iu,oJ,fZ⟩:=s;dsimp only at hi fI ea hr keep ⊢;unfold aZ;have rW:∀v:Int,x.1≠14→x.1≠17→x.1≠15→x.1≠18→x.1≠19→0≤v∧v<18446744073709551616→Y9 l ⟨hZ,iu,oJ,fZ⟩ V ⟨0,oJ+1,false,b9 ⟨hZ,iu,oJ,fZ⟩ x.2.1 v,V⟩ :=
  λv a b c d e hv=>keep a b c d e (G.gb.b9 hv) rfl (Nat.le_refl _) (.refl V) G.ap omQ nofun
 have jump:∀n:Int,(x.1=12∨x.1=13)→(n=x.2.2.2.1∨n=oJ+1)→Y9 l ⟨hZ,iu,oJ,fZ⟩ V ⟨0,n,false,⟨hZ,iu,oJ,fZ⟩,V⟩:=by
  intro n ho hn;rcases hn with rfl |rfl
  ·obtain⟨c,c1,c2,c3⟩:=RD ho;refine⟨G.gb,G.ap,Nat.le_succ _,rfl,rfl,rfl,λ_ _=>⟨⟨G.gb.aa,G.gb.out,G.gb.its⟩,⟨c,c1,c2⟩,G.mQ,G.told,?_,G.lv,G.ap⟩,λh=>(by grind),λh=>(by rfl)⟩;grind
  ·exact keep omQ omQ omQ omQ omQ G.gb rfl (Nat.le_refl _) (.refl V) G.ap omQ nofun
 by_cases c1:x.1=1
 ·grind
 rw[iQ c1];by_cases c2:x.1=2
 ·grind
 rw[iQ c2];by_cases c3:x.1=3
 ·rw[iJ c3];exact rW _ omQ omQ omQ omQ omQ (I0 _)
 rw[iQ c3];by_cases c4:x.1=4
 ·rw[iJ c4];exact rW _ omQ omQ omQ omQ omQ (I0 _)
 rw[iQ c4];by_cases c5:x.1=5
 ·rw[iJ c5];exact rW _ omQ omQ omQ omQ omQ (I0 _)
 rw[iQ c5];by_cases c6:x.1=6
 ·rw[iJ c6];exact rW _ omQ omQ omQ omQ omQ (qXl _)
 rw[iQ c6];by_cases c7:x.1=7
 ·rw[iJ c7];exact rW _ omQ omQ omQ omQ omQ (qXl _)
 rw[iQ c7];by_cases iw:x.1=12
 ·grind
 rw[iQ iw];by_cases lD:x.1=13
 ·grind
 rw[iQ lD];by_cases iM:x.1=21
 ·rw[iJ iM];have hk:∀e:Int,e≠11→Y9 l ⟨hZ,iu,oJ,fZ⟩ V ⟨e,oJ+1,false,⟨hZ,iu,oJ,fZ⟩,V⟩:=λe he=>
   keep omQ omQ omQ omQ omQ G.gb rfl (Nat.le_refl _) (.refl V) G.ap (Nat.le_succ _) λh=>absurd h he
  by_cases hlen:16≤iu.length
  ·grind
  ·rw[iQ hlen];refine keep omQ omQ omQ omQ omQ ⟨G.gb.aa,?_,?_⟩ rfl ?_ (.refl V) G.ap (Nat.le_succ _) nofun
   ·grind
   ·intro y hy;rcases List.mem_append.1 hy with hy |hy
    ·exact G.gb.its y hy
    ·rw[List.mem_singleton]at hy;subst hy;exact hr _
   simp
 rw[iQ iM];by_cases lN:x.1=22
 ·rw[iJ lN];exact keep omQ omQ omQ omQ omQ G.gb rfl (Nat.le_refl _) (.refl V) G.ap (Nat.le_succ _) nofun
 rw[iQ lN];by_cases c8:x.1=8∨x.1=9∨x.1=10∨x.1=11
 ·rw[iJ c8];obtain⟨t1,t2,t3,t4,t5,t6,t7,t8⟩:=qZT G hf;exact keep omQ omQ omQ omQ omQ t1 t2 (by grind) t5 t6 t7 t8
 rw[iQ c8];unfold yL;by_cases h:x.1=14∨x.1=17
 ·rw[iJ h];subst hi;have hb:ze x.1=true:=by grind
  have he:¬0<zZ x.1:=by grind
  have key:=Vo (l:=l) (s:=⟨hZ,iu,(i:Int),fZ⟩) (V:=V) (op:=x.1) (p:=i) (st:=qL l i) G.gb ae ⟨by omega,by grind⟩ G.mQ G.told fI (by rw[RE];unfold jD;grind) G.lv (by grind) G.ap;obtain⟨k1,k2,k3,k4,k5⟩:=key;have RC:=G.ap.th;refine⟨k4.gb |> λg=>⟨g.aa,g.out,g.its⟩,k4.ap,?_,?_,?_,?_,λ_ _=>?_,λh=>(by grind),λh=>(by grind)⟩
  ·grind
  ·rw[k5];rfl
  ·rw[k5];rfl
  ·rw[k5];rfl
  grind
 rw[iQ h];by_cases h:x.1=15∨x.1=19
 ·rw[iJ h];have he:0<zZ x.1:=by grind
  have bG:=tW.2.1 (.inl he)
  match fZ,ea,fI,G with
  |[],ea,_,_=>grind
  |p::o,ea,fI,G=>
   have hk:=wo (V:=V) (by rw[G.lv];simp);have tp:=G.ap.A1 omQ;have fN:=G.lv
   refine⟨⟨G.gb.aa,G.gb.out,G.gb.its⟩,tp.1,by grind,rfl,rfl,rfl,λ_ _=>⟨⟨G.gb.aa,G.gb.out,G.gb.its⟩,⟨i+1,by grind,by omega⟩,λq hq=>G.mQ q (iX _ hq),G.told.tail,?_,?_,tp.1⟩,λh0=>(by
    grind),λh=>(by grind)⟩
   ·rw[hi,show((i:Int)+1).toNat=i+1 by rfl,RE];unfold jD;grind
   grind
 rw[iQ h];by_cases h:x.1=18
 ·rw[iJ h];have he:0<zZ x.1:=by grind
  have bG:=tW.2.1 (.inl he);obtain⟨e,e1,e2,e3,e4,e5⟩:=hmb (.inr (.inr h));have DF:(qU l (e:Int)).1=19:=by
   grind[zZ]
  match fZ,ea,fI,G with
  |[],ea,_,_=>grind
  |p::o,ea,fI,G=>
   have hk:=wo (V:=V) (by rw[G.lv];simp);have tp:=G.ap.A1 omQ;have fN:=G.lv
   refine⟨⟨G.gb.aa,G.gb.out,G.gb.its⟩,tp.1,by grind,rfl,rfl,rfl,λ_ _=>⟨⟨G.gb.aa,G.gb.out,G.gb.its⟩,⟨e+1,by grind,by omega⟩,λq hq=>G.mQ q (iX _ hq),G.told.tail,?_,?_,tp.1⟩,λh0=>(by
    grind),λh=>(by grind)⟩
   ·rw[hi,e1,show((e:Int)+1).toNat=e+1 by rfl,jb,e5,RE];unfold jD;rw[iQ (by rw[DF];decide),iJ (by grind),iJ (.inr h),iJ he,List.dropLast_concat];grind
   grind
 rw[iQ h];by_cases h:x.1=16
 ·rw[iJ h];obtain⟨e,e1,e2,e3,e4,bG⟩:=hmu h
  match fZ,ea,fI,G with
  |[],ea,_,_=>grind
  |p::o,ea,fI,G=>
   have hk:=Qq (V:=V) (by rw[G.lv];simp);have tp:=G.ap.dy;have fN:=G.lv;have P:=G.mQ p (iK ..);have told:=G.told;have A4:=G.gb.back P
   refine⟨⟨A4.aa,A4.out,A4.its⟩,tp.1,by grind,rfl,rfl,rfl,λ_ _=>⟨⟨A4.aa,A4.out,A4.its⟩,⟨e+1,by grind,by omega⟩,λq hq=>G.mQ q (iX _ hq),?_,?_,?_,tp.1⟩,λh0=>(by
    grind),λh=>(by grind)⟩
   ·show cH (iu.take p.told).length o;rw[List.length_take,Nat.min_eq_left told.1];exact told.2
   ·rw[hi,e1,show((e:Int)+1).toNat=e+1 by rfl,jb,e4];unfold jD;rw[iQ (by rw[e3];decide),iJ (by rw[e3];decide)];grind
   grind
 ·rw[iQ h];exact qJu F fZ _ V (qL l i) (Mt i) fI G.gb G.mQ G.told G.lv G.ap (Nat.le_refl _) rfl rfl rfl
end
section
variable {g h:AH} {L R:List SP}
theorem yj {b off n sz a:Nat} {k:IntKind} {K:AV→Go.Ae.R} {Q:AV→AH→Prop} (ha:a<n) (w:wp (K (.ptr b (off+a*sz))) Q):wp (gp (.ptr b off) (.int k (a:Int)) n sz K) Q:=by unfold gp;show wp (bif Nat.ble (a+1) n then _ else none) Q;rw[iY (show a+1≤n from ha)];exact w
theorem RG {z:Int} (h0:0≤z):∃a:Nat,z.tmod ((8:Nat):Int)=a∧a<8∧(z<8→z=a):=by refine⟨(z%8).toNat,?_,by omega,λh=>by omega⟩;grind
def Zn (r:List Int):List AV:=[.int .u64 (qP r 0),.int .u64 (qP r 1),.int .u64 (qP r 2),.int .u64 (qP r 3),.int .u64 (qP r 4),.int .u64 (qP r 5),.int .u64 (qP r 6),.int .u64 (qP r 7)]
def vH (p:cy):List AV:=[.int .i64 p.op,.int .i64 p.pc,.int .u64 (qP p.aa 0),.int .u64 (qP p.aa 1),.int .u64 (qP p.aa 2),.int .u64 (qP p.aa 3),.int .u64 (qP p.aa 4),.int .u64 (qP p.aa 5),.int .u64 (qP p.aa 6),.int .u64 (qP p.aa 7),.int .i64 (p.told:Int)]
def wJ (c mv ov:AV) (v o:Nat) (bad err fin left nx pc:Int) (r:List Int):List AV :=
 [c,.ptr v 0,mv,.int .i64 bad,.int .i64 err,.int .i64 fin,.int .u64 (qP r 0),.int .u64 (qP r 1),.int .u64 (qP r 2),.int .u64 (qP r 3),.int .u64 (qP r 4),.int .u64 (qP r 5),.int .u64 (qP r 6),.int .u64 (qP r 7),
  .ptr o 0,.int .i64 pc,.int .i64 nx,.int .i64 left,ov]
section
variable {c mv ov:AV} {v o:Nat} {bad err fin left nx pc:Int} {r:List Int}
theorem Yn {a:Nat} (ha:a<8):(wJ c mv ov v o bad err fin left nx pc r)[6+a*1]? =some (.int .u64 (qP r (a:Int))):=by
 rcases(show a=0∨a=1∨a=2∨a=3∨a=4∨a=5∨a=6∨a=7 by omega)with rfl |rfl |rfl |rfl |rfl |rfl |rfl |rfl<;>rfl
theorem Mb {i k:Nat} {z:Int} (hi:i<r.length):qP (r.set i z) (k:Int)=if i=k then z else qP r (k:Int):=by
 unfold qP;grind
theorem qg4 {a:Nat} {z:Int} (hr:r.length=8) (ha:a<8):(wJ c mv ov v o bad err fin left nx pc r).set (6+a*1) (.int .u64 z)=wJ c mv ov v o bad err fin left nx pc (r.set a z):=by have hs:=λk:Nat=>Mb (r:=r) (i:=a) (k:=k) (z:=z) omQ;have e0:=hs 0;have e1:=hs 1;have e2:=hs 2;have e3:=hs 3;have e4:=hs 4;have e5:=hs 5;have e6:=hs 6;have e7:=hs 7;simp only[show((0:Nat):Int)=0 from rfl,show((1:Nat):Int)=1 from rfl,show((2:Nat):Int)=2 from rfl,show((3:Nat):Int)=3 from rfl,show((4:Nat):Int)=4 from rfl,show((5:Nat):Int)=5 from rfl,show((6:Nat):Int)=6 from rfl,show((7:Nat):Int)=7 from rfl]at e0 e1 e2 e3 e4 e5 e6 e7;unfold wJ;rw[e0,e1,e2,e3,e4,e5,e6,e7];rcases(show a=0∨a=1∨a=2∨a=3∨a=4∨a=5∨a=6∨a=7 by omega)with rfl |rfl |rfl |rfl |rfl |rfl |rfl |rfl<;>rfl
end
def aB (x v:Nat) (l:List qe) (bad:Int) (mt:List Int) (s:IM) (err fin left nx:Int):SP:=.ex λc=>.ex λmv=>.ex λov=>.ex λo=>.all
 [qx x (wJ c mv ov v o bad err fin left nx s.pc s.aa),qF 77 5 l.length c (l.flatMap jG),qF 3 1 mt.length mv (mt.map (.int .i64)),bz o s.out,qF 348 11 s.ay.length ov (s.ay.reverse.flatMap vH)]
section
variable {x v:Nat} {l:List qe} {bad:Int} {mt:List Int} {s:IM} {err fin left nx:Int}
theorem aB.E (H:HS g h (aB x v l bad mt s err fin left nx::R)):∃c mv ov o,HS g h (qx x (wJ c mv ov v o bad err fin left nx s.pc s.aa)::qF 77 5 l.length c (l.flatMap jG)::qF 3 1 mt.length mv (mt.map (.int .i64))::bz o s.out::
  qF 348 11 s.ay.length ov (s.ay.reverse.flatMap vH)::R):=by
 obtain⟨c,H⟩:=H.dj;obtain⟨mv,H⟩:=H.dj;obtain⟨ov,H⟩:=H.dj;obtain⟨o,H⟩:=H.dj;exact⟨c,mv,ov,o,H.bS⟩
theorem aB.I {c mv ov:AV} {o:Nat} (H:HS g h (qx x (wJ c mv ov v o bad err fin left nx s.pc s.aa)::qF 77 5 l.length c (l.flatMap jG)::qF 3 1 mt.length mv (mt.map (.int .i64))::bz o s.out::
  qF 348 11 s.ay.length ov (s.ay.reverse.flatMap vH)::R)):HS g h (aB x v l bad mt s err fin left nx::R) :=
 HS.dE c (HS.dE mv (HS.dE ov (HS.dE o H.allI)))
theorem qgp {n o:Nat} (hn:1≤n) {l:List lM} (H:HS g h (bz o l::R)):af n 356 [.ptr o 0] h λr h'=>r=.int .i64 (l.length:Int)∧h'=h:=by
 refine ag rfl omQ λk hk=>?_;unfold S356;try simp only
 obtain⟨sv,H⟩:=bz.E H;refine qK (qQ (qZ ‹_› .here rfl ?_));refine qd ‹_› e_1<|qY ⟨rfl,rfl⟩
theorem qk8 {n o:Nat} (hn:1≤n) {l:List lM} {x:lM} (H:HS g h (bz o l::R)) (hl:l.length≤16) :
  af n 266 [.ptr o 0,Qu x] h λr h'=>r=.bool (decide (l.length<16))∧HS g h' (bz o (if l.length<16 then l++[x]else l)::R):=by
 refine aG rfl omQ λk hk=>?_;unfold S266;try simp only[iZ]
 obtain⟨sv,H⟩:=bz.E H;by_cases h1:l.length<16
 ·rw[iJ h1,iG h1];refine qK (qQ (qZ ‹_› .here rfl ?_));refine qd ‹_› e_1<|jz omQ<|qJ (qK (qQ (qZ ‹_› .here rfl ?_)))
  refine qr H rfl rfl (by
   have e:=(YV x).1
   simp only[vG,e,gA];rfl) (ya (YV x)) λv2 h2 H2=>?_
  refine jh (H2.ah e_2) (H2.sl .here) omQ omQ (ya (YV x)) λv3 h3 H3=>?_;have o3:=H3.one .here;refine qK (qQ (qw H3 e_2 o3 aA λh4 H4=>?_));refine qY ⟨rfl,bz.I (sv:=v3) ?_⟩;rw[List.length_append,List.map_append];exact H4.pk [0,0] 1
 ·rw[iQ h1,iV h1];refine qK (qQ (qZ ‹_› .here rfl ?_));refine qd ‹_› e_1<|jA omQ<|qX<|qY ⟨rfl,bz.I H⟩
theorem qx6 {n o:Nat} (hn:2≤n) {l:List lM} {u:Int} (H:HS g h (bz o l::R)) (hl:l.length≤16) :
  af n 237 [.ptr o 0,.int .u64 u] h λr h'=>r=.bool (decide (l.length<16))∧HS g h' (bz o (if l.length<16 then l++[(1,u)]else l)::R):=by
 refine aG rfl omQ λk hk=>?_;unfold S237;try simp only
 refine qW (qk8 (x:=(1,u)) omQ H hl) ?_;rintro _ h2 ⟨rfl,H2⟩;exact qY ⟨rfl,H2⟩
theorem NG {n m:Nat} (hn:1≤n) {e:TypeId} {v:AV} {xs:List AV} (H:HS g h L) (s:aR L (qF e 1 m v xs) R) (ha:jV xs=true) (hm:m≤1000000) :
  af n 188 [v] h λr h'=>HS g h' (qF 20 1 m r xs::L):=by
 refine ag rfl omQ λk hk=>?_;unfold S188;try simp only
 refine Xo H s (λh1 h2=>?_) ?_
 ·subst h1 h2;have hx:xs=[]:=iA (by simpa using H.dl s);subst hx;exact qX (qY H.ad)
 ·refine qJ (qr (l:=[]) H rfl rfl rfl rfl λv2 h2 H2=>?_);refine jh H2 (H2.sl (.there s)) omQ omQ ha λv3 h3 H3=>?_;rw[Nat.zero_add,List.nil_append]at H3;exact qY H3
theorem qYs {n o:Nat} (hn:2≤n) {l:List lM} (H:HS g h (bz o l::R)) (hl:l.length≤16) :
  af n 142 [.ptr o 0] h λr h'=>∃p,r=.ptr p 0∧HS g h' (bz p l::bz o l::R):=by
 refine ag rfl omQ λk hk=>?_;unfold S142;try simp only
 obtain⟨sv,H⟩:=bz.E H;refine qK (qQ (qZ ‹_› .here rfl ?_));refine qW (NG omQ H e_1 (VH l) omQ) ?_;intro cv h2 H2;have oc:=H2.one .here;refine qy (by simp only[vG,oc.1];rfl)<|qH H2 (ya oc) λp h3 H3=>qY ⟨p,rfl,?_⟩;have H4:=bz.I (o:=p) (l:=l) (sv:=cv) (R:=qx o [sv]::qF 20 1 l.length sv (l.map Qu)::R) H3;exact HS.dh e_1 (bz.I (sv:=sv) (H4.pk [1,1,0] 0))
theorem qk3 {n o m:Nat} (hn:2≤n) {l:List lM} (H:HS g h (bz o l::R)) (hl:l.length≤16) (hm:m≤l.length) :
  af n 358 [.ptr o 0,.int .i64 (m:Int)] h λ_ h'=>HS g h' (bz o (l.take m)::R):=by
 refine aG rfl omQ λk hk=>?_;unfold S358;try simp only[iZ]
 obtain⟨sv,H⟩:=bz.E H;refine qK (qQ (qZ ‹_› .here rfl ?_));refine qK (qQ (qZ ‹_› .here rfl ?_));refine qd ‹_› e_1<|zS (zu ?_);rw[show max ((0:Nat):Int) (min (m:Int) (l.length:Int))=(m:Int) by omega];refine gM (H.ah e_1) omQ hm λv2 H2=>?_;rw[Nat.mul_one,← List.map_take]at H2;refine qW (NG omQ H2 .here (VH _) omQ) ?_;intro cv h3 H3;have oc:=H3.one .here;refine qK (qQ (qw H3 e_2 oc aA λh4 H4=>?_));refine qY (bz.I (sv:=cv) ?_);rw[show(l.take m).length=m by grind];exact H4.pk [0,0] 1
theorem Nk {n:Nat} (hn:1≤n) {p:Prop} [Decidable p]:af n 236 [.bool (decide p)] h λr h'=>r=.int .u64 (wa p)∧h'=h:=by
 refine ag rfl omQ λk hk=>?_;unfold S236;try simp only[iZ]
 unfold wa;by_cases hp:p
 ·rw[iG hp,iJ hp];exact qX (qY ⟨rfl,rfl⟩)
 ·rw[iV hp,iQ hp];exact qJ (qY ⟨rfl,rfl⟩)
theorem O9 {n:Nat} (hn:1≤n) {e:Int} (H:HS g h (aB x v l bad mt s err fin left nx::R)) :
  af n 205 [.ptr x 0,.int .i64 e] h λ_ h'=>HS g h' (aB x v l bad mt s e 4 left nx::R):=by
 refine aG rfl omQ λk hk=>?_;unfold S205;try simp only[iZ]
 obtain⟨c,mv,ov,o,H⟩:=aB.E H;unfold wJ at H;refine qK (qQ (qw H .here ⟨rfl,rfl⟩ aA λh1 H1=>?_));refine qK (qQ (qw H1 .here ⟨rfl,rfl⟩ aA λh2 H2=>?_));exact qY (aB.I H2)
theorem qk0 {n:Nat} (hn:1≤n) (H:HS g h (aB x v l bad mt s err fin left nx::R)):af n 161 [.ptr x 0] h λr h'=>r=.int .i64 err∧h'=h:=by
 refine ag rfl omQ λk hk=>?_;unfold S161;try simp only
 obtain⟨c,mv,ov,o,H⟩:=aB.E H;unfold wJ at H;refine qK (qQ (qZ ‹_› .here rfl ?_));exact qY ⟨rfl,rfl⟩
theorem qGt {n:Nat} (hn:3≤n) (H:HS g h (aB x v l bad mt s err fin left nx::R)) (hl:s.out.length≤16) :
  af n 89 [.ptr x 0] h λr h'=>∃p,r=.ptr p 0∧HS g h' (bz p s.out::aB x v l bad mt s err fin left nx::R):=by
 refine ag rfl omQ λk hk=>?_;unfold S89;try simp only
 obtain⟨c,mv,ov,o,H⟩:=aB.E H;unfold wJ at H;refine qK (qQ (qZ ‹_› .here rfl ?_));refine qW (qYs omQ (H.ah e_3) hl) ?_;rintro _ h2 ⟨p,rfl,H2⟩;refine qY ⟨p,rfl,?_⟩;exact HS.dh e_1 (aB.I (mv:=mv) (ov:=ov) (H2.pk [2,2,2,1,1] 0))
theorem Mm {n:Nat} (hn:1≤n) {b off:Int} (hb:0≤b∧b<18446744073709551616) (ho:0≤off∧off≤100):af n 281 [.int .u64 b,.int .i64 off] h λr h'=>r=.bm [.int .i64 (zF b off).1,.int .i64 (zF b off).2]∧h'=h:=by
 refine aG rfl omQ λk hk=>?_;unfold S281;try simp only[iZ]
 unfold zF;by_cases h1:2147483648≤b
 ·rw[iJ (.inl h1)];refine jA omQ<|qG<|qf<|qC (qG ?_);refine qf<|qC (qX ?_)
  exact qY ⟨rfl,rfl⟩
 ·refine jz omQ<|qG<|qM<|zx omQ<|qS omQ ?_
  by_cases h2:2147483648≤b+off
  ·rw[iJ (.inr (.inl h2))];refine jA omQ<|qB (qG ?_);refine qf<|qC (qX ?_)
   exact qY ⟨rfl,rfl⟩
  ·refine jz omQ<|qB (qG ?_);refine qM<|zx omQ<|qS omQ ?_
   by_cases h3:b+off<6
   ·rw[iJ (.inr (.inr h3))];refine jB omQ<|qB (qX ?_);exact qY ⟨rfl,rfl⟩
   ·rw[iQ omQ];refine jk omQ<|qB (qJ (zx omQ ?_));refine qS omQ<|qY ⟨rfl,rfl⟩
theorem Om {most:Nat} {lv:List ba} {p z:Int} (h:¬(vk most lv p z).1=0):(vk most lv p z).2=lv:=by
 cases lv with
 |nil=>rfl
 |cons y r=>
  unfold vk at h ⊢;grind
theorem qGS {n:Nat} (hn:6≤n) {v:Nat} {M:VM} {p z:Int} (H:HS g h (ab v M::R)) (O:cU M) :
  af n 282 [.ptr v 0,.int .i64 p,.int .u64 z] h λr h'=>r=.int .i64 (zq M [(p,z)]).1∧HS g h' (ab v (zq M [(p,z)]).2::R):=by
 refine b8 rfl omQ λk hk=>?_;unfold S282;try simp only[iZ]
 refine qW (ON omQ H) ?_;rintro _ _ ⟨rfl,rfl⟩;by_cases hp:1≤p∧p<M.sz
 ·rw[iG hp];obtain⟨fv,ov,q,e,H⟩:=ab.E H;refine jQ (qJ (qK (qQ (qZ ‹_› .here rfl ?_))));refine qW (qXf omQ (H.ah e_3) O.eR) ?_;rintro _ h2 ⟨rfl,H2⟩;have e2:zq M [(p,z)]=((vk M.most M.lv p z).1,{ M with lv:=(vk M.most M.lv p z).2 }):=by
   unfold zq;rw[iJ (by grind),vC]
   split
   ·rename_i h0;rw[h0];rfl
   grind[Om]
  rw[e2];exact qY ⟨rfl,ab.I (fv:=fv) (ov:=ov) (H2.pk [1,1,1] 0)⟩
 ·rw[iV hp];have e2:zq M [(p,z)]=(2,M):=by
   simp_all[zq,iQ]
  rw[e2];refine jg (qX ?_);exact qY ⟨rfl,H⟩
end
end
section
variable {g h:AH} {L R:List SP}
section
variable {x v:Nat} {l:List qe} {bad:Int} {mt:List Int} {s:IM} {err fin left nx:Int}
theorem qqR (o:List cy):(o.reverse.flatMap vH).length=o.length*11:=by rw[vD (sz:=11) _ (λ_=>rfl),List.length_reverse]
theorem qzm (p:cy):jV (vH p)=true:=rfl
theorem MR (p:cy) (o:List cy):(p::o).reverse.flatMap vH=o.reverse.flatMap vH++vH p:=by simp
theorem Xe {n:Nat} (hn:1≤n) {p:cy} {o:List cy} (ho:s.ay=p::o) (dJ:o.length≤100) (H:HS g h (aB x v l bad mt s err fin left nx::R)) :
  af n 286 [.ptr x 0] h λr h'=>r=.agg (vH p)∧HS g h' (aB x v l bad mt { s with ay:=o } err fin left nx::R):=by
 refine ag rfl omQ λk hk=>?_;unfold S286;try simp only[iZ]
 obtain⟨c,mv,ov,q,H⟩:=aB.E H;rw[ho,MR,List.length_cons]at H;have ea:=qqR o;generalize hA:o.reverse.flatMap vH=A at*;unfold wJ at H;refine qH H rfl λb0 h1 H1=>?_;refine qK (qQ (qZ ‹_› e_1 rfl ?_));refine qK (qQ (qZ ‹_› e_1 rfl ?_));refine qd ‹_› e_5<|jK omQ ?_;rw[show((o.length+1:Nat):Int)-((1:Nat):Int)=(o.length:Int) by omega]
 refine zj (l:=vH p) (H1.sl e_5) omQ omQ (by
  rw[List.drop_append_of_le_length omQ,List.drop_of_length_le omQ,List.nil_append];rfl) ?_
 refine qH H1 rfl λb2 h3 H3=>qh H3 .here rfl (by simp) rfl λh4 H4=>?_
 have H5:HS g h4 (qx b2 (vH p)::qx b0 [.int .i64 ((0:Nat):Int),.int .i64 ((0:Nat):Int),.int .u64 ((0:Nat):Int),.int .u64 ((0:Nat):Int),.int .u64 ((0:Nat):Int),.int .u64 ((0:Nat):Int),.int .u64 ((0:Nat):Int),.int .u64 ((0:Nat):Int),.int .u64 ((0:Nat):Int),.int .u64 ((0:Nat):Int),.int .i64 ((0:Nat):Int)]::
  qx x (wJ c mv ov v q bad err fin left nx s.pc s.aa)::qF 77 5 l.length c (l.flatMap jG)::qF 3 1 mt.length mv (mt.map (.int .i64))::bz q s.out::
  qF 348 11 (o.length+1) ov (A++vH p)::R):=H4
 unfold wJ at H5;refine qK (qQ (qZ ‹_› e_2 rfl ?_));refine qK (qQ (qZ ‹_› e_2 rfl ?_));refine qd ‹_› e_6<|jK omQ ?_;rw[show((o.length+1:Nat):Int)-((1:Nat):Int)=(o.length:Int) by omega];refine gM (hi:=o.length) (H5.ah e_6) omQ omQ λv6 H6=>?_;rw[List.take_append_of_le_length omQ,List.take_of_length_le omQ]at H6;have o6:=H6.one .here;refine qK (qQ (qw H6 e_3 o6 aA λh7 H7=>?_));refine qD H7 e_2 rfl omQ rfl<|qh H7 e_3 rfl (by simp) rfl λh8 H8=>?_
 have H8:HS g h8 (qx b0 (vH p)::qx x (wJ c mv v6 v q bad err fin left nx s.pc s.aa)::qF 348 11 o.length v6 A::qx b2 (vH p)::
  qF 77 5 l.length c (l.flatMap jG)::qF 3 1 mt.length mv (mt.map (.int .i64))::bz q s.out::R):=H8
 refine qD H8 .here rfl omQ rfl<|qY ⟨rfl,aB.I (c:=c) (mv:=mv) (ov:=v6) (o:=q) ?_⟩
 show HS g h8 (qx x (wJ c mv v6 v q bad err fin left nx s.pc s.aa)::qF 77 5 l.length c (l.flatMap jG)::qF 3 1 mt.length mv (mt.map (.int .i64))::bz q s.out::
  qF 348 11 o.length v6 (o.reverse.flatMap vH)::R)
 rw[hA];exact H8.pk [1,3,3,3,1] 2
theorem ZD {n:Nat} (hn:3≤n) {p:cy} (ht:p.told≤s.out.length) (hl:s.out.length≤16) (H:HS g h (aB x v l bad mt s err fin left nx::R)) :
  af n 288 [.ptr x 0,.agg (vH p)] h λ_ h'=>HS g h' (aB x v l bad mt (gr s p) err fin left nx::R):=by
 refine aG rfl omQ λk hk=>?_;unfold S288;try simp only
 refine qH H (qzm p) λb0 h1 H1=>?_;obtain⟨c,mv,ov,q,H2⟩:=aB.E (H1.ah e_1);refine qQ (qD H2 e_5 rfl omQ rfl ?_);refine qK (qQ ?_);refine qh H2 .here rfl (by show 6+8≤19;omega) rfl λh3 H3=>?_
 have H3:HS g h3 (qx x (wJ c mv ov v q bad err fin left nx s.pc p.aa)::qF 77 5 l.length c (l.flatMap jG)::qF 3 1 mt.length mv (mt.map (.int .i64))::bz q s.out::
  qF 348 11 s.ay.length ov (s.ay.reverse.flatMap vH)::qx b0 (vH p)::R):=H3
 have H4:=H3;unfold wJ vH at H4;refine qK (qQ (qZ ‹_› .here rfl ?_));refine qQ (qZ ‹_› e_5 rfl ?_);refine qW (qk3 omQ (H3.ah e_3) hl ht) ?_;intro _ h5 H5;exact qY (aB.I (mv:=mv) (ov:=ov) (H5.pk [1,1,1,0,0] 1))
theorem M9 {n:Nat} (hn:5≤n) {op at_ nx0:Int} {V:VM} (O:cU V) (dJ:s.ay.length≤100) (H:HS g h (aB x v l bad mt s err fin left nx::ab v V::R)) :
  af n 285 [.ptr x 0,.int .i64 op,.int .i64 at_] h λr h'=>r=.int .i64 (zW op at_ nx0 s V).e∧HS g h' (aB x v l bad mt (zW op at_ nx0 s V).s err fin left nx::ab v (zW op at_ nx0 s V).v::R):=by
 refine b8 rfl omQ λk hk=>?_;unfold S285;try simp only[iZ]
 obtain⟨c,mv,ov,q,H⟩:=aB.E H;unfold wJ at H;refine qK (qQ (qZ ‹_› .here rfl ?_));refine qW (qq3 omQ (H.ah e_5) O) ?_;rintro _ h2 ⟨rfl,H2⟩
 have H2:HS g h2 (ab v (xN V).2::qx x (wJ c mv ov v q bad err fin left nx s.pc s.aa)::qF 77 5 l.length c (l.flatMap jG)::qF 3 1 mt.length mv (mt.map (.int .i64))::bz q s.out::
  qF 348 11 s.ay.length ov (s.ay.reverse.flatMap vH)::R):=H2
 unfold zW;by_cases h0:(xN V).1=0
 ·rw[iJ h0];refine q9 h0 (qJ ?_);have H3:=H2;unfold wJ at H3;refine qG ?_
  try dsimp only
  refine qK (qQ ?_);refine qZ H2 e_1 rfl<|qK (qQ ?_);refine qD H2 e_1 rfl omQ rfl<|qK (qQ ?_);refine qZ H2 e_1 rfl<|qW (qgp omQ (H2.ah e_4)) ?_;rintro _ _ ⟨rfl,rfl⟩;refine qy rfl<|qr H2 rfl rfl rfl rfl λv4 h4 H4=>?_;refine jh (H4.ah e_6) (H4.sl .here) omQ omQ rfl λv5 h5 H5=>?_;have o5:=H5.one .here;refine qK (qQ ?_);refine qw H5 e_3 o5 (by show 18<19;omega) λh6 H6=>?_;refine zO H2 e_1 rfl H2 e_1 rfl rfl omQ (HS.lt H2 e_1)<|qu H2 e_1 rfl H2 e_1 rfl (HS.lt H2 e_1)<|qY ⟨rfl,aB.I (c:=c) (mv:=mv) (ov:=v5) (o:=q) ?_⟩
  show HS g h6 (qx x (wJ c mv v5 v q bad err fin left nx s.pc s.aa)::qF 77 5 l.length c (l.flatMap jG)::qF 3 1 mt.length mv (mt.map (.int .i64))::bz q s.out::
   qF 348 11 (s.ay.length+1) v5 ((⟨op,at_,s.aa,s.out.length⟩::s.ay).reverse.flatMap vH)::ab v (xN V).2::R)
  rw[MR];exact H6.pk [0,3,3,3,0] 1
 ·rw[iQ h0];refine jJ h0 (qX ?_);exact qY ⟨rfl,aB.I (mv:=mv) (ov:=ov) (H2.pk [1,1,1,1,1] 0)⟩
end
end
section
variable {g h:AH} {L R:List SP}
section
variable {x v:Nat} {l:List qe} {bad:Int} {mt:List Int} {s:IM} {err fin left nx:Int}
def dw (mt:List Int) (p:Int):Prop:=∃k:Nat,p=k∧∃z:Int,mt[k]? =some z∧ -1≤z∧z≤1000
theorem dw.num {mt:List Int} {p z:Int} {k:Nat} (h1:p=k) (h2:mt[k]? =some z):qP mt p=z:=by grind[qP,Int.toNat_natCast]
theorem dw.idx {mt:List Int} {k:Nat} {z:Int} (h:mt[k]? =some z):(mt.map (AV.int .i64))[k]? =some (.int .i64 z)∧k<mt.length:=by grind
theorem qWA {n:Nat} (hn:8≤n) {V:VM} (G:ju V) (dJ:s.ay.length≤100) (fw:s.out.length≤16) (told:cH s.out.length s.ay) (hm:∀p∈s.ay,p.op=17→dw mt p.pc) (_:0≤s.pc∧s.pc≤100)
  (H:HS g h (aB x v l bad mt s err 0 left (s.pc+1)::ab v V::R)) :
  af n 290 [.ptr x 0] h λr h'=>r=.int .i64 (xw mt s.ay s V).e∧
   HS g h' (aB x v l bad mt (xw mt s.ay s V).s err (if(xw mt s.ay s V).bf=true then 3 else 0) left (xw mt s.ay s V).nx::ab v (xw mt s.ay s V).v::R):=by
 refine ag rfl omQ λk hk=>?_;unfold S290;try simp only[iZ]
 generalize hD:xw mt s.ay s V=D;have hs:s={ s with ay:=s.ay }:=rfl;refine jF (λm st h'=>∃(o:List cy) (V':VM),st=(.ptr x 0,())∧m=o.length∧o.length≤100∧HS g h' (aB x v l bad mt { s with ay:=o } err 0 left (s.pc+1)::ab v V'::R)∧ju V'∧cH s.out.length o∧(∀p∈o,p.op=17→dw mt p.pc)∧xw mt o s V'=D)
  ?_ omQ ⟨s.ay,V,rfl,rfl,dJ,H,G,told,hm,hD⟩
 rintro m ih st h2 aY ⟨o,V,rfl,rfl,dJ,H,G,told,hm,hD⟩;obtain⟨c,mv,ov,q,H1⟩:=aB.E H
 have H1:HS g h2 (qx x (wJ c mv ov v q bad err 0 left (s.pc+1) s.pc s.aa)::qF 77 5 l.length c (l.flatMap jG)::qF 3 1 mt.length mv (mt.map (.int .i64))::bz q s.out::
  qF 348 11 o.length ov (o.reverse.flatMap vH)::ab v V::R):=H1
 refine qK (qQ (qZ H1 .here rfl ?_));refine qd H1 e_4 ?_;cases o with
 |nil=>refine zV aA (qJ ?_);refine qK (qQ (qZ H1 .here rfl ?_));refine qK (qQ ?_);refine qw H1 .here ⟨rfl,rfl⟩ (by show 16<19;omega) λh3 H3=>?_;refine qK (qQ ?_);refine qw H3 .here ⟨rfl,rfl⟩ (by show 5<19;omega) λh4 H4=>?_;subst hD;exact qg (qY ⟨rfl,aB.I (mv:=mv) (ov:=ov) H4⟩)
 |cons p o=>
  refine zv (by simp) (qX ?_);refine qW (Xe omQ rfl (by grind) H) ?_;rintro _ h3 ⟨rfl,H3⟩;refine qH H3 rfl λb h4 H4=>qh H4 .here rfl (by simp) rfl λh5 H5=>?_;obtain⟨c,mv,ov,q,H6⟩:=aB.E (H5.ah e_1)
  have H6:HS g h5 (qx x (wJ c mv ov v q bad err 0 left (s.pc+1) s.pc s.aa)::qF 77 5 l.length c (l.flatMap jG)::qF 3 1 mt.length mv (mt.map (.int .i64))::bz q s.out::
   qF 348 11 o.length ov (o.reverse.flatMap vH)::qx b (vH p)::ab v V::R):=H6
  refine qK (qQ (qZ H6 .here rfl ?_));refine qW (OU omQ (H5.ah e_2) G.ok) ?_;rintro _ h6 ⟨rfl,H6⟩;have GD:=G.dy;unfold xw at hD;by_cases h0:(zN V).1=0
  ·rw[iJ h0]at hD;refine q9 h0 (qJ ?_);refine qQ (qZ H6 e_1 rfl ?_);by_cases lV:p.op=17
   ·rw[iJ lV]at hD;refine qj lV (qX ?_);refine qD H6 e_1 rfl omQ rfl ?_;have H7:=H6.sub (L':=aB x v l bad mt { s with ay:=o } err 0 left (s.pc+1)::ab v (zN V).2::qx b (vH p)::R) (.cons e_2 (.cons .here (.cons .here .refl)));refine qW (ZD (s:={ s with ay:=o }) omQ told.1 fw H7) ?_;intro _ h8 H8;obtain⟨c,mv,ov,q,H9⟩:=aB.E H8
    have H9:HS g h8 (qx x (wJ c mv ov v q bad err 0 left (s.pc+1) s.pc p.aa)::qF 77 5 l.length c (l.flatMap jG)::qF 3 1 mt.length mv (mt.map (.int .i64))::bz q (s.out.take p.told)::
     qF 348 11 o.length ov (o.reverse.flatMap vH)::ab v (zN V).2::qx b (vH p)::R):=H9
    obtain⟨kk,iE,z,hX,uS,CD⟩:=hm p (iK ..) lV;rw[dw.num iE hX]at hD;refine qK (qQ (qZ H9 .here rfl ?_));refine qQ (qZ H9 e_6 rfl ?_);rw[iE];refine jN (H9.sl e_2) (dw.idx hX).1<|qS omQ<|qK (qQ ?_);refine qw H9 .here ⟨rfl,rfl⟩ (by show 16<19;omega) λdK cC=>?_;have dv:HS g dK (aB x v l bad mt { gr s p with ay:=o } err 0 left (z+1)::ab v (zN V).2::qx b (vH p)::R):=aB.I (mv:=mv) (ov:=ov) cC;refine qW (M9 (nx0:=z+1) omQ GD.1.ok (by grind) dv) ?_;rintro _ eY ⟨rfl,dU⟩;subst hD;have hb:(zW 18 z (z+1) { gr s p with ay:=o } (zN V).2).bf=false∧(zW 18 z (z+1) { gr s p with ay:=o } (zN V).2).nx=z+1:=by unfold zW;grind
    refine qg (qY ⟨rfl,?_⟩);rw[hb.1,hb.2];exact dU.pk [0,0] 1
   ·rw[iQ lV]at hD;refine qV lV (qJ ?_);exact aY o.length _ _ aA ⟨o,(zN V).2,rfl,rfl,by grind,H6.pk [2,0] 1,GD.1,told.tail,λr hr=>hm r (iX _ hr),hD⟩
  ·rw[iQ h0]at hD;refine jJ h0 (qX ?_);subst hD;exact qg (qY ⟨rfl,H6.pk [2,0] 1⟩)
theorem qY5 {n:Nat} (hn:9≤n) {V:VM} {i:qe} (G:ju V) (dJ:s.ay.length≤100) (fw:s.out.length≤16) (told:cH s.out.length s.ay) (hm:∀p∈s.ay,p.op=17→dw mt p.pc) (DG:0≤s.pc∧s.pc≤100)
  (bG:i.1=15∨i.1=19∨i.1=18∨i.1=16→s.ay≠[]) (mR:i.1=18∨i.1=16→dw mt s.pc) (H:HS g h (aB x v l bad mt s err 0 left (s.pc+1)::ab v V::R)) :
  af n 240 [.ptr x 0,.agg (jG i)] h λr h'=>r=.int .i64 (yL mt s V i.1).e∧
   HS g h' (aB x v l bad mt (yL mt s V i.1).s err (if(yL mt s V i.1).bf=true then 3 else 0) left (yL mt s V i.1).nx::ab v (yL mt s V i.1).v::R):=by
 refine aG rfl omQ λk hk=>?_;unfold S240;try simp only[iZ]
 refine qH H rfl λb h1 H1=>?_;refine qQ (qZ H1 .here rfl ?_);refine qG ?_
 try dsimp only
 unfold yL;have HB:=H1.sub (L':=aB x v l bad mt s err 0 left (s.pc+1)::ab v V::qx b (jG i)::R) (.cons e_1 (.cons e_1 (.cons .here .refl)));by_cases c1:i.1=14∨i.1=17
 ·rw[iJ c1]
  have key:wp (qI (.ptr b 0) 0 λv8=>ql h1 v8 λv9=>jo (.ptr x 0) λv10=>qI v10 15 λv11=>ql h1 v11 λv12=>
    jC (callT tab qv k) (.fn 285 [] []) [.ptr x 0,v9,v12] h1 λfm im=>jR [] im λoE=>some (fm,oE)) λr h'=>r=.int .i64 (zW i.1 s.pc (s.pc+1) s V).e∧
   HS g h' (aB x v l bad mt (zW i.1 s.pc (s.pc+1) s V).s err (if(zW i.1 s.pc (s.pc+1) s V).bf=true then 3 else 0) left (zW i.1 s.pc (s.pc+1) s V).nx::ab v (zW i.1 s.pc (s.pc+1) s V).v::R):=by
   refine qQ (qZ H1 .here rfl ?_);obtain⟨c,mv,ov,q,H2⟩:=aB.E HB;refine qK (qQ (qZ H2 .here rfl ?_));refine qW (M9 (nx0:=s.pc+1) omQ G.ok dJ HB) ?_;rintro _ eY ⟨rfl,dU⟩;have hb:(zW i.1 s.pc (s.pc+1) s V).bf=false∧(zW i.1 s.pc (s.pc+1) s V).nx=s.pc+1:=by unfold zW;grind
   refine qg (qY ⟨rfl,?_⟩);rw[hb.1,hb.2];exact dU.pk [0,0] 1
  by_cases c2:i.1=14
  ·refine qj c2 (qX (qX ?_));exact key
  ·refine qV c2 (qJ ?_);refine qj omQ (qX ?_);exact key
 ·rw[iQ c1];refine qV omQ (qJ ?_);refine qV omQ (qJ ?_);refine qG ?_
  try dsimp only
  by_cases c3:i.1=15∨i.1=19
  ·rw[iJ c3]
   have key:wp (jC (callT tab qv k) (.fn 286 [] []) [.ptr x 0] h1 λ_ IW=>jo (.ptr x 0) λv22=>qI v22 1 λmM=>ql IW mM λv24=>
     jC (callT tab qv k) (.fn 287 [] []) [v24] IW λlK RH=>jR [] RH λCq=>some (lK,Cq)) λr h'=>r=.int .i64 (vj V).1∧
    HS g h' (aB x v l bad mt { s with ay:=s.ay.tail } err (if false=true then 3 else 0) left (s.pc+1)::ab v (vj V).2::R):=by
    obtain⟨p,o,ho⟩:∃p o,s.ay=p::o:=List.exists_cons_of_ne_nil (bG omQ);refine qW (Xe omQ ho (by grind) HB) ?_;rintro _ h3 ⟨-,H3⟩;obtain⟨c,mv,ov,q,H4⟩:=aB.E H3;refine qK (qQ (qZ H4 .here rfl ?_));refine qW (qQ0 omQ (H3.ah e_1) G.ok) ?_;rintro _ h5 ⟨rfl,H5⟩;refine qg (qY ⟨rfl,?_⟩);rw[ho];exact H5.pk [1,0] 1
   by_cases c4:i.1=15
   ·refine qj c4 (qX (qX ?_));exact key
   ·refine qV c4 (qJ ?_);refine qj omQ (qX ?_);exact key
  ·rw[iQ c3];refine qV omQ (qJ ?_);refine qV omQ (qJ ?_);by_cases c5:i.1=18
   ·rw[iJ c5];refine qj c5 (qX ?_);obtain⟨p,o,ho⟩:∃p o,s.ay=p::o:=List.exists_cons_of_ne_nil (bG omQ);refine qW (Xe omQ ho (by grind) HB) ?_;rintro _ h3 ⟨-,H3⟩;obtain⟨c,mv,ov,q,H4⟩:=aB.E H3
    have H4:HS g h3 (qx x (wJ c mv ov v q bad err 0 left (s.pc+1) s.pc s.aa)::qF 77 5 l.length c (l.flatMap jG)::qF 3 1 mt.length mv (mt.map (.int .i64))::bz q s.out::
     qF 348 11 o.length ov (o.reverse.flatMap vH)::ab v V::qx b (jG i)::R):=H4
    obtain⟨kk,iE,z,hX,uS,CD⟩:=mR (.inl c5);rw[dw.num iE hX,ho];refine qK (qQ (qZ H4 .here rfl ?_));refine qK (qQ (qZ H4 .here rfl ?_));rw[iE];refine jN (H4.sl e_2) (dw.idx hX).1<|qS omQ<|qK (qQ ?_);rw[← iE];refine qw H4 .here ⟨rfl,rfl⟩ (by show 16<19;omega) λdK cC=>?_;refine qK (qQ (qZ cC .here rfl ?_));have dv:HS g dK (aB x v l bad mt { s with ay:=o } err 0 left (z+1)::ab v V::qx b (jG i)::R):=aB.I (mv:=mv) (ov:=ov) cC;refine qW (qQ0 omQ (dv.ah e_1) G.ok) ?_;rintro _ h5 ⟨rfl,H5⟩;exact qg (qY ⟨rfl,H5.pk [1,0] 1⟩)
   ·rw[iQ c5];refine qV c5 (qJ ?_);by_cases c6:i.1=16
    ·rw[iJ c6];refine qj c6 (qX ?_);obtain⟨p,o,ho⟩:∃p o,s.ay=p::o:=List.exists_cons_of_ne_nil (bG omQ);refine qW (Xe omQ ho (by grind) HB) ?_;rintro _ h3 ⟨rfl,H3⟩;rw[ho]at told;refine qW (ZD (s:={ s with ay:=o }) omQ told.1 fw H3) ?_;intro _ h4 H4';obtain⟨c,mv,ov,q,H4⟩:=aB.E H4'
     have H4:HS g h4 (qx x (wJ c mv ov v q bad err 0 left (s.pc+1) s.pc p.aa)::qF 77 5 l.length c (l.flatMap jG)::qF 3 1 mt.length mv (mt.map (.int .i64))::bz q (s.out.take p.told)::
      qF 348 11 o.length ov (o.reverse.flatMap vH)::ab v V::qx b (jG i)::R):=H4
     obtain⟨kk,iE,z,hX,uS,CD⟩:=mR (.inr c6);rw[dw.num iE hX,ho];refine qK (qQ (qZ H4 .here rfl ?_));refine qK (qQ (qZ H4 .here rfl ?_));rw[iE];refine jN (H4.sl e_2) (dw.idx hX).1<|qS omQ<|qK (qQ ?_);refine qw H4 .here ⟨rfl,rfl⟩ (by show 16<19;omega) λdK cC=>?_;refine qK (qQ (qZ cC .here rfl ?_));have dv:HS g dK (aB x v l bad mt { gr s p with ay:=o } err 0 left (z+1)::ab v V::qx b (jG i)::R):=aB.I (mv:=mv) (ov:=ov) cC;refine qW (OU omQ (dv.ah e_1) G.ok) ?_;rintro _ h5 ⟨rfl,H5⟩;exact qg (qY ⟨rfl,H5.pk [1,0] 1⟩)
    ·rw[iQ c6];refine qV c6 (qJ ?_);refine qW (qWA omQ G dJ fw told hm DG HB) ?_;rintro _ h3 ⟨rfl,H3⟩;exact qg (qY ⟨rfl,H3.pk [0,0] 1⟩)
end
end
section
variable {g h:AH} {L R:List SP}
section
variable {x v:Nat} {l:List qe} {bad:Int} {mt:List Int} {s:IM} {err fin left nx:Int}
theorem RI {c mv ov:AV} {q a:Nat} {z:Int} {ai:Int} (hr:s.aa.length=8) (ha:a<8) (Hd:ai=a)
  (H:HS g h (qx x ((wJ c mv ov v q bad err fin left nx s.pc s.aa).set (6+a*1) (.int .u64 z))::qF 77 5 l.length c (l.flatMap jG)::qF 3 1 mt.length mv (mt.map (.int .i64))::bz q s.out::
  qF 348 11 s.ay.length ov (s.ay.reverse.flatMap vH)::R)):HS g h (aB x v l bad mt (b9 s ai z) err fin left nx::R):=by
 rw[qg4 hr ha]at H;have e:s.aa.set a z=(b9 s ai z).aa:=by grind[b9,Int.toNat_natCast]
 rw[e]at H;exact aB.I H
theorem qGF {n:Nat} (hn:12≤n) {V:VM} {i:qe} {a:Nat} (G:ju V) (ro:JJ s.aa) (_:i.1=8∨i.1=9∨i.1=10∨i.1=11) (ha:a<8) (Hd:i.2.1=a) (hc:0≤i.2.2.2.1∧i.2.2.2.1≤100)
  (H:HS g h (aB x v l bad mt s err fin left nx::ab v V::R)) :
  af n 239 [.ptr x 0,.agg (jG i),.ptr x (6+a*1),.int .u64 (qP s.aa i.2.2.1)] h λr h'=>r=.int .i64 (jm s V i).1∧
   HS g h' (aB x v l bad mt (jm s V i).2.1 err fin left nx::ab v (jm s V i).2.2::R):=by
 refine ra rfl omQ λk hk=>?_;unfold S239;try simp only[iZ]
 refine qH H rfl λb h1 H1=>?_;have HB:=H1.sub (L':=aB x v l bad mt s err fin left nx::ab v V::qx b (jG i)::R) (.cons e_1 (.cons e_1 (.cons .here .refl)));obtain⟨c,mv,ov,q,H2⟩:=aB.E HB;refine qQ (qZ H1 .here rfl ?_);have RJ:=ro.at (a:Int);have RK:=ro.at i.2.2.1;unfold jm;rw[Hd];by_cases c8:i.1=8
 ·rw[iJ c8];refine qj c8 (qX ?_);refine qQ (qZ H1 .here rfl ?_);refine qW (Mm omQ RK hc) ?_;rintro _ _ ⟨rfl,rfl⟩;refine qA rfl (qA rfl ?_);by_cases h0:(zF (qP s.aa i.2.2.1) i.2.2.2.1).2=0
  ·rw[iJ h0];refine q9 h0 (qJ ?_);refine qK (qQ (qZ H2 .here rfl ?_));refine qW (Jy omQ (HB.ah e_1) G.ok) ?_;rintro _ h3 ⟨rfl,H3⟩;refine qA rfl (qA rfl ?_);refine qG ?_
   try dsimp only
   by_cases h4:(qi V (zF (qP s.aa i.2.2.1) i.2.2.2.1).1).1.2=0
   ·rw[iJ h4];refine qj h4 (qX ?_);obtain⟨c,mv,ov,q,H5⟩:=aB.E (H3.ah e_1);refine qK (qw H5 .here ⟨rfl,rfl⟩ (by show 6+a*1<19;omega) λh6 H6=>?_);refine qg (qY ⟨by rw[h4],?_⟩);exact(RI ro.len ha rfl H6).pk [0,0] 1
   ·rw[iQ h4];refine qV h4 (qJ ?_);exact qg (qY ⟨rfl,H3.pk [1,0] 1⟩)
  ·rw[iQ h0];refine jJ h0 (qX ?_);refine qY ⟨?_,HB.pk [0,0] 1⟩;unfold zF at h0 ⊢
   grind
 ·rw[iQ c8];refine qV c8 (qJ ?_);by_cases c9:i.1=9
  ·rw[iJ c9];refine qj c9 (qX ?_);refine qK (qZ H2 .here (Yn ha) ?_);refine qQ (qZ H1 .here rfl ?_);refine qW (Mm omQ RJ hc) ?_;rintro _ _ ⟨rfl,rfl⟩;refine qA rfl (qA rfl ?_);by_cases h0:(zF (qP s.aa (a:Int)) i.2.2.2.1).2=0
   ·rw[iJ h0];refine q9 h0 (qJ ?_);refine qK (qQ (qZ H2 .here rfl ?_));refine qW (qGS omQ (HB.ah e_1) G.ok) ?_;rintro _ h3 ⟨rfl,H3⟩;exact qY ⟨rfl,H3.pk [1,0] 1⟩
   ·rw[iQ h0];refine jJ h0 (qX ?_);refine qY ⟨?_,HB.pk [0,0] 1⟩;unfold zF at h0 ⊢
    grind
  ·rw[iQ c9];refine qV c9 (qJ ?_);by_cases uZ:i.1=10
   ·rw[iJ uZ];refine qj uZ (qX ?_);by_cases h0:2147483648≤qP s.aa i.2.2.1
    ·rw[iJ h0];refine jA omQ (qX ?_);exact qY ⟨rfl,HB.pk [0,0] 1⟩
    ·rw[iQ h0];refine jz omQ (qJ ?_);refine qK (qQ (qZ H2 .here rfl ?_));refine zx omQ<|qW (qKs omQ (HB.ah e_1) G.ok G.wd) ?_;rintro _ h3 ⟨rfl,H3⟩;refine qA rfl (qA rfl ?_);refine qG ?_
     try dsimp only
     by_cases h4:(zf V (qP s.aa i.2.2.1)).1.2=0
     ·rw[iJ h4];have hb:=Oj (x:=qP s.aa i.2.2.1) G.wd h4;refine qj h4 (qX ?_);obtain⟨c,mv,ov,q,H5⟩:=aB.E (H3.ah e_1);refine zt omQ (qK ?_);refine qw H5 .here ⟨rfl,rfl⟩ (by show 6+a*1<19;omega) λh6 H6=>?_;refine qg (qY ⟨by rw[h4],?_⟩);exact(RI ro.len ha rfl H6).pk [0,0] 1
     ·rw[iQ h4];refine qV h4 (qJ ?_);exact qg (qY ⟨rfl,H3.pk [1,0] 1⟩)
   ·rw[iQ uZ];refine qV uZ (qJ ?_);refine qK (qZ H2 .here (Yn ha) ?_);by_cases h0:2147483648≤qP s.aa (a:Int)
    ·rw[iJ h0];refine jA omQ (qX ?_);exact qY ⟨rfl,HB.pk [0,0] 1⟩
    ·rw[iQ h0];refine jz omQ (qJ ?_);refine qK (qQ (qZ H2 .here rfl ?_));refine qK (qZ H2 .here (Yn ha) ?_);refine zx omQ<|qW (qYP omQ (HB.ah e_1) G.ok) ?_;rintro _ h3 ⟨rfl,H3⟩;exact qY ⟨rfl,H3.pk [1,0] 1⟩
structure He (l:List qe) (mt:List Int) (s:IM) (V:VM) (i:qe):Prop where
  ap:ju V
  aa:JJ s.aa
  out:s.out.length≤16
  lo:s.ay.length≤100
  told:cH s.out.length s.ay
  ways:∀p∈s.ay,p.op=17→dw mt p.pc
  pc:0≤s.pc∧s.pc≤100
  op:1≤i.1∧i.1<23
  a:0≤i.2.1∧i.2.1≤7
  b:0≤i.2.2.1∧i.2.2.1≤7
  c:0≤i.2.2.2.1∧i.2.2.2.1≤100
  c7:3≤i.1∧i.1≤7→i.2.2.2.1≤7
  ne:i.1=15∨i.1=19∨i.1=18∨i.1=16→s.ay≠[]
  mt:i.1=18∨i.1=16→dw mt s.pc
theorem qy7 {n:Nat} (hn:13≤n) {V:VM} {i:qe} (P:He l mt s V i) (H:HS g h (aB x v l bad mt s err 0 left (s.pc+1)::ab v V::R)) :
  af n 206 [.ptr x 0,.agg (jG i)] h λr h'=>r=.int .i64 (aZ mt s V i).e∧
   HS g h' (aB x v l bad mt (aZ mt s V i).s err (if(aZ mt s V i).bf=true then 3 else 0) left (aZ mt s V i).nx::ab v (aZ mt s V i).v::R):=by
 refine aG rfl omQ λk hk=>?_;unfold S206;try simp only[iZ]
 refine qH H rfl λb h1 H1=>?_;have HB:=H1.sub (L':=aB x v l bad mt s err 0 left (s.pc+1)::ab v V::qx b (jG i)::R) (.cons e_1 (.cons e_1 (.cons .here .refl)));obtain⟨c,mv,ov,q,H2⟩:=aB.E HB;obtain⟨a,ha1,DH,u4⟩:=RG P.a.1;obtain⟨bb,fU,eI,l7⟩:=RG P.b.1;obtain⟨cc,hc1,na,oK⟩:=RG P.c.1;have u4:=u4 (by have:=P.a.2;omega);have l7:=l7 (by have:=P.b.2;omega);have ro:=P.aa;have fL:=P.op;have Hf:=P.c7;refine qQ (qZ H1 .here rfl (ga od ?_));rw[ha1];refine qK (qQ (yj DH ?_));refine qQ (qZ H1 .here rfl (ga od ?_));rw[fU];refine qK (qQ (yj eI ?_));refine qZ H2 .here (Yn eI)<|qQ (qZ H1 .here rfl (ga od ?_));rw[hc1];refine qK (qQ (yj na ?_));refine qZ H2 .here (Yn na)<|qQ (qZ H1 .here rfl ?_);refine qG ?_
 try dsimp only
 have fin:∀(z:Int) (D:SM) (h0:AH),D=⟨0,s.pc+1,false,b9 s i.2.1 z,V⟩→HS g h0 (aB x v l bad mt s err 0 left (s.pc+1)::ab v V::qx b (jG i)::R)→
   wp (jo (.ptr x (6+a*1)) λmA=>qn h0 mA (.int .u64 z) 1 λDx=>jR [] Dx λrU=>some (.int .i64 ((0:Nat):Int),rU)) λr h'=>r=.int .i64 D.e∧
    HS g h' (aB x v l bad mt D.s err (if D.bf=true then 3 else 0) left D.nx::ab v D.v::R):=by
  rintro z D h0 rfl H0;obtain⟨c,mv,ov,q,H5⟩:=aB.E H0;refine qK (qw H5 .here ⟨rfl,rfl⟩ (by show 6+a*1<19;omega) λh6 H6=>?_);refine qg (qY ⟨rfl,?_⟩);exact(RI ro.len DH u4 H6).pk [0,0] 1
 by_cases c1:i.1=1
 ·refine qj c1 (qX ?_);refine qQ (qZ H1 .here rfl ?_);exact fin _ _ _ (by simp_all[aZ]) HB
 refine qV c1 (qJ ?_);by_cases c2:i.1=2
 ·refine qj c2 (qX ?_);exact fin _ _ _ (by simp_all[aZ]) HB
 refine qV c2 (qJ ?_);by_cases c3:i.1=3
 ·refine qj c3 (qX (JX ?_));have oK:=oK (by omega);exact fin _ _ _ (by simp_all[aZ]) HB
 refine qV c3 (qJ ?_);by_cases c4:i.1=4
 ·refine qj c4 (qX (N1 ?_));have oK:=oK (by omega);exact fin _ _ _ (by simp_all[aZ]) HB
 refine qV c4 (qJ ?_);by_cases c5:i.1=5
 ·refine qj c5 (qX (Po ?_));have oK:=oK (by omega);exact fin _ _ _ (by simp_all[aZ]) HB
 refine qV c5 (qJ ?_);by_cases c6:i.1=6
 ·refine qj c6 (qX (wX ?_));have oK:=oK (by omega);refine qW (Nk omQ) ?_;rintro _ _ ⟨rfl,rfl⟩;exact fin _ _ _ (by simp_all[aZ]) HB
 refine qV c6 (qJ ?_);by_cases c7:i.1=7
 ·refine qj c7 (qX (gc ?_));have oK:=oK (by omega);refine qW (Nk omQ) ?_;rintro _ _ ⟨rfl,rfl⟩;exact fin _ _ _ (by simp_all[aZ]) HB
 refine qV c7 (qJ ?_);by_cases iw:i.1=12
 ·refine qj iw (qX ?_);have e:aZ mt s V i=⟨0,i.2.2.2.1,false,s,V⟩:=by simp_all[aZ]
  rw[e];refine qQ (qZ H1 .here rfl ?_);refine qK (qQ ?_);refine qw H2 .here ⟨rfl,rfl⟩ (by show 16<19;omega) λh6 H6=>?_;exact qg (qY ⟨rfl,(aB.I (mv:=mv) (ov:=ov) H6).pk [0,0] 1⟩)
 refine qV iw (qJ ?_);by_cases lD:i.1=13
 ·refine qj lD (qX ?_);have e:aZ mt s V i=⟨0,if qP s.aa i.2.1=0 then i.2.2.2.1 else s.pc+1,false,s,V⟩:=by simp_all[aZ]
  rw[e,u4];refine qK (qZ H2 .here (Yn DH) ?_);by_cases hz:qP s.aa (a:Int)=0
  ·rw[iJ hz];refine qj hz (qX ?_);refine qQ (qZ H1 .here rfl ?_);refine qK (qQ ?_);refine qw H2 .here ⟨rfl,rfl⟩ (by show 16<19;omega) λh6 H6=>?_;exact qg (qY ⟨rfl,(aB.I (mv:=mv) (ov:=ov) H6).pk [0,0] 1⟩)
  ·rw[iQ hz];refine qV hz (qJ ?_);exact qg (qY ⟨rfl,HB.pk [0,0] 1⟩)
 refine qV lD (qJ ?_);by_cases iM:i.1=21
 ·refine qj iM (qX ?_);refine qK (qQ (qZ H2 .here rfl ?_));refine qK (qZ H2 .here (Yn DH) ?_);refine qW (qx6 omQ (H2.ah e_3) P.out) ?_;rintro _ h3 ⟨rfl,H3⟩;by_cases dQ:16≤s.out.length
  ·have e:aZ mt s V i=⟨5,s.pc+1,false,s,V⟩:=by simp_all[aZ,iQ]
   rw[e];rw[iQ omQ]at H3;rw[iV omQ];refine jg (qX ?_);exact qY ⟨rfl,(aB.I (mv:=mv) (ov:=ov) (H3.pk [1,1,1,0,0] 0)).pk [0,0] 1⟩
  ·have e:aZ mt s V i=⟨0,s.pc+1,false,{ s with out:=s.out++[(1,qP s.aa i.2.1)] },V⟩:=by simp_all[aZ,iQ]
   rw[e,u4];rw[iJ omQ]at H3;rw[iG omQ];refine jQ (qJ ?_);exact qg (qY ⟨rfl,(aB.I (mv:=mv) (ov:=ov) (R:=ab v V::qx b (jG i)::R) (H3.pk [1,1,1,0,0] 0)).pk [0,0] 1⟩)
 refine qV iM (qJ ?_);by_cases lN:i.1=22
 ·refine qj lN (qX ?_);have e:aZ mt s V i=⟨13,s.pc+1,false,s,V⟩:=by simp_all[aZ]
  rw[e];exact qY ⟨rfl,HB.pk [0,0] 1⟩
 refine qV lN (qJ ?_);refine qV omQ (qJ ?_);refine qG ?_
 try dsimp only
 by_cases ct:i.1=8∨i.1=9∨i.1=10∨i.1=11
 ·have e:aZ mt s V i=⟨(jm s V i).1,s.pc+1,false,(jm s V i).2.1,(jm s V i).2.2⟩:=by simp_all[aZ]
  rw[e];have key:wp (q8 h1 (.ptr b 0) 5 λFJ=>jC (callT tab qv k) (.fn 239 [] []) [.ptr x 0,FJ,.ptr x (6+a*1),.int .u64 (qP s.aa (bb:Int))] h1 λBY IR=>jR [] IR λh97=>some (BY,h97)) λr h'=>
    r=.int .i64 (jm s V i).1∧HS g h' (aB x v l bad mt (jm s V i).2.1 err (if false=true then 3 else 0) left (s.pc+1)::ab v (jm s V i).2.2::R):=by
   refine qD H1 .here rfl omQ rfl ?_;rw[← l7];refine qW (qGF omQ P.ap ro ct DH u4 P.c HB) ?_;rintro _ h3 ⟨rfl,H3⟩;exact qg (qY ⟨rfl,H3.pk [0,0] 1⟩)
  by_cases t8:i.1=8
  ·refine qj t8 (qX (qX ?_));exact key
  refine qV t8 (qJ ?_);by_cases t9:i.1=9
  ·refine qj t9 (qX (qX ?_));exact key
  refine qV t9 (qJ ?_);by_cases t10:i.1=10
  ·refine qj t10 (qX (qX ?_));exact key
  refine qV t10 (qJ ?_);refine qj omQ (qX ?_);exact key
 ·have e:aZ mt s V i=yL mt s V i.1:=by simp_all[aZ]
  rw[e];refine qV omQ (qJ ?_);refine qV omQ (qJ ?_);refine qV omQ (qJ ?_);refine qV omQ (qJ ?_);refine qD H1 .here rfl omQ rfl<|qW (qY5 omQ P.ap P.lo P.out P.told P.ways P.pc P.ne P.mt HB) ?_;rintro _ h3 ⟨rfl,H3⟩;exact qg (qY ⟨rfl,H3.pk [0,0] 1⟩)
end
end
section
variable {g h:AH} {L R:List SP}
theorem yS {a:List Int} {k:Nat} (h:k<a.length):a[k]? =some (qP a (k:Int)):=by simp_all[qP,Int.toNat_natCast]
theorem I2 {x:qe} (h:gG x=true) (hx:x.1≠23):(1≤x.1∧x.1<23)∧(0≤x.2.1∧x.2.1≤7)∧(0≤x.2.2.1∧x.2.2.1≤7)∧(0≤x.2.2.2.1∧x.2.2.2.1≤40)∧(3≤x.1∧x.1≤7→x.2.2.2.1≤7):=by
 unfold gG vS at h;simp only[Bool.and_eq_true,decide_eq_true_eq]at h;obtain⟨⟨⟨⟨h1,h2⟩,h3⟩,h4⟩,_⟩:=h;unfold jM at h2 h3 h4;by_cases c1:x.1=1∨x.1=11∨x.1=21
 ·grind
 rw[iQ c1]at h2 h3 h4;by_cases c2:x.1=2∨x.1=10
 ·grind
 rw[iQ c2]at h2 h3 h4;by_cases c3:x.1=3∨x.1=4∨x.1=5∨x.1=6∨x.1=7
 ·grind
 rw[iQ c3]at h2 h3 h4;by_cases c4:x.1=8∨x.1=9
 all_goals grind
theorem Of {l:List qe} (F:Fit l) {k:Nat} (hk:k<l.length) (ho:(qU l k).1=14∨(qU l k).1=17∨(qU l k).1=18∨(qU l k).1=16):dw (qb l) (k:Int):=by
 have hl:=F.le;refine⟨k,rfl,_,yS (by grind[Mn]),?_⟩;by_cases h:(qU l k).1=16
 ·grind[QF]
 ·obtain⟨e,e1,_,e2,_⟩:=gn F hk omQ;grind
theorem qj5 {l:List qe} {s:IM} {V:VM} (F:Fit l) (G:GI l s V) {i:Nat} (hi:s.pc=i) (ae:i<l.length) (hx:(qU l i).1≠23):He l (qb l) s V (qU l i):=by
 have hw:=yZ (F.ok i ae);have tW:=zi (F.ok i ae);have hb:=I2 hw.1 hx;have ea:=G1 G;have h5:=JP F i omQ;have hl:=F.le;rw[hi,Int.toNat_natCast]at ea;refine⟨G.ap,G.gb.aa,G.gb.out,by omega,G.told,?_,by omega,hb.1,hb.2.1,hb.2.2.1,by omega,hb.2.2.2.2,?_,?_⟩
 ·intro p hp fL;obtain⟨q,hq,Rz⟩:=(G.mQ p hp).pc;have:=(G.mQ p hp).op.2;simp_all[Of,omQ]
 ·intro ho h0;rw[h0]at ea;have he:0<zZ (qU l i).1∨(qU l i).1=16:=by
   rcases ho with h |h |h |h
   ·exact .inl (by rw[h];decide)
   ·exact .inl (by rw[h];decide)
   ·exact .inl (by rw[h];decide)
   grind
  grind
 simp_all[Of,omQ]
def Quiet (l:List qe):Prop:=∀x∈l,x.1≠23∧0≤x.2.2.2.2∧x.2.2.2.2<18446744073709551616
theorem Quiet.at {l:List qe} (Q:Quiet l) {i:Nat} (h:i<l.length):(qU l i).1≠23∧0≤(qU l i).2.2.2.2∧(qU l i).2.2.2.2<18446744073709551616:=by rw[xq h];exact Q _ (List.getElem_mem h)
structure RL (V:VM) (r:RM):Prop where
  gb:GB r.s
  ap:ju r.v
  sz:r.v.sz=V.sz
  K:r.v.K=V.K
  most:r.v.most=V.most
theorem RN {l:List qe} (F:Fit l) (Q:Quiet l):∀(n:Nat) {s:IM} {V:VM},GI l s V→bA V.lv+n<9000→RL V (zw l (qb l) n s V)∧bA (zw l (qb l) n s V).v.lv≤bA V.lv+n∧
  ((zw l (qb l) n s V).kind=2→(zw l (qb l) n s V).v.lv.length=1)∧
  ((zw l (qb l) n s V).kind=1→GI l (zw l (qb l) n s V).s (zw l (qb l) n s V).v∧1≤(zw l (qb l) n s V).v.aw∧(zw l (qb l) n s V).v.aw<V.sz∧zc (zw l (qb l) n s V).v.aw V.K=none)∧
  ((zw l (qb l) n s V).kind=1∨(zw l (qb l) n s V).kind=2∨(zw l (qb l) n s V).kind=3∨(zw l (qb l) n s V).kind=4):=by
 intro n
 induction n with
 |zero=>
  intro s V G hf;rw[wc]
  split
  ·rename_i h0;refine⟨⟨G.gb,G.ap,rfl,rfl,rfl⟩,by simp,λ_=>?_,λh=>(by grind),by simp⟩;have:=G1 G;rw[h0,Int.toNat_natCast,F.nil]at this;have hl:=G.lv;grind
  ·exact⟨⟨G.gb,G.ap,rfl,rfl,rfl⟩,by simp,λh=>(by grind),λh=>(by grind),by simp⟩
 |succ n ih=>
  intro s V G hf;rw[kw]
  split
  ·rename_i h0;refine⟨⟨G.gb,G.ap,rfl,rfl,rfl⟩,by simp,λ_=>?_,λh=>(by cases h),by simp⟩;have:=G1 G;rw[h0,Int.toNat_natCast,F.nil]at this;have hl:=G.lv;simp_all
  ·rename_i h0;obtain⟨i,hi,p0⟩:=G.pc;have ae:i<l.length:=by omega
   rw[hi];have S:=YY F G hi ae omQ (Q.at ae).2 (Q.at ae).1;generalize aZ (qb l) s V (qU l i)=D at*
   split
   ·rename_i h1
    split
    ·exact⟨⟨⟨S.gb.aa,S.gb.out,S.gb.its⟩,S.ap,S.sz,S.K,S.most⟩,by have:=S.fr;simp;omega,λh=>(by cases h),λh=>(by cases h),by simp⟩
    ·rename_i h2;have G2:=S.next h1 (by simp_all);have A3:=S.fr;obtain⟨a,b,c,d,e⟩:=ih G2 omQ;refine⟨⟨a.gb,a.ap,a.sz.trans S.sz,a.K.trans S.K,a.most.trans S.most⟩,by omega,c,λh=>?_,e⟩;have:=d h;rw[S.sz,S.K]at this;omega
   ·split
    ·rename_i bY;obtain⟨n1,n2,n3,n4,n5⟩:=S.aw bY;refine⟨⟨S.gb,S.ap,S.sz,S.K,S.most⟩,by simp_all,λh=>(by cases h),λ_=>⟨?_,n3,n4,n5⟩,by simp⟩;rw[n1];exact⟨G.gb,G.pc,G.mQ,G.told,G.CC,by rw[n2];exact G.lv,S.ap⟩
    ·exact⟨⟨S.gb,S.ap,S.sz,S.K,S.most⟩,by have:=S.fr;simp;omega,λh=>(by cases h),λh=>(by cases h),by simp⟩
section
variable {x v:Nat} {l:List qe} {bad:Int} {mt:List Int} {s:IM} {err fin left nx:Int}
theorem qgm {n:Nat} (hn:14≤n) (F:Fit l) (Q:Quiet l) {left:Nat} {V:VM} (G:GI l s V) (hf:bA V.lv+left<9000) (hl:left≤1000) (H:HS g h (aB x v l 0 (qb l) s 0 0 left nx::ab v V::R)) :
  af n 160 [.ptr x 0] h λr h'=>r=.int .i64 (zw l (qb l) left s V).kind∧
   ∃CE,HS g h' (aB x v l 0 (qb l) (zw l (qb l) left s V).s (zw l (qb l) left s V).err (if(zw l (qb l) left s V).kind=1 then 0 else(zw l (qb l) left s V).kind) ((zw l (qb l) left s V).left:Int) CE::ab v (zw l (qb l) left s V).v::R):=by
 refine ag rfl omQ λk hk=>?_;unfold S160;try simp only[iZ]
 generalize dP:zw l (qb l) left s V=RM
 refine jF (λm st h'=>st=(.ptr x 0,())∧((∃(s':IM) (V':VM) (eE:Nat) (CE:Int),m=eE+1∧eE≤1000∧GI l s' V'∧bA V'.lv+eE<9000∧zw l (qb l) eE s' V'=RM∧HS g h' (aB x v l 0 (qb l) s' 0 0 eE CE::ab v V'::R))∨
   (m=0∧RM.kind≠0∧RM.kind≠1∧∃CE,HS g h' (aB x v l 0 (qb l) RM.s RM.err RM.kind RM.left CE::ab v RM.v::R))))
  ?_ omQ ⟨rfl,.inl ⟨s,V,left,nx,rfl,hl,G,hf,dP,H⟩⟩
 rintro m ih st h2 aY ⟨rfl,⟨s,V,left,nx,rfl,hl,G,hf,dP,H⟩ |⟨rfl,RO,iE,nx,H⟩⟩
 rotate_left
 ·obtain⟨c,mv,ov,q,H1⟩:=aB.E H;refine qK (qQ (qZ H1 .here rfl ?_));refine qV RO (qJ ?_);refine qK (qQ (qZ H1 .here rfl ?_));refine qg (qY ⟨rfl,nx,?_⟩);grind
 obtain⟨i,hi,p0⟩:=G.pc;have hlen:=F.le;obtain⟨c,mv,ov,q,H1⟩:=aB.E H;refine qK (qQ (qZ H1 .here rfl ?_));refine qj rfl (qX ?_);refine qG ?_
 try dsimp only
 refine qK (qQ (qZ H1 .here rfl ?_));refine q9 rfl (qJ ?_);refine qK (qQ (qZ H1 .here rfl ?_));refine qK (qQ (qQ (qZ H1 .here rfl ?_)));refine qd H1 e_1 ?_;by_cases h0:s.pc=l.length
 ·refine qj h0 (qX ?_);rw[qQc h0]at dP;subst dP;refine qK (qQ ?_);refine qw H1 .here ⟨rfl,rfl⟩ (by show 5<19;omega) λh3 H3=>?_;exact aY 0 _ _ omQ ⟨rfl,.inr ⟨rfl,by simp,by simp,nx,aB.I (mv:=mv) (ov:=ov) H3⟩⟩
 refine qV h0 (qJ ?_);refine qK (qQ (qZ H1 .here rfl ?_));cases left with
 |zero=>refine qj rfl (qX ?_);rw[wc,iQ h0]at dP;subst dP;refine qW (O9 omQ H) ?_;intro _ h3 H3;exact aY 0 _ _ omQ ⟨rfl,.inr ⟨rfl,by simp,by simp,nx,H3⟩⟩
 |succ left=>
  refine qV omQ (qJ ?_);rw[kw,iQ h0]at dP;have ae:i<l.length:=by omega
  have S:=YY F G hi ae omQ (Q.at ae).2 (Q.at ae).1;have P:=qj5 F G hi ae (Q.at ae).1;refine qK (qQ (qZ H1 .here rfl ?_));rw[hi];refine qS omQ (qK (qQ ?_));refine qw H1 .here ⟨rfl,rfl⟩ (by show 16<19;omega) λh3 H3=>?_;refine qK (qQ (qQ (qZ H3 .here rfl ?_)));refine qK (qQ (qZ H3 .here rfl ?_));rw[hi];refine zj (H3.sl e_1) ae omQ (QG ae) ?_;have H4:HS g h3 (aB x v l 0 (qb l) s 0 0 ((left+1:Nat):Int) (s.pc+1)::ab v V::R):=aB.I (mv:=mv) (ov:=ov) (by rw[hi]at H3 ⊢;exact H3);rw[← xq ae];refine qW (qy7 omQ P H4) ?_;rintro _ h5 ⟨rfl,H5⟩;rw[hi]at dP;generalize aZ (qb l) s V (qU l i)=D at*;refine qG ?_
  try dsimp only
  obtain⟨c,mv,ov,q,H6⟩:=aB.E H5;by_cases h1:D.e=0
  ·refine qj h1 (qX ?_);rw[iJ h1]at dP;refine qK (qQ (qZ H6 .here rfl ?_));refine qK (qQ ?_);refine qw H6 .here ⟨rfl,rfl⟩ (by show 15<19;omega) λh7 H7=>?_;refine qK (qQ (qZ H7 .here rfl ?_));refine jK omQ (qK (qQ ?_));rw[show((left+1:Nat):Int)-((1:Nat):Int)=(left:Int) by omega];refine qw H7 .here ⟨rfl,rfl⟩ (by show 17<19;omega) λh8 H8=>?_;have H9:HS g h8 (aB x v l 0 (qb l) { D.s with pc:=D.nx } 0 (if D.bf=true then 3 else 0) left D.nx::ab v D.v::R):=aB.I (mv:=mv) (ov:=ov) H8;cases h2:D.bf with
   |true=>rw[h2,iJ rfl]at dP;rw[h2,iJ rfl]at H9;subst dP;exact aY 0 _ _ omQ ⟨rfl,.inr ⟨rfl,by simp,by simp,D.nx,H9⟩⟩
   |false=>rw[h2,iQ aA]at dP;rw[h2,iQ aA]at H9;have:=S.fr;exact aY (left+1) _ _ omQ ⟨rfl,.inl ⟨_,D.v,left,D.nx,rfl,by omega,S.next h1 h2,by omega,dP,H9⟩⟩
  ·refine qV h1 (qJ ?_);rw[iQ h1]at dP;have hb:D.bf=false:=by
    cases hb:D.bf with
    |false=>rfl
    |true=>exact absurd (S.bl hb) h1
   rw[hb,iQ aA]at H5;by_cases bY:D.e=11
   ·rw[iJ bY]at dP;subst dP;refine qj bY (qX ?_);refine qg (qY ⟨rfl,D.nx,?_⟩);grind
   ·rw[iQ bY]at dP;subst dP;refine qV bY (qJ ?_);refine qW (O9 omQ H5) ?_;intro _ h7 H7;exact aY 0 _ _ omQ ⟨rfl,.inr ⟨rfl,by simp,by simp,D.nx,H7⟩⟩
end
end
section
variable {g h:AH} {L R:List SP}
def UP (l:List qe):List Int:=if(yu l).2=0 then qb l else[]
theorem qJF {n:Nat} (hn:7≤n) {l:List qe} {sv:AV} (H:HS g h R) (S:Rd g R 5 l.length sv (l.flatMap jG)) (hl:l.length≤100) :
  af n 98 [.agg [sv]] h λv h'=>HS g h' (qF 3 1 (UP l).length v ((UP l).map (.int .i64))::R):=by
 refine ag rfl omQ λk hk=>?_;unfold S98;try simp only[iZ]
 refine qH H (ya (wq (S.sl H))) λb0 h1 H1=>?_;have tV:=(S.sl H).sL;refine qD H1 .here rfl omQ rfl<|qW (NB omQ H1 S.more hl) ?_;rintro _ h2 ⟨rfl,H2⟩;refine qA rfl<|qA rfl ?_;by_cases c0:(yu l).2=0
 rotate_left
 ·refine jJ c0<|qX ?_;unfold UP;rw[iQ c0];exact qY H2.drop.ad
 have hG:=Vq c0;have F:=Kk c0;unfold UP;rw[iJ c0];have hM:qb l=eh l (xc l 0 []) l.length:=rfl;rw[hM];refine q9 c0<|qJ (qD H2 .here rfl omQ rfl ?_);refine qW (KS omQ H2 S.more hG hl) ?_;intro av h3 H3;refine qQ (qZ ‹_› e_1 rfl ?_);refine z8 ‹_›<|kO H3 omQ λev h4 H4=>?_;refine qd H4 .here ?_;have hA:(xc l 0 []).length=l.length:=JK;have cM:=λ{i:Nat}=>jQD (i:=i) hG;generalize xc l 0 []=A at*
 refine jF (λm s h'=>∃(i:Nat),s=(.int .i64 (i:Int),.int .i64 (l.length:Int),ev,av,.ptr b0 0,())∧i≤l.length∧m=l.length-i∧
  HS g h' (qF 3 1 l.length ev ((List.replicate i (-1:Int)++List.replicate (l.length-i) 0).map (.int .i64))::qF 3 1 l.length av (A.map (.int .i64))::qx b0 [sv]::R))
  ?_ (m:=l.length) omQ ⟨0,rfl,by omega,by rfl,by simp_all⟩
 rintro m ih s h5 aY ⟨i,rfl,hi,rfl,H⟩;by_cases ae:i<l.length
 ·refine jB omQ<|qX (yr H ae ⟨rfl,rfl⟩ λh6 H6=>?_);refine qS omQ ?_;have h0:(AV.int .i64 (Int.negSucc 0))=.int .i64 (-1):=rfl;rw[h0,← List.map_set]at H6;have es:(List.replicate i (-1:Int)++List.replicate (l.length-i) 0).set i (-1)=List.replicate (i+1) (-1:Int)++List.replicate (l.length-(i+1)) 0:=by
   rw[show l.length-i=(l.length-(i+1))+1 by omega,List.replicate_succ,List.set_append_right _ _ aA,List.length_replicate,Nat.sub_self,List.set_cons_zero,List.replicate_succ',List.append_assoc];rfl
  rw[es]at H6;exact aY (l.length-(i+1)) _ _ omQ ⟨i+1,rfl,by omega,rfl,H6⟩
 obtain rfl:i=l.length:=by omega
 rw[Nat.sub_self,List.replicate_zero,List.append_nil]at H;have hL1:∀i,(lU l A i).length=l.length:=λi=>Ja i;have I3:∀i,(eh l A i).length=l.length:=λi=>UX i;refine jk omQ<|qJ (qQ (qZ ‹_› e_2 rfl ?_));refine z8 ‹_›<|jF (λm s h'=>∃(i:Nat),s=(.int .i64 (i:Int),.int .i64 (l.length:Int),sv,ev,av,.ptr b0 0,())∧i≤l.length∧m=l.length-i∧
  HS g h' (qF 3 1 l.length ev ((lU l A i).map (.int .i64))::qF 3 1 l.length av (A.map (.int .i64))::qx b0 [sv]::R))
  ?_ (m:=l.length) omQ ⟨0,rfl,by omega,by rfl,H⟩
 rintro m ih s h6 aY ⟨i,rfl,hi,rfl,H⟩;by_cases ae:i<l.length
 ·have eC:=QG ae;have CF:=cM ae;have cS:lU l A (i+1)=if 0<zZ (qU l (i:Int)).1 then(lU l A i).set (qP A (i:Int)).toNat i else lU l A i:=rfl
  rw[xq ae]at cS;generalize l[i]=x at*;refine jB omQ (qX ?_)
  refine jq [] (λs h'=>s=(.int .i64 (i:Int),.int .i64 (l.length:Int),sv,ev,av,.ptr b0 0,())∧
   HS g h' (qF 3 1 l.length ev ((lU l A (i+1)).map (.int .i64))::qF 3 1 l.length av (A.map (.int .i64))::qx b0 [sv]::R)) ?_ ?_
  rotate_left
  ·rintro s h7 ⟨rfl,H7⟩;refine qS omQ<|aY (l.length-(i+1)) _ _ omQ ⟨i+1,rfl,by omega,rfl,H7⟩
  intro j hj;refine zj (S.sl H.drop.drop.drop) ae omQ eC<|qH H rfl λb h7 H7=>?_;refine qh H7 .here rfl (by simp) rfl λh8 H8=>?_;refine qQ (qZ ‹_› .here rfl ?_);refine qW (GU omQ) ?_;rintro _ h8 ⟨rfl,rfl⟩;by_cases he:0<zZ x.1
  ·obtain⟨p,hp,sa⟩:=CF (.inl he);refine zv he (qX ?_);refine jN (H8.sl e_2) (by rw[List.getElem?_map,hp];rfl)<|yr (H8.ah e_1) sa ⟨rfl,rfl⟩ λh9 H9=>?_;rw[← List.map_set]at H9;have RS:qP A (i:Int)=p:=by grind[qP,Int.toNat_natCast]
   rw[iJ he,RS,Int.toNat_natCast]at cS;rw[← cS]at H9;exact hj _ _ ⟨rfl,H9.pk [0,1,1] 1⟩
  ·refine zV he (qJ ?_);rw[iQ he]at cS;exact hj _ _ ⟨rfl,by rw[cS];exact H8.drop⟩
 obtain rfl:i=l.length:=by omega
 refine jk omQ<|qJ (qQ (qZ ‹_› e_2 rfl ?_));refine z8 ‹_›<|jF (λm s h'=>∃(i:Nat),s=(.int .i64 (i:Int),.int .i64 (l.length:Int),sv,ev,av,())∧i≤l.length∧m=l.length-i∧
  HS g h' (qF 3 1 l.length ev ((eh l A i).map (.int .i64))::qF 3 1 l.length av (A.map (.int .i64))::qx b0 [sv]::R))
  ?_ (m:=l.length) omQ ⟨0,rfl,by omega,by rfl,H⟩
 rintro m ih s h6 aY ⟨i,rfl,hi,rfl,H⟩;by_cases ae:i<l.length
 ·have eC:=QG ae;have CF:=cM ae;have cS:eh l A (i+1)=if(qU l (i:Int)).1=16 then(eh l A i).set i (qP (eh l A i) (qP A (i:Int)))else eh l A i:=rfl
  rw[xq ae]at cS;generalize l[i]=x at*;refine jB omQ (qX ?_)
  refine jq [] (λs h'=>s=(.int .i64 (i:Int),.int .i64 (l.length:Int),sv,ev,av,())∧
   HS g h' (qF 3 1 l.length ev ((eh l A (i+1)).map (.int .i64))::qF 3 1 l.length av (A.map (.int .i64))::qx b0 [sv]::R)) ?_ ?_
  rotate_left
  ·rintro s h7 ⟨rfl,H7⟩;refine qS omQ<|aY (l.length-(i+1)) _ _ omQ ⟨i+1,rfl,by omega,rfl,H7⟩
  intro j hj;refine zj (S.sl H.drop.drop.drop) ae omQ eC<|qH H rfl λb h7 H7=>?_;refine qh H7 .here rfl (by simp) rfl λh8 H8=>?_;refine qQ (qZ ‹_› .here rfl ?_);by_cases he:x.1=16
  ·obtain⟨p,hp,sa⟩:=CF (.inr he);refine qj he (qX ?_);refine jN (H8.sl e_2) (by rw[List.getElem?_map,hp];rfl)<|jN (H8.sl e_1) (by rw[List.getElem?_map,yS (by grind)];rfl)<|yr (H8.ah e_1) ae ⟨rfl,rfl⟩ λh9 H9=>?_;rw[← List.map_set]at H9;have RS:qP A (i:Int)=p:=by grind[qP,Int.toNat_natCast]
   rw[iJ he,RS]at cS;rw[← cS]at H9;exact hj _ _ ⟨rfl,H9.pk [0,1,1] 1⟩
  ·refine qV he (qJ ?_);rw[iQ he]at cS;exact hj _ _ ⟨rfl,by rw[cS];exact H8.drop⟩
 obtain rfl:i=l.length:=by omega
 refine jk omQ<|qJ (qg (qY ?_));rw[I3];exact H.pk [0] 2
def XQ:IM:=⟨[0,0,0,0,0,0,0,0],[],0,[]⟩
theorem OA {l:List qe} {V:VM} (h1:V.lv.length=1) (G:ju V):GI l XQ V :=
 ⟨⟨⟨rfl,by trivial⟩,Nat.zero_le _,λx hx=>by cases hx⟩,⟨0,rfl,Nat.zero_le _⟩,(λp hp=>by cases hp),trivial,rfl,h1,G⟩
def wz (fuel:Int):Nat:=(max 0 (min fuel 400)).toNat
theorem qga {n:Nat} (hn:8≤n) {l:List qe} {sv:AV} {v:Nat} {fuel:Int} (H:HS g h R) (S:Rd g R 5 l.length sv (l.flatMap jG)) (hl:l.length≤100) :
  af n 41 [.agg [sv],.ptr v 0,.int .i64 fuel] h λr h'=>∃x,r=.ptr x 0∧HS g h' (aB x v l (yu l).2 (UP l) XQ 0 0 (wz fuel:Nat) 0 ::R):=by
 refine b8 rfl omQ λk hk=>?_;unfold S41;try simp only[iZ]
 refine qH H (ya (wq (S.sl H))) λb0 h1 H1=>?_;refine qQ (qZ ‹_› .here rfl ?_);refine jh (H1.ad) (S.sl H1.drop) omQ omQ (KT l) λcv h2 H2=>?_;rw[List.nil_append,Nat.zero_add]at H2;have oc:=H2.one .here;refine qQ (qw H2 e_1 oc aA λh3 H3=>?_);refine qD H3 .here rfl omQ rfl<|qW (NB omQ H3 (Rd.own e_1) hl) ?_;rintro _ h4 ⟨rfl,H4⟩;refine qA rfl<|qA rfl<|qG ?_;(try dsimp only)
 refine qD H4 .here rfl omQ rfl<|qD H4 .here rfl omQ rfl<|qW (qJF omQ H4 (Rd.own e_1) hl) ?_;intro mv h5 H5;have om:=H5.one .here;refine qW (Q':=λr h'=>∃o,r=.ptr o 0∧HS g h' (qx o [.ad]::qF 3 1 (UP l).length mv ((UP l).map (.int .i64))::qx b0 [cv]::qF 77 5 l.length cv (l.flatMap jG)::R)) ?_ ?_
 ·refine Fl rfl omQ λk hk=>?_;unfold S99;try simp only
  refine qy rfl<|qH H5 rfl λo h6 H6=>qY ⟨o,rfl,H6⟩
 rintro _ h6 ⟨o,rfl,H6⟩;refine zS (zu ?_);rw[show max ((0:Nat):Int) (min fuel ((400:Nat):Int))=((wz fuel:Nat):Int) by simp[wz]]
 refine qy (l:=wJ cv mv .ad v o (yu l).2 0 0 (wz fuel:Nat) 0 0 [0,0,0,0,0,0,0,0]) (by
  have e:(AV.agg (List.take 1 (List.drop 0 [cv]))).cells=[cv]:=rfl
  simp only[vG,om.1];rfl) ?_
 refine qH H6 (by unfold wJ;simp only[jV,List.all_cons,oc.2,om.2];rfl) λx h7 H7=>?_;refine zO H5 e_1 rfl H6 e_2 rfl rfl omQ (HS.lt H4 .here)<|zO H4 .here rfl H5 e_1 rfl rfl omQ (HS.lt H4 .here) ?_
 skip
 refine qY ⟨x,rfl,?_⟩;have H8:=(H7.ad (e:=20) (sz:=1)).ad (e:=348) (sz:=11)
 have H9:HS g h7 (bz o []::qF 348 11 0 .ad []::qx x (wJ cv mv .ad v o (yu l).2 0 0 (wz fuel:Nat) 0 0 [0,0,0,0,0,0,0,0])::qF 3 1 (UP l).length mv ((UP l).map (.int .i64))::qx b0 [cv]::
  qF 77 5 l.length cv (l.flatMap jG)::R):=bz.I (sv:=.ad) (H8.pk [3,1,0,0] 0)
 exact aB.I (mv:=mv) (ov:=.ad) (H9.pk [2,4,2,0,0] 1)
section
variable {x v:Nat} {l:List qe} {bad:Int} {mt:List Int} {s:IM} {err fin left nx:Int}
end
end
section
abbrev dI:Type:=Int×Bool×Int
structure dR where
  kind:Int
  at_:Int
  cr:Int
  word:Int
  az:dI
  lk:dI
structure cT where
  word:Int
  lk:dI
  done:Bool
  err:Int
structure zn where
  w:List Int
  l:List dI
  n:Int
  s:List Int
  cY:Int
def cZ:dI:=(0,false,0)
def ck (kind at_ word:Int):dR:=⟨kind,at_,0,word,cZ,cZ⟩
def dX:cT:=⟨0,cZ,false,0⟩
def ia (e:Int):cT:=⟨0,cZ,false,e⟩
def Gn (l:dI):Prop:=l.1<4611686018427387904∧(if l.2.1=true then 0≤l.2.2∧l.2.2<4 else l.2.2=0)
instance {l:dI}:Decidable (Gn l):=by unfold Gn;infer_instance
def yP (l:List dI) (i:Int):dI:=(l[i.toNat]?).getD cZ
def Ks (m:zn) (o:dR):cT×zn :=
 if o.at_<1∨(m.w.length:Int)≤o.at_ then(ia 2,m)else if o.kind=1 then(⟨qP m.w o.at_,cZ,false,0⟩,m)else(dX,{ m with w:=m.w.set o.at_.toNat o.word })
def Kw (m:zn) (o:dR):cT×zn :=
 if o.at_<0∨(m.l.length:Int)≤o.at_ then(ia 2,m)
 else if o.kind=3 then(⟨0,yP m.l o.at_,false,0⟩,m)
 else if¬Gn o.lk then(ia 1,m)
 else if o.kind=5 then(dX,{ m with l:=m.l.set o.at_.toNat o.lk })
 else if yP m.l o.at_≠o.az then(dX,m)
 else(⟨0,cZ,true,0⟩,{ m with l:=m.l.set o.at_.toNat o.lk })
def JI (m:zn) (o:dR):cT×zn :=
 if o.kind=6 then(⟨m.n,cZ,false,0⟩,m)
 else if o.word≤o.cr then(ia 1,m)
 else if 4611686018427387904≤o.word then(ia 7,m)
 else if m.n≠o.cr then(dX,m)
 else(⟨0,cZ,true,0⟩,{ m with n:=o.word })
def VX (m:zn) (o:dR):cT×zn :=
 if o.at_<0∨(m.s.length:Int)≤o.at_ then(ia 2,m)else if o.kind=8 then(⟨qP m.s o.at_,cZ,false,0⟩,m)else(dX,{ m with s:=m.s.set o.at_.toNat o.word })
def xD (m:zn) (o:dR):cT×zn :=
 let r:=if o.kind=1∨o.kind=2 then Ks m o else if o.kind=3∨o.kind=4∨o.kind=5 then Kw m o else if o.kind=6∨o.kind=7 then JI m o else if o.kind=8∨o.kind=9 then VX m o else(ia 1,m)
 if r.1.err=0 then(r.1,{ r.2 with cY:=r.2.cY+1 })else r
def ofM (at_ n wide:Int):Int:=if at_<0 then-1 else(at_/max 1 (min wide 16))%max 1 (min n 16)
def xz (cs:List Cl) (n wide:Int):List Int:=((List.range 16).map λi:Nat=>(i:Int)).filter λs=>cs.any λc=>decide (ofM c.1 n wide=s)
structure QQ where
  me:Int
  spins:Int
  fin:Int
  bM:Int
  err:Int
def J8 (me spins:Int):QQ:=⟨me,max 0 (min spins 4),0,-1,0⟩
def jX (p:QQ) (l:dI):Bool×QQ:=if p.me<l.2.2 then(true,p)else(decide (0≤p.spins-1),{ p with spins:=p.spins-1 })
def jc (p:QQ) (fin err bM:Int):QQ:={ p with fin:=fin,err:=err,bM:=bM }
def qo (p:QQ) (a:cT):Bool×QQ:=if p.fin=0∧a.err≠0 then(true,jc p 4 a.err (-1))else(decide (p.fin≠0),p)
abbrev xA:Type:=Int×Int
structure kT where
  p:QQ
  at_:Int
  ca:Int
  ak:Int
  state:Int
  lk:dI
  word:Int
def U1 (me at_ ca spins ak:Int):kT:=⟨J8 me spins,at_,ca,ak,0,cZ,0⟩
def QJ (f:kT):Option dR:=if f.p.fin≠0 then none else if f.state=1 then some (ck 1 f.at_ 0)else some (ck 3 f.ca 0)
def QI (f:kT) (l:dI):kT :=
 if l.2.1=true then(if(jX f.p l).1=true then{ f with state:=0,p:=(jX f.p l).2 }else{ f with state:=0,p:=jc (jX f.p l).2 5 0 l.2.2 })
 else if f.ak<l.1 then{ f with state:=0,p:=jc f.p 6 0 (-1) }
 else{ f with lk:=l,state:=1 }
def xQ (f:kT) (a:cT):kT :=
 if(qo f.p a).1=true then{ f with p:=(qo f.p a).2 }
 else if f.state=1 then{ f with word:=a.word,state:=2 }
 else if f.state=2∧a.lk=f.lk then{ f with p:=jc f.p 2 0 (-1) }
 else QI f a.lk
def xp (f:kT):Int:=if f.p.fin≠2 then 0 else f.word
def xE (f:kT):xA:=if f.p.fin≠2 then(0,0)else(f.ca,f.lk.1)
structure wQ where
  p:QQ
  seen:List xA
  bH:Bool
  at_:Int
  ak:Int
def Gf (me spins:Int) (seen:List xA):wQ:=⟨J8 me spins,seen,false,0,0⟩
def zL (l:List xA) (i:Int):xA:=(l[i.toNat]?).getD (0,0)
def QX (x:wQ):Option dR:=if x.p.fin≠0 then none else if x.bH=false then some (ck 6 0 0)else some (ck 3 (zL x.seen x.at_).1 0)
def Jw (x:wQ):wQ:=if x.at_=(x.seen.length:Int)then{ x with p:=jc x.p 2 0 (-1) }else x
def xM (x:wQ) (a:cT):wQ :=
 if(qo x.p a).1=true then{ x with p:=(qo x.p a).2 }
 else if x.bH=false then Jw { x with bH:=true,ak:=a.word }
 else if a.lk.2.1=true then(if(jX x.p a.lk).1=true then{ x with p:=(jX x.p a.lk).2 }else{ x with p:=jc (jX x.p a.lk).2 5 0 a.lk.2.2 })
 else if a.lk.1≠(zL x.seen x.at_).2 then{ x with p:=jc x.p 5 0 (-1) }
 else Jw { x with at_:=x.at_+1 }
def yC (x:wQ):Int:=if x.p.fin≠2 then 0 else x.ak
structure zG where
  p:QQ
  me:Int
  ak:Int
  seen:List xA
  cells:List Cl
  s:List Int
  az:List dI
  state:Int
  at_:Int
  lk:dI
  now:Int
  writing:Bool
  bE:Int
  pF:Int
  fJ:Int
def kt (c:zG):zG:={ c with state:=if c.az.length=c.s.length then 2 else 0 }
def Kt (me spins ak:Int) (seen:List xA) (cells:List Cl) (n wide:Int):zG :=
 kt ⟨J8 me spins,me,ak,seen,cells,xz cells n wide,[],0,0,cZ,0,false,0,0,0⟩
def ka (l:List Cl) (i:Int):Cl:=(l[i.toNat]?).getD (0,0)
def wK (c:zG):Option dR :=
 if c.p.fin≠0 then none
 else if c.state=0 then some (ck 3 (qP c.s c.az.length) 0)
 else if c.state=1 then some ⟨4,qP c.s c.az.length,0,0,c.lk,(c.lk.1,true,c.me)⟩
 else if c.state=2 then some (ck 6 0 0)
 else if c.state=3 then some ⟨7,0,c.now,c.now+1,cZ,cZ⟩
 else if c.state=4 then some (ck 3 (zL c.seen c.at_).1 0)
 else if c.state=5 then some (ck 2 (ka c.cells c.at_).1 (ka c.cells c.at_).2)
 else if c.state=6 then some ⟨5,qP c.s c.at_,0,0,cZ,(c.now+1,false,0)⟩
 else some ⟨5,qP c.s c.at_,0,0,cZ,yP c.az c.at_⟩
def yv (c:zG):zG:=if c.at_=(c.az.length:Int)then{ c with p:=jc c.p c.bE c.fJ c.pF }else c
def gK (c:zG) (fin err bM:Int):zG:=yv { c with bE:=fin,fJ:=err,pF:=bM,at_:=0,state:=7 }
def yo (c:zG) (l:dI):zG:=if(jX c.p l).1=true then{ c with p:=(jX c.p l).2 }else gK { c with p:=(jX c.p l).2 } 5 0 l.2.2
def yU (c:zG):zG:=if c.at_=(c.s.length:Int)then{ c with p:=jc c.p 2 0 (-1) }else c
def yw (c:zG):zG:=if c.at_=(c.cells.length:Int)then yU { c with at_:=0,state:=6 }else c
def vn (c:zG):zG:=yw { c with writing:=true,at_:=0,state:=5 }
def KH:List Int→List dI→Int→Option Int
 |s::r,w::q,x=>if s=x then some w.1 else KH r q x
 |_,_,_=>none
def xo (c:zG):Nat→zG
 | 0=>vn c
 |n+1=>
  if c.at_<(c.seen.length:Int)then
   (match KH c.s c.az (zL c.seen c.at_).1 with
   |none=>c
   |some v=>if v≠(zL c.seen c.at_).2 then gK c 5 0 (-1)else xo { c with at_:=c.at_+1 } n)
  else vn c
def gC (c:zG):zG:=xo { c with state:=4 } (c.seen.length+1)
def gW (c:zG) (a:cT):zG :=
 if c.state=0∧a.lk.2.1=true then yo c a.lk
 else if c.state=0 then{ c with lk:=a.lk,state:=1 }
 else if a.done=true then kt { c with az:=c.az++[c.lk] }
 else{ c with state:=0 }
def vo (c:zG) (a:cT):zG :=
 if c.state=2∧4611686018427387903≤a.word then gK c 4 7 (-1)
 else if c.state=2 then{ c with now:=a.word,state:=3 }
 else if a.done=false then{ c with state:=2 }
 else if c.now=c.ak then vn c
 else gC c
def yR (c:zG) (l:dI):zG :=
 if l.2.1=true then yo c l
 else if l.1≠(zL c.seen c.at_).2 then gK c 5 0 (-1)
 else gC { c with at_:=c.at_+1 }
def zD (c:zG) (a:cT):zG :=
 if(qo c.p a).1=true then{ c with p:=(qo c.p a).2 }
 else if c.state=0∨c.state=1 then gW c a
 else if c.state=2∨c.state=3 then vo c a
 else if c.state=4 then yR c a.lk
 else if c.state=5 then yw { c with at_:=c.at_+1 }
 else if c.state=6 then yU { c with at_:=c.at_+1 }
 else yv { c with at_:=c.at_+1 }
def gQ (c:zG):Int:=if c.writing=false then 0 else c.now+1
def zl (c:zG):Bool:=c.writing&&decide (c.p.fin=0)
structure xn where
  words:Int
  aj:Int
  wide:Int
  aF:Int
  start:Int
  spins:Int
  writes:Int
  fuel:Int
def wB (n lo hi:Int):Int:=max lo (min n hi)
def ja (s:xn):xn:=⟨wB s.words 32 256,wB s.aj 1 16,wB s.wide 1 16,wB s.aF 1 4,min s.start 4611686018427387903,wB s.spins 0 4,wB s.writes 0 96,wB s.fuel 0 400⟩
structure u5 where
  l:List qe
  s:IM
  fin:Int
  err:Int
  left:Nat
inductive Kv where
  |prog (r:u5)
  |aV (blocks:List Int) (k:Nat)
structure jd where
  me:Int
  set:xn
  aW:Kv
  v:VM
  r:List xA
  state:Int
  f:kT
  e:wQ
  c:Option zG
  begun:Bool
  cI:Int
  ak:Int
  fin:Int
  bM:Int
  err:Int
  aH:Bool
def VW (me:Int) (S:xn) (aW:Kv):jd:=⟨me,S,aW,Vl S.words S.writes,[],0,U1 0 0 0 0 0,Gf 0 0 [],none,false,0,0,0,-1,0,false⟩
def YZ (me:Int) (S:xn) (l:List qe):jd:=VW me (ja S) (.prog ⟨l,XQ,0,0,wz (ja S).fuel⟩)
def JW (me:Int) (S:xn) (bs:List Int):jd:=VW me (ja S) (.aV bs 0)
def yI (x:jd):Option dR :=
 if x.state=0 then some (ck 9 x.me 1)
 else if x.state=1 then some (ck 6 0 0)
 else if x.state=2 then some (ck 9 x.me (zC .u64 (x.ak+1)))
 else if x.state=7 then some (ck 9 x.me 0)
 else if x.state=8 then none
 else if x.state=3 then QJ x.f
 else if x.state=6 then x.c.bind wK
 else QX x.e
def yG (x:jd) (fin err bM:Int):jd:={ x with fin:=fin,err:=err,bM:=bM,state:=7 }
def XE (x:jd) (at_:Int):jd:={ x with state:=3,f:=U1 x.me at_ (ofM at_ x.set.aj x.set.wide) x.set.spins x.ak }
def Jz (x:jd) (state:Int):jd:={ x with state:=state,e:=Gf x.me x.set.spins x.r }
def xI:VM→List Int→Nat→(Nat×Int)×VM
 |V,[],k=>((k,0),V)
 |V,b::r,k=>if(xj V b).1=0 then xI (xj V b).2 r (k+1)else((k,(xj V b).1),(xj V b).2)
def xu (x:jd):(Int×Int)×jd:=match x.aW with
 | .aV bs k=>(if(xI x.v (bs.drop k) k).1.2=11 then(1,0)else if(xI x.v (bs.drop k) k).1.2=0 then(2,0)else(4,(xI x.v (bs.drop k) k).1.2),{ x with aW:=.aV bs (xI x.v (bs.drop k) k).1.1,v:=(xI x.v (bs.drop k) k).2 })
 | .prog q=>(((zw q.l (qb q.l) q.left q.s x.v).kind,(zw q.l (qb q.l) q.left q.s x.v).err),{ x with
   aW:=.prog ⟨q.l,(zw q.l (qb q.l) q.left q.s x.v).s,if(zw q.l (qb q.l) q.left q.s x.v).kind=1 then 0 else(zw q.l (qb q.l) q.left q.s x.v).kind,(zw q.l (qb q.l) q.left q.s x.v).err,(zw q.l (qb q.l) q.left q.s x.v).left⟩,
   v:=(zw q.l (qb q.l) q.left q.s x.v).v })
def wC (x:jd) (k e:Int):jd :=
 if k=1 then XE x x.v.aw
 else if k=3 then Jz { x with aH:=true } 5
 else if k=4 then yG x 4 e (-1)
 else if jL x.v.lv=[]then yG x 2 0 (-1)
 else{ x with state:=6,c:=some (Kt x.me x.set.spins x.ak x.r (jL x.v.lv) x.set.aj x.set.wide) }
def kC (x:jd):jd:=wC (xu x).2 (xu x).1.1 (xu x).1.2
def gV (r:List xA) (x:xA):Int×List xA :=
 if x.1<0∨16≤x.1∨4611686018427387904≤x.2 then(1,r)
 else match r.find? λy=>decide (y.1=x.1)with
  |some y=>if y.2≠x.2 then(14,r)else(0,r)
  |none=>if r.length=16 then(5,r)else(0,r++[x])
def yE (x:jd):jd :=
 if x.f.p.fin=6 then Jz x 4
 else if(gV x.r (xE x.f)).1=0 then kC { x with r:=(gV x.r (xE x.f)).2,v:=(yd x.v x.v.aw (xp x.f)).2 }
 else if(gV x.r (xE x.f)).1=14 then yG x 5 0 (-1)
 else yG x 4 (gV x.r (xE x.f)).1 (-1)
def yi (x:jd):Int×Int:=if x.state=3 then(x.f.p.fin,x.f.p.bM)else if x.state=6 then(match x.c with |some c=>(c.p.fin,c.p.bM) |none=>(0,0))else(x.e.p.fin,x.e.p.bM)
def yy (x:jd):jd :=
 if x.state=3 then yE x
 else if x.state=4 then XE { x with ak:=yC x.e } x.v.aw
 else if x.state=5 then yG { x with ak:=yC x.e } 3 0 (-1)
 else match x.c with |some c=>yG x c.p.fin c.p.err (-1) |none=>x
def zM (x:jd):Bool:=decide (x.state≠8)&&(match x.c with |some c=>zl c||decide (c.p.fin=2) |none=>false)
def yV (x:jd):jd:=if zM x=true then(match x.c with |some c=>{ x with ak:=gQ c } |none=>x)else x
def wA (x:jd):jd:=yV (if(yi x).1=0 then x else if(yi x).1=5 then yG x 5 0 (yi x).2 else yy x)
def yc (x:jd) (a:cT):jd :=
 if x.state=8 then x
 else if a.err≠0 then{ yG x 4 a.err (-1)with state:=8 }
 else if x.state=0 then{ x with state:=1 }
 else if x.state=1 then{ x with begun:=true,cI:=a.word,ak:=a.word,state:=2 }
 else if x.state=2 then kC x
 else if x.state=7 then{ x with state:=8 }
 else if x.state=3 then wA { x with f:=xQ x.f a }
 else if x.state=6 then wA { x with c:=x.c.map λc=>zD c a }
 else wA { x with e:=xM x.e a }
def vi (x:jd):Int:=if x.state≠8 then 0 else x.fin
def z7 (x:jd):Bool:=decide (vi x=2)||zM x
def vJ (x:jd):List Cl:=if z7 x=true then jL x.v.lv else[]
def yB (x:jd):List Int:=if z7 x=true then(match x.aW with | .aV bs _=>bs | .prog _=>vw x.v.lv)else[]
def JB (x:jd):List UInt8:=if z7 x=true then(match x.aW with | .aV _ _=>[] | .prog q=>F6 q.s.out)else[]
end
section
variable {g h:AH} {L R:List SP}
def jS (l:dI):List AV:=[.int .u64 l.1,.bool l.2.1,.int .i64 l.2.2]
def jn (o:dR):List AV:=[.int .i64 o.kind,.int .i64 o.at_,.int .u64 o.cr,.int .u64 o.word,.int .u64 o.az.1,.bool o.az.2.1,.int .i64 o.az.2.2,.int .u64 o.lk.1,.bool o.lk.2.1,.int .i64 o.lk.2.2]
def jI (a:cT):List AV:=[.int .u64 a.word,.int .u64 a.lk.1,.bool a.lk.2.1,.int .i64 a.lk.2.2,.bool a.done,.int .i64 a.err]
theorem qvs {l:List dI} {k:Nat} (hk:k<l.length):l[k]? =some (yP l (k:Int)):=by simp_all[yP,Int.toNat_natCast]
theorem JN {l:List dI} {k:Nat} (hk:k<l.length):((l.flatMap jS).drop (k*3)).take 3=jS (yP l (k:Int)):=gO (enc:=jS) (λ_=>rfl) (qvs hk)
section
variable {n b m:Nat} {v:AV} {a:Int} {e:TypeId} {xs:List AV} {R2:List SP}
theorem YM {w o:Int}:Gn (w,true,o)↔w<4611686018427387904∧0≤o∧o<4:=by rfl
theorem KD {w o:Int}:Gn (w,false,o)↔w<4611686018427387904∧o=0:=by rfl
theorem qvr {o:Int} (hn:1≤n):af n 249 [.int .i64 o] h λr h'=>r=.bool (decide (0≤o∧o<4))∧h'=h:=by
 refine ag rfl omQ λk hk=>?_;unfold S249;try simp only[iZ]
 refine xF (λc2=>?_) (λc2=>?_)
 ·refine qG<|qR ?_;(try dsimp only)
  refine zK (λc3=>?_) (λc3=>?_)
  ·refine qC<|qY ⟨by grind,rfl⟩
  ·refine qC<|qY ⟨by grind,rfl⟩
 ·refine qG<|qT<|qB ?_
  exact qY ⟨by grind,rfl⟩
theorem qy1 (hn:2≤n) {l:dI} (H:HS g h R):af n 220 [.agg (jS l)] h λr h'=>r=.bool (decide (Gn l))∧HS g h' R:=by
 refine ag rfl omQ λk hk=>?_;unfold S220;try simp only[iZ]
 obtain⟨w,d,o⟩:=l;refine qH H rfl λb h1 H1=>?_;have H1:HS g h1 (qx b [.int .u64 w,.bool d,.int .i64 o]::R):=H1;refine qQ (qZ ‹_› .here rfl ?_);cases d with
 |true=>
  refine qX (qQ (qZ ‹_› .here rfl ?_));refine zK (λc1=>?_) (λc1=>?_)
  ·refine qG<|qR<|qQ (qZ ‹_› .here rfl ?_)
   refine qW (qvr omQ) ?_;rintro _ _ ⟨rfl,rfl⟩;refine qC (qY ⟨?_,H1.drop⟩);simp_all[YM]
  ·refine qG<|qT<|qB ?_
   exact qY ⟨by simp_all[iV,YM],H1.drop⟩
 |false=>
  refine qJ (qQ (qZ ‹_› .here rfl ?_));refine zK (λc1=>?_) (λc1=>?_)
  ·refine qG<|qR<|qQ (qZ ‹_› .here rfl ?_)
   refine xR (λc2=>?_) (λc2=>?_)
   ·refine qC<|qY ⟨by rw[iG (KD.2 omQ)],H1.drop⟩
   ·refine qC<|qY ⟨by simp_all[iV,KD],H1.drop⟩
  ·refine qG<|qT<|qB ?_
   exact qY ⟨by simp_all[iV,KD],H1.drop⟩
theorem qq9 (hn:1≤n) (H:HS g h L) (s:aR L (qx b [v]) R) (s2:aR L (qF e 1 m v xs) R2) :
  af n 173 [.ptr b 0,.int .i64 a] h λr h'=>r=.bool (decide (1≤a∧a<m))∧h'=h:=by
 refine aG rfl omQ λk hk=>?_;unfold S173;try simp only[iZ]
 refine xF (λh1=>?_) (λh1=>?_)
 ·refine qG<|qR<|qK (qQ ?_)
  refine qZ H s rfl<|qd H s2<|zK (λh2=>?_) (λh2=>?_)
  ·refine qC<|qY ⟨by grind,rfl⟩
  ·refine qC<|qY ⟨by grind,rfl⟩
 ·refine qG<|qT<|qB ?_
  exact qY ⟨by grind,rfl⟩
theorem qj0 (hn:1≤n) (H:HS g h L) (s:aR L (qx b [v]) R) (s2:aR L (qF e 1 m v xs) R2) :
  af n 176 [.ptr b 0,.int .i64 a] h λr h'=>r=.bool (decide (0≤a∧a<m))∧h'=h:=by
 refine aG rfl omQ λk hk=>?_;unfold S176;try simp only[iZ]
 refine xF (λh1=>?_) (λh1=>?_)
 ·refine qG<|qR<|qK (qQ ?_)
  refine qZ H s rfl<|qd H s2<|zK (λh2=>?_) (λh2=>?_)
  ·refine qC<|qY ⟨by grind,rfl⟩
  ·refine qC<|qY ⟨by grind,rfl⟩
 ·refine qG<|qT<|qB ?_
  exact qY ⟨by grind,rfl⟩
theorem qzt (hn:1≤n) {wd:AV} (H:HS g h L) (s:aR L (qx b [v,wd]) R) (s2:aR L (qF e 3 m v xs) R2) :
  af n 174 [.ptr b 0,.int .i64 a] h λr h'=>r=.bool (decide (0≤a∧a<m))∧h'=h:=by
 refine aG rfl omQ λk hk=>?_;unfold S174;try simp only[iZ]
 refine xF (λh1=>?_) (λh1=>?_)
 ·refine qG<|qR<|qK (qQ ?_)
  refine qZ H s rfl<|qd H s2<|zK (λh2=>?_) (λh2=>?_)
  ·refine qC<|qY ⟨by grind,rfl⟩
  ·refine qC<|qY ⟨by grind,rfl⟩
 ·refine qG<|qT<|qB ?_
  exact qY ⟨by grind,rfl⟩
theorem qzE {ws:List Int} (hn:2≤n) (H:HS g h L) (s:aR L (qx b [v]) R) (s2:aR L (qF e 1 ws.length v (ws.map (.int .u64))) R2) :
  af n 117 [.ptr b 0,.int .i64 a] h λr h'=>r=.bm [.int .u64 (if 1≤a∧a<ws.length then qP ws a else 0),.int .i64 (if 1≤a∧a<ws.length then 0 else 2)]∧h'=h:=by
 refine aG rfl omQ λk hk=>?_;unfold S117;try simp only[iZ]
 refine qW (qq9 omQ H s s2) ?_;rintro _ _ ⟨rfl,rfl⟩;by_cases hc:1≤a∧a<ws.length
 ·rw[iG hc,iJ hc,iJ hc];obtain⟨k,rfl⟩:∃k:Nat,a=k:=⟨a.toNat,by omega⟩;refine jQ (qJ (qK (qQ (qZ H s rfl ?_))));refine jN (H.sl s2) (by rw[List.getElem?_map,yS omQ];rfl)<|qY ⟨rfl,rfl⟩
 ·rw[iV hc,iQ hc,iQ hc];refine jg (qX ?_);exact qY ⟨rfl,rfl⟩
theorem qz8 {ws:List Int} (hn:2≤n) (H:HS g h L) (s:aR L (qx b [v]) R) (s2:aR L (qF e 1 ws.length v (ws.map (.int .u64))) R2) :
  af n 123 [.ptr b 0,.int .i64 a] h λr h'=>r=.bm [.int .u64 (if 0≤a∧a<ws.length then qP ws a else 0),.int .i64 (if 0≤a∧a<ws.length then 0 else 2)]∧h'=h:=by
 refine aG rfl omQ λk hk=>?_;unfold S123;try simp only[iZ]
 refine qW (qj0 omQ H s s2) ?_;rintro _ _ ⟨rfl,rfl⟩;by_cases hc:0≤a∧a<ws.length
 ·rw[iG hc,iJ hc,iJ hc];obtain⟨k,rfl⟩:∃k:Nat,a=k:=⟨a.toNat,by omega⟩;refine jQ (qJ (qK (qQ (qZ H s rfl ?_))));refine jN (H.sl s2) (by rw[List.getElem?_map,yS omQ];rfl)<|qY ⟨rfl,rfl⟩
 ·rw[iV hc,iQ hc,iQ hc];refine jg (qX ?_);exact qY ⟨rfl,rfl⟩
theorem qVm {ws:List Int} {w:Int} (hn:2≤n) (H:HS g h (qx b [v]::qF e 1 ws.length v (ws.map (.int .u64))::R)) :
  af n 118 [.ptr b 0,.int .i64 a,.int .u64 w] h λr h'=>r=.int .i64 (if 1≤a∧a<ws.length then 0 else 2)∧
   HS g h' (qx b [v]::qF e 1 (if 1≤a∧a<ws.length then ws.set a.toNat w else ws).length v ((if 1≤a∧a<ws.length then ws.set a.toNat w else ws).map (.int .u64))::R):=by
 refine b8 rfl omQ λk hk=>?_;unfold S118;try simp only[iZ]
 refine qW (qq9 omQ H .here e_1) ?_;rintro _ _ ⟨rfl,rfl⟩;by_cases hc:1≤a∧a<ws.length
 ·rw[iG hc];simp only[iJ hc];obtain⟨k,rfl⟩:∃k:Nat,a=k:=⟨a.toNat,by omega⟩;refine jQ (qJ (qK (qQ (qZ ‹_› .here rfl ?_))));refine yr (H.ah e_1) omQ ⟨rfl,rfl⟩ λh2 H2=>?_;rw[← List.map_set]at H2;exact qY ⟨rfl,by rw[List.length_set];exact H2.pk [1,0] 0⟩
 ·rw[iV hc];simp only[iQ hc];refine jg (qX ?_);exact qY ⟨rfl,H⟩
theorem qVC {ws:List Int} {w:Int} (hn:2≤n) (H:HS g h (qx b [v]::qF e 1 ws.length v (ws.map (.int .u64))::R)) :
  af n 124 [.ptr b 0,.int .i64 a,.int .u64 w] h λr h'=>r=.int .i64 (if 0≤a∧a<ws.length then 0 else 2)∧
   HS g h' (qx b [v]::qF e 1 (if 0≤a∧a<ws.length then ws.set a.toNat w else ws).length v ((if 0≤a∧a<ws.length then ws.set a.toNat w else ws).map (.int .u64))::R):=by
 refine b8 rfl omQ λk hk=>?_;unfold S124;try simp only[iZ]
 refine qW (qj0 omQ H .here e_1) ?_;rintro _ _ ⟨rfl,rfl⟩;by_cases hc:0≤a∧a<ws.length
 ·rw[iG hc];simp only[iJ hc];obtain⟨k,rfl⟩:∃k:Nat,a=k:=⟨a.toNat,by omega⟩;refine jQ (qJ (qK (qQ (qZ ‹_› .here rfl ?_))));refine yr (H.ah e_1) omQ ⟨rfl,rfl⟩ λh2 H2=>?_;rw[← List.map_set]at H2;exact qY ⟨rfl,by rw[List.length_set];exact H2.pk [1,0] 0⟩
 ·rw[iV hc];simp only[iQ hc];refine jg (qX ?_);exact qY ⟨rfl,H⟩
variable {ls:List dI} {wd:AV}
theorem qzM (hn:2≤n) (H:HS g h L) (s:aR L (qx b [v,wd]) R) (s2:aR L (qF e 3 ls.length v (ls.flatMap jS)) R2) :
  af n 119 [.ptr b 0,.int .i64 a] h λr h'=>r=.bm [.agg (jS (if 0≤a∧a<ls.length then yP ls a else cZ)),.int .i64 (if 0≤a∧a<ls.length then 0 else 2)]∧HS g h' L:=by
 refine aG rfl omQ λk hk=>?_;unfold S119;try simp only[iZ]
 refine qH H rfl λb0 h1 H1=>?_;refine qW (qzt omQ H1 (.there s) (.there s2)) ?_;rintro _ _ ⟨rfl,rfl⟩;by_cases hc:0≤a∧a<ls.length
 ·rw[iG hc,iJ hc,iJ hc];obtain⟨k,rfl⟩:∃k:Nat,a=k:=⟨a.toNat,by omega⟩;refine jQ (qJ (qK (qQ (qZ H1 (.there s) rfl ?_))));refine zj (H1.sl (.there s2)) omQ omQ (JN omQ)<|qh H1 .here rfl (by simp) rfl λh2 H2=>?_;refine qD H2 .here rfl omQ rfl<|qY ⟨rfl,H2.drop⟩
 ·rw[iV hc,iQ hc,iQ hc];refine jg (qX (qy rfl ?_));refine qh H1 .here rfl (by simp) rfl λh2 H2=>?_;refine qD H2 .here rfl omQ rfl<|qY ⟨rfl,H2.drop⟩
def Qv (n:Nat) (a:Int) (l:dI):Int:=if 0≤a∧a<n then(if Gn l then 0 else 1)else 2
theorem qXO {l:dI} (hn:3≤n) (H:HS g h L) (s:aR L (qx b [v,wd]) R) (s2:aR L (qF e 3 m v xs) R2) :
  af n 175 [.ptr b 0,.int .i64 a,.agg (jS l)] h λr h'=>r=.int .i64 (Qv m a l)∧HS g h' L:=by
 refine b8 rfl omQ λk hk=>?_;unfold S175;try simp only[iZ]
 unfold Qv;refine qH H rfl λb0 h1 H1=>?_;refine qW (qzt omQ H1 (.there s) (.there s2)) ?_;rintro _ _ ⟨rfl,rfl⟩;by_cases hc:0≤a∧a<m
 ·rw[iG hc,iJ hc];refine jQ (qJ (qD H1 .here rfl omQ rfl ?_));refine qW (qy1 omQ H1) ?_;rintro _ h2 ⟨rfl,H2⟩;by_cases hl:Gn l
  ·rw[iG hl,iJ hl];refine jQ (qJ ?_);exact qY ⟨rfl,H2.drop⟩
  ·rw[iV hl,iQ hl];refine jg (qX ?_);exact qY ⟨rfl,H2.drop⟩
 ·rw[iV hc,iQ hc];refine jg (qX ?_);exact qY ⟨rfl,H1.drop⟩
theorem I4 (x y:dI):xk [.b6 .int 0,.b6 .bool 1,.b6 .int 2] (jS x) (jS y)=some (decide (x=y)):=by obtain⟨a,b,c⟩:=x;obtain⟨a',b',c'⟩:=y;show(bif eV a a' then(bif b==b' then(bif eV c c' then some true else some false)else some false)else some false)=_;rw[Q8,Q8];by_cases h1:a=a'<;>by_cases h3:c=c'<;>cases b<;>cases b'<;>simp[h1,h3]
theorem qgr {az l:dI} (hn:4≤n) (H:HS g h (qx b [v,wd]::qF e 3 ls.length v (ls.flatMap jS)::R)) :
  af n 120 [.ptr b 0,.int .i64 a,.agg (jS az),.agg (jS l)] h λr h'=>r=.bm [.bool (decide (Qv ls.length a l=0∧yP ls a=az)),.int .i64 (Qv ls.length a l)]∧
   HS g h' (qx b [v,wd]::qF e 3 (if Qv ls.length a l=0∧yP ls a=az then ls.set a.toNat l else ls).length v ((if Qv ls.length a l=0∧yP ls a=az then ls.set a.toNat l else ls).flatMap jS)::R):=by
 (refine qE rfl omQ λk hk=>?_;show wp (S120 (callT tab qv k) _ _ _ _ _) _;unfold S120;try simp only[iI,iZ])
 refine qH H rfl λb0 h1 H1=>?_;refine qH H1 rfl λb1 h2 H2=>?_;refine qD H2 .here rfl omQ rfl<|qW (qXO omQ H2 e_2 e_3) ?_;rintro _ h3 ⟨rfl,H3⟩;by_cases c0:Qv ls.length a l=0
 rotate_left
 ·refine jJ c0<|qX ?_;rw[iV (λh=>c0 h.1)];simp only[iQ (show¬(Qv ls.length a l=0∧yP ls a=az)from λh=>c0 h.1)];exact qY ⟨rfl,H3.drop.drop⟩
 have hc:0≤a∧a<ls.length:=by
  grind[Qv]
 obtain⟨k,rfl⟩:∃k:Nat,a=k:=⟨a.toNat,by omega⟩;refine q9 c0<|qJ (qK (qQ (qZ ‹_› e_2 rfl ?_)));refine zj (H3.sl e_3) omQ omQ (JN omQ)<|qD H3 e_1 rfl omQ rfl<|G3 (I4 _ _) (λc1=>?_) (λc1=>?_)
 ·rw[iG ⟨c0,c1⟩];simp only[iJ (show Qv ls.length k l=0∧yP ls k=az from⟨c0,c1⟩)];rw[c0];refine qJ (qK (qQ (qZ ‹_› e_2 rfl ?_)));refine qD H3 .here rfl omQ rfl<|Yp (l:=jS l) (H3.ah e_3) omQ rfl rfl λh4 H4=>?_;rw[UQ (enc:=jS) (λ_=>rfl) omQ]at H4;exact qY ⟨rfl,by rw[List.length_set];exact H4.pk [3,0] 2⟩
 ·rw[iV (λh=>c1 h.2)];simp only[iQ (show¬(Qv ls.length k l=0∧yP ls k=az)from λh=>c1 h.2)];rw[c0];refine qX<|qY ⟨rfl,H3.drop.drop⟩
theorem qWl {l:dI} (hn:4≤n) (H:HS g h (qx b [v,wd]::qF e 3 ls.length v (ls.flatMap jS)::R)) :
  af n 121 [.ptr b 0,.int .i64 a,.agg (jS l)] h λr h'=>r=.int .i64 (Qv ls.length a l)∧
   HS g h' (qx b [v,wd]::qF e 3 (if Qv ls.length a l=0 then ls.set a.toNat l else ls).length v ((if Qv ls.length a l=0 then ls.set a.toNat l else ls).flatMap jS)::R):=by
 refine b8 rfl omQ λk hk=>?_;unfold S121;try simp only[iZ]
 refine qH H rfl λb0 h1 H1=>?_;refine qD H1 .here rfl omQ rfl<|qW (qXO omQ H1 e_1 e_2) ?_;rintro _ h3 ⟨rfl,H3⟩;refine qG ?_
 try dsimp only
 by_cases c0:Qv ls.length a l=0
 rotate_left
 ·refine qV c0<|qJ (qg ?_);simp only[iQ c0];exact qY ⟨rfl,H3.drop⟩
 have hc:0≤a∧a<ls.length:=by
  grind[Qv]
 obtain⟨k,rfl⟩:∃k:Nat,a=k:=⟨a.toNat,by omega⟩;refine qj c0 ?_;simp only[iJ c0];refine qX (qK (qQ (qZ ‹_› e_1 rfl ?_)));refine qD H3 .here rfl omQ rfl<|Yp (l:=jS l) (H3.ah e_2) omQ rfl rfl λh4 H4=>?_;rw[UQ (sz:=3) (λ_=>rfl) omQ]at H4;refine qg<|qY ⟨rfl,by rw[List.length_set];exact H4.pk [2,0] 1⟩
end
def CG (p hb tb cb sb:Nat) (wv lv sv:AV) (S:xn) (M:zn) (R:List SP):List SP :=
 qx p [.int .i64 S.words,.int .i64 S.aj,.int .i64 S.wide,.int .i64 S.aF,.int .u64 S.start,.ptr hb 0,.ptr tb 0,.ptr cb 0,.ptr sb 0,.int .i64 M.cY]::qx hb [wv]::qF 22 1 M.w.length wv (M.w.map (.int .u64))::
 qx tb [lv,.int .i64 S.wide]::qF 54 3 M.l.length lv (M.l.flatMap jS)::qx cb [.int .u64 M.n]::qx sb [sv]::qF 22 1 M.s.length sv (M.s.map (.int .u64))::R
def bt (p:Nat) (S:xn) (M:zn):SP:=.ex λq:(Nat×Nat×Nat×Nat)×AV×AV×AV=>.all (CG p q.1.1 q.1.2.1 q.1.2.2.1 q.1.2.2.2 q.2.1 q.2.2.1 q.2.2.2 S M [])
section
variable {p hb tb cb sb:Nat} {wv lv sv:AV} {S:xn} {M:zn}
theorem bt.E (H:HS g h (bt p S M::R)):∃hb tb cb sb wv lv sv,HS g h (qx p [.int .i64 S.words,.int .i64 S.aj,.int .i64 S.wide,.int .i64 S.aF,.int .u64 S.start,.ptr hb 0,.ptr tb 0,.ptr cb 0,.ptr sb 0,.int .i64 M.cY]::qx hb [wv]::qF 22 1 M.w.length wv (M.w.map (.int .u64))::
  qx tb [lv,.int .i64 S.wide]::qF 54 3 M.l.length lv (M.l.flatMap jS)::qx cb [.int .u64 M.n]::qx sb [sv]::qF 22 1 M.s.length sv (M.s.map (.int .u64))::R):=by
 obtain⟨⟨⟨hb,tb,cb,sb⟩,wv,lv,sv⟩,H⟩:=H.dj;exact⟨hb,tb,cb,sb,wv,lv,sv,H.bS⟩
theorem bt.I (H:HS g h (CG p hb tb cb sb wv lv sv S M R)):HS g h (bt p S M::R):=HS.dE ((hb,tb,cb,sb),wv,lv,sv) (HS.allI H)
end
end
section
variable {g h:AH} {L R:List SP}
def yf (p:QQ) (xs:List AV):List AV:=.int .i64 p.me:: .int .i64 p.spins:: .int .i64 p.fin:: .int .i64 p.bM:: .int .i64 p.err::xs
def tu (o:Option dR):AV:=.bm [.agg (jn (o.getD (ck 0 0 0))),.bool o.isSome]
def Km (p:QQ):Prop:=p.fin=0→0≤p.spins∧p.spins≤4
section
variable {n b:Nat} {p:QQ} {xs:List AV}
theorem OX {me sp:Int} (hn:1≤n) (H:HS g h R):af n 166 [.int .i64 me,.int .i64 sp] h λr h'=>r=.agg (yf (J8 me sp) [])∧HS g h' R:=by
 refine aG rfl omQ λk hk=>?_;unfold S166;try simp only[iZ]
 refine qH H rfl λb h1 H1=>?_;refine zS (zu (qy rfl ?_));refine qh H1 .here rfl (by simp) rfl λh2 H2=>?_;refine qD H2 .here rfl omQ rfl<|qY ⟨rfl,H2.drop⟩
theorem Xl (hn:1≤n) (H:HS g h L) (s:aR L (qx b (yf p xs)) R):af n 145 [.ptr b 0] h λr h'=>r=.int .i64 p.fin∧h'=h:=by
 refine ag rfl omQ λk hk=>?_;unfold S145;try simp only
 refine qK (qQ ?_);exact qZ H s rfl (qY ⟨rfl,rfl⟩)
theorem qx2 (hn:1≤n) (H:HS g h L) (s:aR L (qx b (yf p xs)) R):af n 219 [.ptr b 0] h λr h'=>r=.int .i64 p.err∧h'=h:=by
 refine ag rfl omQ λk hk=>?_;unfold S219;try simp only
 refine qK (qQ ?_);exact qZ H s rfl (qY ⟨rfl,rfl⟩)
theorem RU (hn:1≤n) (H:HS g h L) (s:aR L (qx b (yf p xs)) R):af n 416 [.ptr b 0] h λr h'=>r=.int .i64 p.bM∧h'=h:=by
 refine ag rfl omQ λk hk=>?_;unfold S416;try simp only
 refine qK (qQ ?_);exact qZ H s rfl (qY ⟨rfl,rfl⟩)
theorem wV {f e y:Int} (hn:1≤n) (H:HS g h (qx b (yf p xs)::R)):af n 418 [.ptr b 0,.int .i64 f,.int .i64 e,.int .i64 y] h λ_ h'=>HS g h' (qx b (yf (jc p f e y) xs)::R):=by
 refine ra rfl omQ λk hk=>?_;unfold S418;try simp only
 unfold yf at H;refine qK (qQ (qw H .here ⟨rfl,rfl⟩ aA λh1 H1=>?_));refine qK (qQ (qw H1 .here ⟨rfl,rfl⟩ aA λh2 H2=>?_));refine qK (qQ (qw H2 .here ⟨rfl,rfl⟩ aA λh3 H3=>?_));exact qY H3
theorem KG {l:dI} (hn:1≤n) (hp:0≤p.spins∧p.spins≤4) (H:HS g h (qx b (yf p xs)::R)):af n 420 [.ptr b 0,.agg (jS l)] h λr h'=>r=.bool (jX p l).1∧HS g h' (qx b (yf (jX p l).2 xs)::R):=by
 refine aG rfl omQ λk hk=>?_;unfold S420;try simp only[iZ]
 refine qH H rfl λb0 h1 H1=>?_;have H1:HS g h1 (qx b0 (jS l)::qx b (.int .i64 p.me:: .int .i64 p.spins:: .int .i64 p.fin:: .int .i64 p.bM:: .int .i64 p.err::xs)::R):=H1;unfold jS at H1;refine qQ (qZ ‹_› .here rfl ?_);refine qK (qQ (qZ ‹_› e_1 rfl ?_));unfold jX;by_cases c:p.me<l.2.2
 ·refine zv c ?_;rw[iJ c];refine qX<|qY ⟨rfl,H1.drop⟩
 ·refine zV c ?_;rw[iQ c];refine qJ (qK (qQ (qZ ‹_› e_1 rfl ?_)));refine jK omQ<|qK (qQ (qw H1 e_1 ⟨rfl,rfl⟩ aA λh2 H2=>?_));refine qK (qQ (qZ ‹_› .here rfl ?_));refine xF (λc2=>?_) (λc2=>?_)
  ·exact qY ⟨by grind,H2.pk [0] 1⟩
  ·exact qY ⟨by grind,H2.pk [0] 1⟩
theorem XG {a:cT} (hn:2≤n) (H:HS g h (qx b (yf p xs)::R)):af n 417 [.ptr b 0,.agg (jI a)] h λr h'=>r=.bool (qo p a).1∧HS g h' (qx b (yf (qo p a).2 xs)::R):=by
 refine aG rfl omQ λk hk=>?_;unfold S417;try simp only[iZ]
 refine qH H rfl λb0 h1 H1=>?_;unfold jI at H1;refine jq [] (λs h'=>s=(.ptr b 0,())∧HS g h' (qx b (yf (if p.fin=0∧a.err≠0 then jc p 4 a.err (-1)else p) xs)::R)) ?_ ?_
 rotate_left
 ·rintro s h2 ⟨rfl,H2⟩;unfold yf at H2;refine qK (qQ (qZ ‹_› .here rfl ?_));by_cases c:p.fin=0∧a.err≠0
  ·rw[iJ c]at H2;rw[show qo p a=(true,jc p 4 a.err (-1))from iJ c,iJ c];refine jJ (by nofun)<|qg<|qY ⟨rfl,H2⟩
  ·rw[iQ c]at H2;rw[show qo p a=(decide (p.fin≠0),p)from iQ c,iQ c];refine xx (λc2=>?_) (λc2=>?_)
   ·refine qg<|qY ⟨congrArg AV.bool (iG c2).symm,H2⟩
   ·refine qg<|qY ⟨congrArg AV.bool (iV (λh=>h c2)).symm,H2⟩
 intro j hj;refine qK (qQ (qZ ‹_› e_1 rfl ?_));by_cases c:p.fin=0
 ·refine qj c<|qG<|qR<|qQ (qZ ‹_› .here rfl ?_)
  by_cases c2:a.err=0
  ·refine q9 c2<|qC (qJ ?_);exact hj _ _ ⟨rfl,by rw[iQ (λh=>h.2 c2)];exact H1.drop⟩
  ·refine jJ c2<|qC (qX (qQ (qZ ‹_› .here rfl ?_)));refine qW (wV omQ (H1.ah e_1)) λ_ h2 H2=>?_;exact hj _ _ ⟨rfl,by rw[iJ ⟨c,c2⟩];exact H2.pk [0] 1⟩
 ·refine qV c<|qG<|qT<|qB (qJ ?_)
  exact hj _ _ ⟨rfl,by rw[iQ (λh=>c h.1)];exact H1.drop⟩
end
def wM (f:kT):List AV:=yf f.p [.int .i64 f.at_,.int .i64 f.ca,.int .u64 f.ak,.int .i64 f.state,.int .u64 f.lk.1,.bool f.lk.2.1,.int .i64 f.lk.2.2,.int .u64 f.word]
section
variable {n b:Nat} {f:kT}
theorem qvR {me at_ st sp t:Int} (hn:2≤n) (H:HS g h R):af n 163 [.int .i64 me,.int .i64 at_,.int .i64 st,.int .i64 sp,.int .u64 t] h λr h'=>∃b,r=.ptr b 0∧HS g h' (qx b (wM (U1 me at_ st sp t))::R):=by
 refine Fm rfl omQ λk hk=>?_;unfold S163;try simp only[iZ]
 refine qW (OX omQ H) ?_;rintro _ h1 ⟨rfl,H1⟩;unfold yf;refine qy rfl<|qH H1 rfl λb h2 H2=>qY ⟨b,rfl,H2⟩
theorem qYd (hn:2≤n) (H:HS g h (qx b (wM f)::R)):af n 414 [.ptr b 0] h λr h'=>r=tu (QJ f)∧HS g h' (qx b (wM f)::R):=by
 refine ag rfl omQ λk hk=>?_;unfold S414;try simp only[iZ]
 refine qH H rfl λb0 h1 H1=>?_;refine qK (qQ (qW (Xl omQ H1 e_1) ?_));rintro _ _ ⟨rfl,rfl⟩;unfold QJ;have H2:=H1;unfold wM yf at H2;by_cases c:f.p.fin=0
 ·refine q9 c ?_;rw[iQ (λh=>h c)];refine qJ (qK (qQ (qZ ‹_› e_1 rfl ?_)));by_cases c2:f.state=1
  ·refine qj c2 ?_;rw[iJ c2];refine qX (qK (qQ (qZ ‹_› e_1 rfl ?_)));refine qy rfl<|qh H1 .here rfl (by simp) rfl λh3 H3=>?_;refine qD H3 .here rfl omQ rfl<|qY ⟨rfl,H3.drop⟩
  ·refine qV c2 ?_;rw[iQ c2];refine qJ (qK (qQ (qZ ‹_› e_1 rfl ?_)));refine qy rfl<|qh H1 .here rfl (by simp) rfl λh3 H3=>?_;refine qD H3 .here rfl omQ rfl<|qY ⟨rfl,H3.drop⟩
 ·refine jJ c ?_;rw[iJ c];refine qX (qy rfl ?_);refine qh H1 .here rfl (by simp) rfl λh3 H3=>?_;refine qD H3 .here rfl omQ rfl<|qY ⟨rfl,H3.drop⟩
theorem Mf {l:dI} (hn:2≤n) (hp:0≤f.p.spins∧f.p.spins≤4) (H:HS g h (qx b (wM f)::R)):af n 419 [.ptr b 0,.agg (jS l)] h λ_ h'=>HS g h' (qx b (wM (QI f l))::R):=by
 refine aG rfl omQ λk hk=>?_;unfold S419;try simp only[iZ]
 refine qH H rfl λb0 h1 H1=>?_;unfold wM yf jS at H1;refine qK (qQ (qw H1 e_1 ⟨rfl,rfl⟩ aA λh2 H2=>?_));have H2:HS g h2 (qx b (wM { f with state:=0 })::qx b0 (jS l)::R):=H2;have H3:=H2;unfold wM yf jS at H3;refine qG<|qQ (qZ ‹_› e_1 rfl ?_)
 unfold QI;obtain⟨w,d,o⟩:=l;cases d with
 |true=>
  rw[iJ rfl];refine qX (qK (qQ (qD H2 e_1 rfl omQ rfl ?_)));refine qW (KG omQ hp H2) ?_;rintro _ h4 ⟨rfl,H4⟩;cases hw:(jX f.p (w,true,o)).1 with
  |true=>rw[iJ rfl];refine jQ (qJ (qg ?_));exact qY (H4.pk [0] 1)
  |false=>rw[iQ aA];have H5:=H4;unfold jS at H5;refine jg (qX (qK (qQ (qQ (qZ ‹_› e_1 rfl ?_)))));refine qW (wV omQ H4) λ_ h5 H5=>?_;refine qg<|qY (H5.pk [0] 1)
 |false=>
  rw[iQ aA];refine qJ (qQ (qZ ‹_› e_1 rfl ?_));refine qK (qQ (qZ ‹_› .here rfl ?_));by_cases c:f.ak<w
  ·refine zv c ?_;rw[iJ c];refine qX (qK (qQ (qW (wV omQ H2) λ_ h5 H5=>?_)));refine qg<|qY (H5.pk [0] 1)
  ·refine zV c ?_;rw[iQ c];refine qJ (qD H3 e_1 rfl omQ rfl ?_);refine qK (qQ (qh H3 .here rfl (by simp) rfl λh5 H5=>?_));refine qK (qQ (qw H5 .here ⟨rfl,rfl⟩ (by simp[wL]) λh6 H6=>?_));refine qg<|qY (H6.pk [0] 1)
theorem qqO {a:cT} (hn:3≤n) (hp:Km f.p) (H:HS g h (qx b (wM f)::R)):af n 415 [.ptr b 0,.agg (jI a)] h λ_ h'=>HS g h' (qx b (wM (xQ f a))::R):=by
 (refine qE rfl omQ λk hk=>?_;show wp (S415 (callT tab qv k) _ _ _) _;unfold S415;try simp only[iI,iZ])
 generalize hF:xQ f a=F;refine qH H rfl λb0 h1 H1=>?_;refine jq [] (λ_ h'=>HS g h' (qx b (wM F)::R)) (λj hj=>?_) λ_ h' H'=>?_
 rotate_left
 ·refine qg<|qY H'
 refine qK (qQ (qD H1 .here rfl omQ rfl ?_));refine qW (XG omQ (H1.ah e_1)) ?_;rintro _ h2 ⟨rfl,H2⟩;unfold xQ at hF;cases hs:(qo f.p a).1 with
 |true=>rw[iJ hs]at hF;refine qX<|hj _ _ (by rw[← hF];exact H2.pk [0] 1)
 |false=>
  rw[iQ (by grind)]at hF;have tx:(qo f.p a).2=f.p∧f.p.fin=0:=by
   unfold qo at hs ⊢
   grind
  rw[tx.1]at H2;have H3:HS g h2 (qx b (wM f)::qx b0 (jI a)::R):=H2;have H4:=H3;unfold wM yf jI at H4;refine qJ (qK (qQ (qZ ‹_› .here rfl ?_)));by_cases c1:f.state=1
  ·refine qj c1 ?_;rw[iJ c1]at hF;refine qX (qQ (qZ ‹_› e_1 rfl ?_));refine qK (qQ (qw H4 .here ⟨rfl,rfl⟩ aA λh5 H5=>?_));refine qK (qQ (qw H5 .here ⟨rfl,rfl⟩ aA λh6 H6=>?_));exact hj _ _ (by rw[← hF];exact H6.pk [0] 1)
  refine qV c1 ?_;rw[iQ c1]at hF;refine qJ (qK (qQ (qZ ‹_› .here rfl ?_)));by_cases c2:f.state=2
  ·refine qj c2<|qG<|qR<|qQ ?_
   refine qD H4 e_1 rfl omQ rfl<|qK (qQ (qD H4 .here rfl omQ rfl ?_));refine G3 (I4 _ _) (λc3=>?_) (λc3=>?_)
   ·rw[iJ ⟨c2,c3⟩]at hF;refine qC (qX (qK (qQ (qW (wV omQ H3) λ_ h5 H5=>?_))));exact hj _ _ (by rw[← hF];exact H5.pk [0] 1)
   ·rw[iQ (λh=>c3 h.2)]at hF;refine qC (qJ (qQ (qD H4 e_1 rfl omQ rfl ?_)));refine qW (Mf omQ (hp tx.2) H3) λ_ h5 H5=>?_;exact hj _ _ (by rw[← hF];exact H5.pk [0] 1)
  ·refine qV c2 ?_;rw[iQ (λh=>c2 h.1)]at hF;refine qG<|qT<|qB (qJ (qQ ?_))
   refine qD H4 e_1 rfl omQ rfl<|qW (Mf omQ (hp tx.2) H3) λ_ h5 H5=>?_;exact hj _ _ (by rw[← hF];exact H5.pk [0] 1)
theorem K7 (hn:2≤n) (H:HS g h L) (s:aR L (qx b (wM f)) R):af n 213 [.ptr b 0] h λr h'=>r=.int .i64 f.p.fin∧h'=h:=by
 refine ag rfl omQ λk hk=>?_;unfold S213;try simp only
 refine qK (qQ (qW (Xl omQ H s) ?_));rintro _ _ ⟨rfl,rfl⟩;exact qY ⟨rfl,rfl⟩
theorem qyN (hn:2≤n) (H:HS g h L) (s:aR L (qx b (wM f)) R):af n 413 [.ptr b 0] h λr h'=>r=.int .i64 f.p.bM∧h'=h:=by
 refine ag rfl omQ λk hk=>?_;unfold S413;try simp only
 refine qK (qQ (qW (RU omQ H s) ?_));rintro _ _ ⟨rfl,rfl⟩;exact qY ⟨rfl,rfl⟩
theorem qq2 (hn:3≤n) (H:HS g h L) (s:aR L (qx b (wM f)) R):af n 217 [.ptr b 0] h λr h'=>r=.int .u64 (xp f)∧h'=h:=by
 refine ag rfl omQ λk hk=>?_;unfold S217;try simp only[iZ]
 refine qW (K7 omQ H s) ?_;rintro _ _ ⟨rfl,rfl⟩;unfold xp;by_cases c:f.p.fin=2
 ·refine q9 c ?_;rw[iQ (λh=>h c)];refine qJ (qK (qQ ?_));exact qZ H s rfl (qY ⟨rfl,rfl⟩)
 ·refine jJ c ?_;rw[iJ c];refine qX<|qY ⟨rfl,rfl⟩
def xK (x:xA):List AV:=[.int .i64 x.1,.int .u64 x.2]
theorem qY6 (hn:3≤n) (H:HS g h L) (s:aR L (qx b (wM f)) R):af n 215 [.ptr b 0] h λr h'=>r=.agg (xK (xE f))∧HS g h' L:=by
 refine ag rfl omQ λk hk=>?_;unfold S215;try simp only[iZ]
 refine qH H rfl λb0 h1 H1=>?_;refine qW (K7 omQ H1 (.there s)) ?_;rintro _ _ ⟨rfl,rfl⟩;unfold xE;by_cases c:f.p.fin=2
 ·refine q9 c ?_;rw[iQ (λh=>h c)];refine qJ (qK (qQ (qZ H1 (.there s) rfl ?_)));refine qK (qQ (qZ H1 (.there s) rfl ?_));refine qy rfl<|qh H1 .here rfl (by simp) rfl λh3 H3=>?_;refine qD H3 .here rfl omQ rfl<|qY ⟨rfl,H3.drop⟩
 ·refine jJ c ?_;rw[iJ c];refine qX (qy rfl ?_);refine qh H1 .here rfl (by simp) rfl λh3 H3=>?_;refine qD H3 .here rfl omQ rfl<|qY ⟨rfl,H3.drop⟩
end
end
section
variable {g h:AH} {L R:List SP}
section
variable {n m:Nat} {v:AV} {xs:List AV}
theorem NF (hn:1≤n) (H:HS g h L) (s:aR L (qF 22 1 m v xs) R) (ha:jV xs=true) (hm:m≤1000000) :
  af n 139 [v] h λr h'=>HS g h' (qF 22 1 m r xs::L):=by
 refine ag rfl omQ λk hk=>?_;unfold S139;try simp only[iZ]
 refine Xo H s (λh1 h2=>?_) (qJ ?_)
 ·subst h1 h2;obtain rfl:xs=[]:=iA (by simpa using H.dl s);exact qX (qY H.ad)
 ·refine qr (l:=[]) H rfl rfl rfl rfl λv2 h2 H2=>?_;refine jh H2 (H2.sl (.there s)) omQ omQ ha λv3 h3 H3=>?_;rw[Nat.zero_add,List.nil_append]at H3;exact qY H3
theorem qVN (hn:1≤n) (H:HS g h L) (s:aR L (qF 54 3 m v xs) R) (ha:jV xs=true) (hm:m≤1000000) :
  af n 140 [v] h λr h'=>HS g h' (qF 54 3 m r xs::L):=by
 refine ag rfl omQ λk hk=>?_;unfold S140;try simp only[iZ]
 refine Xo H s (λh1 h2=>?_) (qJ ?_)
 ·subst h1 h2;obtain rfl:xs=[]:=iA (by simpa using H.dl s);exact qX (qY H.ad)
 ·refine qr (l:=[]) H rfl rfl rfl rfl λv2 h2 H2=>?_;refine jh H2 (H2.sl (.there s)) omQ omQ ha λv3 h3 H3=>?_;rw[Nat.zero_add,List.nil_append]at H3;exact qY H3
theorem Y0 (hn:1≤n) (H:HS g h L) (s:aR L (qF 122 2 m v xs) R) (ha:jV xs=true) (hm:m≤1000000) :
  af n 155 [v] h λr h'=>HS g h' (qF 122 2 m r xs::L):=by
 refine ag rfl omQ λk hk=>?_;unfold S155;try simp only[iZ]
 refine Xo H s (λh1 h2=>?_) (qJ ?_)
 ·subst h1 h2;obtain rfl:xs=[]:=iA (by simpa using H.dl s);exact qX (qY H.ad)
 ·refine qr (l:=[]) H rfl rfl rfl rfl λv2 h2 H2=>?_;refine jh H2 (H2.sl (.there s)) omQ omQ ha λv3 h3 H3=>?_;rw[Nat.zero_add,List.nil_append]at H3;exact qY H3
end
theorem Gu {f:Int→AV} (hf:∀x,(f x).one=true):∀l:List Int,jV (l.map f)=true:=by grind[jV,List.all_map,List.all_eq_true]
theorem QS {α:Type} {f:α→List AV} (hf:∀x,jV (f x)=true):∀l:List α,jV (l.flatMap f)=true:=by
 intro l
 induction l with
 |nil=>rfl
 |cons x l ih=>rw[List.flatMap_cons];unfold jV at*;grind
section
variable {n b m:Nat} {v wd:AV} {e:TypeId} {xs:List AV} {R2:List SP}
theorem qg7 (hn:2≤n) (H:HS g h L) (s:aR L (qx b [v]) R) (s2:aR L (qF 22 1 m v xs) R2) (ha:jV xs=true) (hm:m≤1000000) :
  af n 79 [.ptr b 0] h λr h'=>HS g h' (qF 22 1 m r xs::L):=by
 refine ag rfl omQ λk hk=>?_;unfold S79;try simp only
 refine qK (qQ (qZ H s rfl ?_));exact qW (NF omQ H s2 ha hm) λ_ _ H1=>qY H1
theorem qvC (hn:2≤n) (H:HS g h L) (s:aR L (qx b [v]) R) (s2:aR L (qF 22 1 m v xs) R2) (ha:jV xs=true) (hm:m≤1000000) :
  af n 82 [.ptr b 0] h λr h'=>HS g h' (qF 22 1 m r xs::L):=by
 refine ag rfl omQ λk hk=>?_;unfold S82;try simp only
 refine qK (qQ (qZ H s rfl ?_));exact qW (NF omQ H s2 ha hm) λ_ _ H1=>qY H1
theorem qg8 (hn:2≤n) (H:HS g h L) (s:aR L (qx b [v,wd]) R) (s2:aR L (qF 54 3 m v xs) R2) (ha:jV xs=true) (hm:m≤1000000) :
  af n 80 [.ptr b 0] h λr h'=>HS g h' (qF 54 3 m r xs::L):=by
 refine ag rfl omQ λk hk=>?_;unfold S80;try simp only
 refine qK (qQ (qZ H s rfl ?_));exact qW (qVN omQ H s2 ha hm) λ_ _ H1=>qY H1
end
section
variable {n p hb tb cb sb:Nat} {wv lv sv:AV} {S:xn} {M:zn} {o:dR}
theorem bt.I1 {X:SP} (H:HS g h (X::CG p hb tb cb sb wv lv sv S M R)):HS g h (X::bt p S M::R):=HS.dh e_1 (bt.I (HS.back (A:=CG p hb tb cb sb wv lv sv S M []) H))
theorem qWT (hn:3≤n) (hw:M.w.length≤1000000) (H:HS g h (bt p S M::R)) :
  af n 21 [.ptr p 0] h λr h'=>HS g h' (qF 22 1 M.w.length r (M.w.map (.int .u64))::bt p S M::R):=by
 refine ag rfl omQ λk hk=>?_;unfold S21;try simp only
 obtain⟨hb,tb,cb,sb,wv,lv,sv,H⟩:=bt.E H;refine qK (qQ (qZ ‹_› .here rfl ?_));exact qW (qg7 omQ H e_1 e_2 (Gu (λ_=>rfl) _) hw) λ_ _ H1=>qY (bt.I1 H1)
theorem qK2 (hn:3≤n) (hw:M.s.length≤1000000) (H:HS g h (bt p S M::R)) :
  af n 25 [.ptr p 0] h λr h'=>HS g h' (qF 22 1 M.s.length r (M.s.map (.int .u64))::bt p S M::R):=by
 refine ag rfl omQ λk hk=>?_;unfold S25;try simp only
 obtain⟨hb,tb,cb,sb,wv,lv,sv,H⟩:=bt.E H;refine qK (qQ (qZ ‹_› .here rfl ?_));exact qW (qvC omQ H e_6 e_7 (Gu (λ_=>rfl) _) hw) λ_ _ H1=>qY (bt.I1 H1)
theorem qWN (hn:3≤n) (hw:M.l.length≤1000000) (H:HS g h (bt p S M::R)) :
  af n 23 [.ptr p 0] h λr h'=>HS g h' (qF 54 3 M.l.length r (M.l.flatMap jS)::bt p S M::R):=by
 refine ag rfl omQ λk hk=>?_;unfold S23;try simp only
 obtain⟨hb,tb,cb,sb,wv,lv,sv,H⟩:=bt.E H;refine qK (qQ (qZ ‹_› .here rfl ?_));exact qW (qg8 omQ H e_3 e_4 (QS (λ_=>rfl) _) hw) λ_ _ H1=>qY (bt.I1 H1)
theorem qQ9 {b:Nat} {x:Int} (hn:1≤n) (H:HS g h L) (s:aR L (qx b [.int .u64 x]) R):af n 81 [.ptr b 0] h λr h'=>r=.int .u64 x∧h'=h:=by
 refine ag rfl omQ λk hk=>?_;unfold S81;try simp only
 refine qK (qQ ?_);exact qZ H s rfl (qY ⟨rfl,rfl⟩)
theorem qwP (hn:2≤n) (H:HS g h (bt p S M::R)):af n 24 [.ptr p 0] h λr h'=>r=.int .u64 M.n∧h'=h:=by
 refine ag rfl omQ λk hk=>?_;unfold S24;try simp only
 obtain⟨hb,tb,cb,sb,wv,lv,sv,H⟩:=bt.E H;refine qK (qQ (qZ ‹_› .here rfl ?_));refine qW (qQ9 omQ H e_5) ?_;rintro _ _ ⟨rfl,rfl⟩;exact qY ⟨rfl,rfl⟩
theorem qv7 {b:Nat} (hn:1≤n) (H:HS g h (qx b [.int .u64 M.n]::R)):af n 122 [.ptr b 0,.int .u64 o.cr,.int .u64 o.word] h λr h'=>
  r=.bm [.bool (JI M { o with kind:=7 }).1.done,.int .i64 (JI M { o with kind:=7 }).1.err]∧HS g h' (qx b [.int .u64 (JI M { o with kind:=7 }).2.n]::R):=by
 refine b8 rfl omQ λk hk=>?_;unfold S122;try simp only[iZ]
 unfold JI;rw[iQ (show¬(7:Int)=6 by simp)];refine yb (λc1=>?_) (λc1=>?_)
 ·rw[iJ c1];refine qX<|qY ⟨rfl,H⟩
 rw[iQ c1];refine qJ (xF (λc2=>?_) (λc2=>?_))
 ·rw[iJ (by omega)];refine qX<|qY ⟨rfl,H⟩
 rw[iQ (by omega)];refine qJ (qK (qQ (qZ ‹_› .here rfl ?_)));refine xx (λc3=>?_) (λc3=>?_)
 ·rw[iJ c3];refine qX<|qY ⟨rfl,H⟩
 ·rw[iQ (λh=>h c3)];refine qJ (qK (qQ (qw H .here ⟨rfl,rfl⟩ aA λh2 H2=>?_)));exact qY ⟨rfl,H2⟩
def gd (M:zn) (o:dR):cT×zn:=if o.kind=1∨o.kind=2 then Ks M o else if o.kind=3∨o.kind=4∨o.kind=5 then Kw M o else if o.kind=6∨o.kind=7 then JI M o else if o.kind=8∨o.kind=9 then VX M o else(ia 1,M)
theorem GJ:xD M o=if(gd M o).1.err=0 then((gd M o).1,{ (gd M o).2 with cY:=(gd M o).2.cY+1 })else gd M o:=rfl
theorem qQH:(gd M o).2.cY=M.cY:=by
 grind[gd,Ks,Kw,JI,VX]
theorem qy5 (hn:6≤n) (H:HS g h (bt p S M::R)) :
  af n 66 [.ptr p 0,.agg (jn o)] h λr h'=>r=.agg (jI (gd M o).1)∧HS g h' (bt p S (gd M o).2::R):=by
 refine aG rfl omQ λk hk=>?_;unfold S66;try simp only[iZ]
 generalize hr:gd M o=r;obtain⟨hb,tb,cb,sb,wv,lv,sv,H⟩:=bt.E H;refine qH H rfl λb0 h1 H1=>?_;refine qH H1 rfl λb1 h2 H2=>?_;refine qH H2 rfl λb2 h3 H3=>?_;unfold jn at H3;refine qQ (qZ H3 e_2 rfl ?_);refine jq [] (λs h'=>s=(.ptr b2 0,.ptr b1 0,())∧HS g h' (qx b2 (jI r.1)::qx b1 (jI dX)::CG p hb tb cb sb wv lv sv S r.2 R)) ?_ ?_
 rotate_left
 ·rintro s h4 ⟨rfl,H4⟩;refine qD H4 .here rfl omQ rfl<|qh H4 e_1 rfl (by trivial) rfl λh5 H5=>?_;refine qg (qD H5 .here rfl omQ rfl ?_);exact qY ⟨rfl,bt.I (H5.drop.drop)⟩
 intro j hj;by_cases k1:o.kind=1
 ·refine qj k1<|qX (qK (qQ (qZ ‹_› e_3 rfl ?_)));refine qQ (qZ ‹_› e_2 rfl ?_);have e:r=(⟨(if 1≤o.at_∧o.at_<M.w.length then qP M.w o.at_ else 0),cZ,false,(if 1≤o.at_∧o.at_<M.w.length then 0 else 2)⟩,M):=by
   rw[← hr];unfold gd Ks ia;grind
  subst e;refine qW (qzE omQ H3 e_4 e_5) ?_;rintro _ _ ⟨rfl,rfl⟩;refine qA rfl<|qA rfl<|qQ (qw H3 .here ⟨rfl,rfl⟩ (by simp) λh4 H4=>?_);refine qQ (qw H4 .here ⟨rfl,rfl⟩ (by simp) λh5 H5=>?_);exact hj _ _ ⟨rfl,H5.pk [0,0] 1⟩
 refine qV k1<|qJ ?_;by_cases k2:o.kind=2
 ·refine qj k2<|qX (qK (qQ (qZ ‹_› e_3 rfl ?_)));refine qQ (qZ ‹_› e_2 rfl ?_);refine qQ (qZ ‹_› e_2 rfl ?_);have e:r=(⟨0,cZ,false,(if 1≤o.at_∧o.at_<M.w.length then 0 else 2)⟩,{ M with w:=(if 1≤o.at_∧o.at_<M.w.length then M.w.set o.at_.toNat o.word else M.w) }):=by
   rw[← hr];unfold gd Ks ia;rw[iJ (.inr k2)];by_cases c:1≤o.at_∧o.at_<M.w.length
   ·rw[iQ omQ,iQ k1,iJ c,iJ c];rfl
   ·rw[iJ omQ,iQ c,iQ c]
  subst e;refine qW (qVm omQ (H3.pk [4,4] 0)) ?_;rintro _ h4 ⟨rfl,H4⟩;refine qQ (qw H4 e_2 ⟨rfl,rfl⟩ (by simp) λh5 H5=>?_);exact hj _ _ ⟨rfl,H5.pk [0,2,3,0,0] 1⟩
 refine qV k2<|qJ ?_;by_cases k3:o.kind=3
 ·refine qj k3<|qX (qK (qQ (qZ ‹_› e_3 rfl ?_)));refine qQ (qZ ‹_› e_2 rfl ?_);have e:r=(⟨0,(if 0≤o.at_∧o.at_<M.l.length then yP M.l o.at_ else cZ),false,(if 0≤o.at_∧o.at_<M.l.length then 0 else 2)⟩,M):=by
   rw[← hr];unfold gd Kw ia;grind
  subst e;refine qW (qzM omQ H3 e_6 e_7) ?_;rintro _ h4 ⟨rfl,H4⟩;refine qA rfl<|qA rfl<|qQ (qh H4 .here rfl (by simp) rfl λh5 H5=>?_);refine qQ (qw H5 .here ⟨rfl,rfl⟩ (by show 5<6;omega) λh6 H6=>?_);exact hj _ _ ⟨rfl,H6.pk [0,0] 1⟩
 refine qV k3<|qJ ?_;by_cases k4:o.kind=4
 ·refine qj k4<|qX (qK (qQ (qZ ‹_› e_3 rfl ?_)));refine qQ (qZ ‹_› e_2 rfl ?_);refine qQ ?_;have e:r=(⟨0,cZ,decide (Qv M.l.length o.at_ o.lk=0∧yP M.l o.at_=o.az),Qv M.l.length o.at_ o.lk⟩,{ M with l:=if Qv M.l.length o.at_ o.lk=0∧yP M.l o.at_=o.az then M.l.set o.at_.toNat o.lk else M.l }):=by
   rw[← hr];unfold gd Kw Qv ia dX;rw[iQ omQ,iJ (.inr (.inl k4))];by_cases c:0≤o.at_∧o.at_<M.l.length
   ·rw[iQ omQ,iQ k3,iJ c];by_cases c2:Gn o.lk
    ·rw[iQ (λh=>h c2),iQ omQ,iJ c2];split<;>simp_all
    simp_all
   ·rw[iJ omQ,iQ c,iV aA,iQ aA]
  subst e;refine qD H3 e_2 rfl omQ rfl<|qQ (qD H3 e_2 rfl omQ rfl ?_);refine qW (qgr omQ (H3.pk [6,6] 0)) ?_;rintro _ h4 ⟨rfl,H4⟩;refine qA rfl<|qA rfl<|qQ (qw H4 e_2 ⟨rfl,rfl⟩ (by simp) λh5 H5=>?_);refine qQ (qw H5 .here ⟨rfl,rfl⟩ (by simp) λh6 H6=>?_);exact hj _ _ ⟨rfl,H6.pk [0,2,3,3,3,0,0] 1⟩
 refine qV k4<|qJ ?_;by_cases k5:o.kind=5
 ·refine qj k5<|qX (qK (qQ (qZ ‹_› e_3 rfl ?_)));refine qQ (qZ ‹_› e_2 rfl ?_);refine qQ ?_;have e:r=(⟨0,cZ,false,Qv M.l.length o.at_ o.lk⟩,{ M with l:=if Qv M.l.length o.at_ o.lk=0 then M.l.set o.at_.toNat o.lk else M.l }):=by
   rw[← hr];unfold gd Kw Qv ia dX;rw[iQ omQ,iJ (.inr (.inr k5))];by_cases c:0≤o.at_∧o.at_<M.l.length
   ·rw[iQ omQ,iQ k3,iJ c];split<;>simp_all
   ·rw[iJ omQ,iQ c,iQ od]
  subst e;refine qD H3 e_2 rfl omQ rfl<|qW (qWl omQ (H3.pk [6,6] 0)) ?_;rintro _ h4 ⟨rfl,H4⟩;refine qQ (qw H4 e_2 ⟨rfl,rfl⟩ (by simp) λh5 H5=>?_);exact hj _ _ ⟨rfl,H5.pk [0,2,3,3,3,0,0] 1⟩
 refine qV k5<|qJ ?_;by_cases k6:o.kind=6
 ·refine qj k6<|qX (qK (qQ (qZ ‹_› e_3 rfl ?_)));have e:r=(⟨M.n,cZ,false,0⟩,M):=by
   rw[← hr];unfold gd JI;grind
  subst e;refine qW (qQ9 omQ H3 e_8) ?_;rintro _ _ ⟨rfl,rfl⟩;refine qQ (qw H3 .here ⟨rfl,rfl⟩ (by simp) λh4 H4=>?_);exact hj _ _ ⟨rfl,H4.pk [0,0] 1⟩
 refine qV k6<|qJ ?_;by_cases k7:o.kind=7
 ·refine qj k7<|qX (qK (qQ (qZ ‹_› e_3 rfl ?_)));refine qQ (qZ ‹_› e_2 rfl ?_);refine qQ (qZ ‹_› e_2 rfl ?_);have e:r=(⟨0,cZ,(JI M { o with kind:=7 }).1.done,(JI M { o with kind:=7 }).1.err⟩,{ M with n:=(JI M { o with kind:=7 }).2.n }):=by
   rw[← hr];unfold gd JI ia dX;rw[iQ omQ,iQ omQ,iJ (.inr k7),iQ k6,iQ (show¬(7:Int)=6 by simp)];dsimp only
   repeat' split
   all_goals rfl
  subst e;refine qW (qv7 omQ (H3.pk [8] 0)) ?_;rintro _ h4 ⟨rfl,H4⟩;refine qA rfl<|qA rfl<|qQ (qw H4 e_1 ⟨rfl,rfl⟩ (by simp) λh5 H5=>?_);refine qQ (qw H5 .here ⟨rfl,rfl⟩ (by simp) λh6 H6=>?_);exact hj _ _ ⟨rfl,H6.pk [0,1,2,2,2,2,2,0] 1⟩
 refine qV k7<|qJ ?_;by_cases k8:o.kind=8
 ·refine qj k8<|qX (qK (qQ (qZ ‹_› e_3 rfl ?_)));refine qQ (qZ ‹_› e_2 rfl ?_);have e:r=(⟨(if 0≤o.at_∧o.at_<M.s.length then qP M.s o.at_ else 0),cZ,false,(if 0≤o.at_∧o.at_<M.s.length then 0 else 2)⟩,M):=by
   rw[← hr];unfold gd VX ia;grind
  subst e;refine qW (qz8 omQ H3 e_9 e_10) ?_;rintro _ _ ⟨rfl,rfl⟩;refine qA rfl<|qA rfl<|qQ (qw H3 .here ⟨rfl,rfl⟩ (by simp) λh4 H4=>?_);refine qQ (qw H4 .here ⟨rfl,rfl⟩ (by simp) λh5 H5=>?_);exact hj _ _ ⟨rfl,H5.pk [0,0] 1⟩
 refine qV k8<|qJ ?_;by_cases k9:o.kind=9
 ·refine qj k9<|qX (qK (qQ (qZ ‹_› e_3 rfl ?_)));refine qQ (qZ ‹_› e_2 rfl ?_);refine qQ (qZ ‹_› e_2 rfl ?_);have e:r=(⟨0,cZ,false,(if 0≤o.at_∧o.at_<M.s.length then 0 else 2)⟩,{ M with s:=(if 0≤o.at_∧o.at_<M.s.length then M.s.set o.at_.toNat o.word else M.s) }):=by
   rw[← hr];unfold gd VX ia;rw[iQ omQ,iQ omQ,iQ omQ,iJ (.inr k9)];by_cases c:0≤o.at_∧o.at_<M.s.length
   ·rw[iQ omQ,iQ k8,iJ c,iJ c];rfl
   ·rw[iJ omQ,iQ c,iQ c]
  subst e;refine qW (qVC omQ (H3.pk [9,9] 0)) ?_;rintro _ h4 ⟨rfl,H4⟩;refine qQ (qw H4 e_2 ⟨rfl,rfl⟩ (by simp) λh5 H5=>?_);exact hj _ _ ⟨rfl,H5.pk [0,2,3,3,3,3,3,3,0,0] 1⟩
 refine qV k9<|qJ (qQ ?_);have e:r=(ia 1,M):=by rw[← hr];unfold gd;grind
 subst e;refine qw H3 .here ⟨rfl,rfl⟩ (by simp) λh4 H4=>?_;exact hj _ _ ⟨rfl,H4.pk [0,0] 1⟩
theorem RV (hn:7≤n) (hc:0≤M.cY∧M.cY<1000000000) (H:HS g h (bt p S M::R)) :
  af n 16 [.ptr p 0,.agg (jn o)] h λr h'=>r=.agg (jI (xD M o).1)∧HS g h' (bt p S (xD M o).2::R):=by
 refine aG rfl omQ λk hk=>?_;unfold S16;try simp only[iZ]
 refine qH H rfl λb0 h1 H1=>?_;refine qH H1 rfl λb1 h2 H2=>?_;refine qD H2 e_1 rfl omQ rfl<|qW (qy5 omQ (H2.ah e_2)) ?_;rintro _ h3 ⟨rfl,H3⟩;have ec:(gd M o).2.cY=M.cY:=qQH;rw[GJ];generalize gd M o=r at*;obtain⟨r,M'⟩:=r;dsimp only at ec H3 ⊢;refine qH H3 rfl λb2 h4 H4=>?_;refine qh H4 .here rfl (by simp) rfl λh5 H5=>?_;have H6:=H5;unfold jI at H6;refine jq [] (λs h'=>s=(.ptr b2 0,.ptr b1 0,())∧HS g h' (qx b2 (jI r)::qx b1 (jI dX)::bt p S (if r.err=0 then(r,{ M' with cY:=M'.cY+1 })else(r,M')).2::R)) ?_ ?_
 rotate_left
 ·rintro s h4 ⟨rfl,H4⟩;refine qD H4 .here rfl omQ rfl<|qh H4 e_1 rfl (by trivial) rfl λh5 H5=>?_;refine qg (qD H5 .here rfl omQ rfl ?_);refine qY ⟨by split<;>rfl,?_⟩;exact H5.drop.drop
 intro j hj;refine qQ (qZ ‹_› .here rfl ?_);by_cases c:r.err=0
 ·refine qj c ?_;rw[iJ c]at hj ⊢;refine qX (qK (qQ ?_));obtain⟨hb,tb,cb,sb,wv,lv,sv,H7⟩:=bt.E (H5.ah e_1);refine qZ ‹_› .here rfl<|qS omQ<|qK (qQ (qw H7 .here ⟨rfl,rfl⟩ (by simp) λh8 H8=>?_));have H9:HS g h8 (bt p S { M' with cY:=M'.cY+1 }::_):=bt.I (tb:=tb) (cb:=cb) (sb:=sb) (wv:=wv) (sv:=sv) H8;exact hj _ _ ⟨rfl,H9.pk [1,1,0] 1⟩
 ·refine qV c ?_;rw[iQ c]at hj ⊢;refine qJ<|hj _ _ ⟨rfl,H5.pk [0,1,0] 1⟩
end
end
end Go.Proofs.YtpbpkcdebchbbaaGreatDoor
