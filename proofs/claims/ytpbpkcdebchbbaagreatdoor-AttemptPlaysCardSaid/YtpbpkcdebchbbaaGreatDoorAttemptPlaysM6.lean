/- Lemmas for 'quietus/quietuslaw26.AttemptPlays': The documents steps: by its own code: an extension;May an instruction be? The documents own code, where it may;May a program run? The documents own check, of ... No condition. -/
import Derived.Test.YtpbpkcdebchbbaaGreatDoorAttemptPlaysM5
import Derived.Test.YtpbpkcdebchbbaaGreatDoorAttemptPlaysM3
import Derived.Test.YtpbpkcdebchbbaaGreatDoorAttemptPlaysM2
import Derived.Test.YtpbpkcdebchbbaaGreatDoorAttemptPlaysM4
namespace Go.Proofs.YtpbpkcdebchbbaaGreatDoor
open Go Go.Ae
set_option maxRecDepth 100000
section
variable {g h:AH} {L R:List SP}
def QE (x:wQ):Int:=if x.bH=true then x.at_ else-1
def gk (x:wQ) (sp at_:Int) (sv:AV):List AV:=zQ x.p sp++[sv,.int .i64 at_,.int .u64 x.ak]
def bR (b:Nat) (x:wQ):SP:=.ex λq:Int×Int×AV=>.all [.di (Uo x.p q.1∧(x.p.fin=0→q.2.1=QE x)),qx b (gk x q.1 q.2.1 q.2.2),qF 122 2 x.seen.length q.2.2 (x.seen.flatMap xK)]
section
variable {n b m:Nat} {x:wQ} {a:cT} {e:TypeId} {v:AV} {r:List xA}
theorem bR.E (H:HS g h (bR b x::R)):∃sp at_ sv,Uo x.p sp∧(x.p.fin=0→at_=QE x)∧HS g h (qx b (gk x sp at_ sv)::qF 122 2 x.seen.length sv (x.seen.flatMap xK)::R):=by obtain⟨⟨sp,at_,sv⟩,H⟩:=H.dj;obtain⟨⟨q1,q2⟩,H⟩:=H.bS.cX;exact⟨sp,at_,sv,q1,q2,H⟩
theorem bR.I {sp at_:Int} {sv:AV} (Q:Uo x.p sp) (q:x.p.fin=0→at_=QE x) (H:HS g h (qx b (gk x sp at_ sv)::qF 122 2 x.seen.length sv (x.seen.flatMap xK)::R)):HS g h (bR b x::R) :=
 HS.dE (sp,at_,sv) (HS.allI (HS.dF ⟨Q,q⟩ H))
theorem qZm {me spins:Int} (hn:3≤n) (hr:r.length≤1000) (H:HS g h L) (s:aR L (qF e 2 r.length v (r.flatMap xK)) R) :
  af n 183 [.int .i64 me,.int .i64 spins,v] h λz h'=>∃b,z=.ptr b 0∧HS g h' (bR b (Gf me spins r)::L):=by
 refine b8 rfl omQ λk hk=>?_;unfold S183;try simp only[iZ]
 refine qW (Yi omQ H) ?_;rintro _ h0 ⟨rfl,H⟩;have H0:=H.ad (e:=122) (sz:=2);refine jh H0 (H0.sl (.there s)) omQ omQ (QS (λ_=>rfl) _) λv2 h2 H2=>?_;rw[Nat.zero_add,List.nil_append]at H2;have o2:=H2.one .here;refine qy (by simp only[vG,o2.1];rfl)<|qH H2 (by simp only[jV,List.all_cons,o2.2];rfl) λb h3 H3=>?_;exact qY ⟨b,rfl,bR.I (λ_=>⟨rfl,rfl,rfl⟩) (λ_=>rfl) H3⟩
theorem qQF (hn:1≤n) (hf:x.p.fin=0) (ha:x.bH=true→0≤x.at_∧x.at_<x.seen.length) (H:HS g h (bR b x::R)) :
  af n 48 [.ptr b 0] h λz h'=>some z=(QX x).map (λo=>.agg (jn o))∧HS g h' (bR b x::R):=by
 refine ag (S:=S48) rfl omQ λk hk=>?_;unfold S48;try simp only[iZ]
 obtain⟨sp,at_,sv,Q,q,H0⟩:=bR.E H;have q0:=q hf;refine qH H0 rfl λb0 h1 H1=>?_;have fin:∀{o:dR},QX x=some o→wp (qn h1 (.ptr b0 0) (.agg (jn o)) 10 λh'=>q8 h' (.ptr b0 0) 10 λv=>some (v,h')) (λz h'=>some z=(QX x).map (λo=>.agg (jn o))∧HS g h' (bR b x::R)):=λ{o} e=>by
  refine qh H1 (b:=b0) .here rfl (by simp) rfl λh2 H2=>?_;refine qD H2 (b:=b0) (off:=0) .here rfl omQ (l:=jn o) rfl (qY ⟨by grind,bR.I Q q H2.drop⟩)
 generalize hN:QX x=N at fin ⊢;unfold QX at hN;rw[iQ (λh=>h hf)]at hN;refine qK (qQ (qZ H1 (b:=b) e_1 (x:=.int .i64 (QE x)) (by rw[← q0];rfl) ?_));cases hl:x.bH with
 |false=>
  have e:QE x= -1:=by grind[QE]
  rw[iJ hl]at hN;refine jB omQ (qX ?_);refine qy (l:=jn (ck 6 0 0)) rfl<|fin hN.symm
 |true=>
  have e:QE x=x.at_:=by grind[QE]
  obtain⟨a0,a1⟩:=ha hl;rw[iQ (by grind)]at hN;refine jk omQ (qJ ?_);obtain⟨k,hk⟩:∃k:Nat,x.at_=(k:Int):=⟨x.at_.toNat,by omega⟩;have mO:k<x.seen.length:=by omega
  refine qK (qQ (qZ H1 (b:=b) e_1 (x:=sv) rfl ?_));refine qK (qQ (qZ H1 (b:=b) e_1 (x:=.int .i64 (k:Int)) (by rw[← hk,← e,← q0];rfl) ?_));refine jU (H1.sl (v:=sv) (xs:=x.seen.flatMap xK) e_2) omQ mO (yt mO).1<|qy (l:=jn (ck 3 (zL x.seen (k:Int)).1 0)) rfl ?_;rw[hk]at hN;exact fin hN.symm
end
end
section
variable {g h:AH} {L R:List SP}
def mo (f:Int×Int):Int:=if f.2=0 then-1 else f.2
theorem qvb {l:List AV} {x:AV} {z:Int} {n:Nat} {k:IntKind} {K:AV→Go.Ae.R} {Q:AV→AH→Prop} (h0:0≤z) (hi:z.toNat<n) (hx:l[z.toNat]? =some x) (w:wp (K x) Q):wp (QM (.agg l) (.int k z) n 1 K) Q:=by obtain⟨i,rfl⟩:∃i:Nat,z=i:=⟨z.toNat,by omega⟩;rw[Int.toNat_natCast]at hi hx;show wp (bif Nat.ble (i+1) n then ob (wm l (i*1)) K else none) Q;rw[iY hi,Nat.mul_one,xr,hx];exact w
set_option maxHeartbeats 4000000 in
theorem qvH {n:Nat} (hn:1≤n) {op:Int} (ho:1≤op∧op≤22) (H:HS g h R):af n 198 [.int .i64 op] h λr h'=>(∃nm,r=.bm [.agg [.str nm,.int .i64 (mo (jM op).1),.int .i64 (mo (jM op).2.1),.int .i64 (mo (jM op).2.2),.bool (decide (op=1))],.bool true])∧HS g h' R:=by
 (refine qE rfl omQ λk hk=>?_;show wp (S198 (callT tab qv k) _ _) _;unfold S198;try simp only[iI,iZ])
 refine qH H rfl λb0 h1 H1=>?_;have fin:∀(nm:List UInt8) (a b c:Int) (t:Bool),wp (qn h1 (.ptr b0 0) (.agg [.str nm,.int .i64 a,.int .i64 b,.int .i64 c,.bool t]) 5 λh4=>q8 h4 (.ptr b0 0) 5 λv5=>some (.bm [v5,.bool true],h4)) λr h'=>r=.bm [.agg [.str nm,.int .i64 a,.int .i64 b,.int .i64 c,.bool t],.bool true]∧HS g h' R:=by intro nm a b c t;refine qh H1 .here rfl (by simp) rfl λh2 H2=>?_;have H2:HS g h2 (qx b0 [.str nm,.int .i64 a,.int .i64 b,.int .i64 c,.bool t]::R):=H2;refine qD H2 .here rfl omQ rfl<|qY ⟨rfl,H2.drop⟩
 have hc:op=1∨op=2∨op=3∨op=4∨op=5∨op=6∨op=7∨op=8∨op=9∨op=10∨op=11∨op=12∨op=13∨op=14∨op=15∨op=16∨op=17∨op=18∨op=19∨op=20∨op=21∨op=22:=by omega
 rcases hc with rfl |rfl |rfl |rfl |rfl |rfl |rfl |rfl |rfl |rfl |rfl |rfl |rfl |rfl |rfl |rfl |rfl |rfl |rfl |rfl |rfl |rfl
 all_goals repeat (first |with_reducible refine qV omQ ?_ |with_reducible refine qj omQ ?_ |with_reducible refine qJ ?_ |with_reducible refine qX ?_ |(with_reducible refine qG ?_;try dsimp only) |with_reducible refine jK omQ ?_ |with_reducible refine qvb od od rfl ?_ |with_reducible refine qy rfl ?_)
 all_goals exact wp.mono (fin _ _ _ _ _) λr h' ⟨e,H'⟩=>⟨⟨_,e⟩,H'⟩
theorem kQ {n:Nat} (hn:1≤n) {z:Int} {f:Int×Int} (hf:f.1=0∧0≤f.2):af n 199 [.int .i64 z,.int .i64 (mo f)] h λr h'=>r=.bool (vS f z)∧h'=h:=by
 refine aG rfl omQ λk hk=>?_;unfold S199;try simp only[iZ]
 have hm:(f.2=0∧mo f= -1)∨(0<f.2∧mo f=f.2):=by
  unfold mo
  omega
 generalize mo f=m at*;by_cases c1:z=0<;>by_cases c2:m<0<;>by_cases c3:0≤z<;>by_cases c4:z≤m
 all_goals first |(exfalso;omega) |skip
 all_goals repeat (first |refine qX ?_ |refine qJ ?_ |(refine qR ?_;try dsimp only) |(refine qf ?_;try dsimp only) |(refine qT ?_;try dsimp only) |(refine qM ?_;try dsimp only) |(refine jT ?_;try dsimp only) |refine qC ?_ |with_reducible refine qB ?_ |(with_reducible refine qG ?_;try dsimp only) |with_reducible refine qg ?_ |with_reducible refine jQ ?_ |with_reducible refine jg ?_ |with_reducible refine jK omQ ?_ |with_reducible refine qK ?_ |with_reducible refine qQ ?_ |refine qA rfl ?_ |refine qZ ‹_› .here rfl ?_ |refine qd ‹_› .here ?_ |refine qy rfl ?_ |refine qj omQ ?_ |refine qV omQ ?_ |refine jJ omQ ?_ |refine q9 omQ ?_ |refine jB omQ ?_ |refine jk omQ ?_ |refine yq omQ ?_ |refine yY omQ ?_ |refine zv omQ ?_ |refine zV omQ ?_ |refine jA omQ ?_ |refine jz omQ ?_)
 all_goals refine qY ⟨?_,rfl⟩
 all_goals first |rw[show vS f z=true from iG omQ] |simp[vS];omega
theorem qKu (op:Int) (h:op≠23):((jM op).1.1=0∧0≤(jM op).1.2)∧((jM op).2.1.1=0∧0≤(jM op).2.1.2)∧((jM op).2.2.1=0∧0≤(jM op).2.2.2):=by
 unfold jM;grind
theorem qkc {n:Nat} (hn:2≤n) {x:qe} (hm:gG x=true) (hx:x.1≠23) (H:HS g h R):af n 153 [.agg (jG x)] h λr h'=>r=.bool true∧HS g h' R:=by
 refine ag (S:=S153) rfl omQ λk hk=>?_;unfold S153;try simp only[iZ]
 obtain⟨op,a,b,c,q⟩:=x;unfold gG at hm;simp only[Bool.and_eq_true,decide_eq_true_eq]at hm;obtain⟨⟨⟨⟨ho,fa⟩,fb⟩,fc⟩,hq⟩:=hm;dsimp only at hx;obtain⟨oa,ob,oc⟩:=qKu op hx;refine qH H rfl λb0 h1 H1=>?_;have H1:HS g h1 (qx b0 [.int .i64 op,.int .i64 a,.int .i64 b,.int .i64 c,.int .u64 q]::R):=H1;refine qQ (qZ ‹_› .here rfl ?_);refine qW (qvH omQ omQ H1) ?_;rintro _ h2 ⟨⟨nm,rfl⟩,H2⟩;refine qA rfl<|qA rfl<|qH H2 rfl λb2 h3 H3=>?_;refine qh H3 (b:=b2) .here rfl (by simp) rfl λh4 H4=>?_;have H4:HS g h4 (qx b2 [.str nm,.int .i64 (mo (jM op).1),.int .i64 (mo (jM op).2.1),.int .i64 (mo (jM op).2.2),.bool (decide (op=1))]::qx b0 [.int .i64 op,.int .i64 a,.int .i64 b,.int .i64 c,.int .u64 q]::R):=H4;clear H1 H2 H3;by_cases tT:op=1
 ·rw[iG tT]at H4;refine jQ (qG ?_);refine qM<|qQ (qZ ‹_› .here rfl ?_);refine jQ (qG ?_);refine qT<|qG<|qM<|qB (qB (qG ?_));refine qM<|qQ (qZ ‹_› e_1 rfl ?_);refine qQ (qZ ‹_› .here rfl ?_)
  refine qW (kQ omQ oa) ?_;rintro _ _ ⟨rfl,rfl⟩;rw[fa];refine jQ (qB (qG ?_));refine qM<|qQ (qZ ‹_› e_1 rfl ?_);refine qQ (qZ ‹_› .here rfl ?_)
  refine qW (kQ omQ ob) ?_;rintro _ _ ⟨rfl,rfl⟩;rw[fb];refine jQ (qB (qG ?_));refine qM<|qQ (qZ ‹_› e_1 rfl ?_);refine qQ (qZ ‹_› .here rfl ?_)
  refine qW (kQ omQ oc) ?_;rintro _ _ ⟨rfl,rfl⟩;rw[fc];refine jQ (qB (qJ (qQ (qZ ‹_› e_1 rfl ?_))));refine jJ omQ<|qG<|qf<|qC ?_
  exact qY ⟨rfl,H4.drop.drop⟩
 ·rw[iV tT]at H4;have hq0:q=0:=by
   grind
  subst hq0;refine jQ (qG ?_);refine qM<|qQ (qZ ‹_› .here rfl ?_);refine jg (qG ?_);refine qR<|qQ (qZ ‹_› e_1 rfl ?_);refine q9 omQ<|qG<|qM<|qC (qB (qG ?_));refine qM<|qQ (qZ ‹_› e_1 rfl ?_);refine qQ (qZ ‹_› .here rfl ?_)
  refine qW (kQ omQ oa) ?_;rintro _ _ ⟨rfl,rfl⟩;rw[fa];refine jQ (qB (qG ?_));refine qM<|qQ (qZ ‹_› e_1 rfl ?_);refine qQ (qZ ‹_› .here rfl ?_)
  refine qW (kQ omQ ob) ?_;rintro _ _ ⟨rfl,rfl⟩;rw[fb];refine jQ (qB (qG ?_));refine qM<|qQ (qZ ‹_› e_1 rfl ?_);refine qQ (qZ ‹_› .here rfl ?_)
  refine qW (kQ omQ oc) ?_;rintro _ _ ⟨rfl,rfl⟩;rw[fc];refine jQ (qB (qJ (qQ (qZ ‹_› e_1 rfl ?_))));refine jJ omQ<|qG<|qf<|qC ?_
  exact qY ⟨rfl,H4.drop.drop⟩
end
section
variable {g h:AH} {L R:List SP}
def Qr (l:List qe) (p:Int):List AV:=[.int .i64 p,.int .i64 (qU l p).1]
theorem Qk (l:List qe) (st:List Int):(st.flatMap (Qr l)).length=st.length*2:=vD (sz:=2) _ (λ_=>rfl) _
theorem qgC {l:List qe} (F:Fit l):∀i j,i≤j→j<l.length→(lU l (xc l 0 []) i)[j]? =some (-1):=by
 intro i
 induction i with
 |zero=>simp[lU,List.getElem?_replicate]
 |succ i ih=>
  intro j h1 h2;rw[Zu]
  split
  ·rename_i he;rw[List.getElem?_set_ne,ih j omQ h2];rw[vN F omQ];have hn:=(zi (F.ok i omQ)).2.1 (.inl he);have:=(YI i).1.dG hn;omega
  grind
def Gw (l:List qe) (i:Nat):List Int:=(lU l (xc l 0 []) i).take i++List.replicate (l.length-i) 0
def A8 (l:List qe) (i:Nat):List Int:=(lU l (xc l 0 []) i).take (i+1)++List.replicate (l.length-(i+1)) 0
theorem qJC {n i:Nat} (h:i<n):List.replicate (n-i) (0:Int)=0 ::List.replicate (n-(i+1)) 0:=by rw[show n-i=(n-(i+1))+1 by omega,List.replicate_succ]
theorem qwH {l:List qe} (F:Fit l) {i:Nat} (h:i<l.length):(Gw l i).set i (-1)=A8 l i:=by have hl:=Ja (l:=l) (A:=xc l 0 []) i;unfold Gw A8;rw[qJC h,List.set_append_right _ _ (by grind),List.length_take,Nat.min_eq_left omQ,Nat.sub_self,List.set_cons_zero,List.take_add_one,qgC F i i (Nat.le_refl _) h,List.append_assoc];rfl
theorem qz0 {l:List qe} {i:Nat} (h:¬0<zZ (qU l i).1):A8 l i=Gw l (i+1):=by simp_all[A8,Gw,Zu,iQ]
theorem qgh {l:List qe} (F:Fit l) {i p:Nat} (h:i<l.length) (he:0<zZ (qU l i).1) (hp:jW (qL l i)=p) (AM:p<i):(A8 l i).set p i=Gw l (i+1):=by have hl:=Ja (l:=l) (A:=xc l 0 []) i;unfold A8 Gw;rw[Zu,iJ he,vN F h,hp,Int.toNat_natCast,List.take_set,List.set_append_left _ _ (by grind)]
theorem qvL {l:List qe} {i:Nat} (h:i<l.length):(A8 l i).length=l.length:=by grind[Ja,xc,A8]
theorem qqu {l:List qe} (F:Fit l) {i:Nat} (h:i<l.length):((xc l 0 []).take i++List.replicate (l.length-i) 0).set i (jW (qL l i))=(xc l 0 []).take (i+1)++List.replicate (l.length-(i+1)) 0:=by have hl:(xc l 0 []).length=l.length:=JK;rw[qJC h,List.set_append_right _ _ (by grind),List.length_take,Nat.min_eq_left omQ,Nat.sub_self,List.set_cons_zero,List.take_add_one,F.rW i h,List.append_assoc];rfl
theorem N2 {op:Int}:(op=15→zZ op=14)∧(op=18→zZ op=17)∧(op=19→zZ op=18)∧(op≠15→op≠18→op≠19→zZ op=0):=by simp_all[zZ,omQ]
theorem Np {st:List Int} (h:st≠[]):st=st.dropLast++[jW st]:=by grind[List.dropLast_concat_getLast,jW,List.getLast?_eq_some_getLast]
theorem qYM {x:qe} {i:Nat} {st:List Int} (tW:0<zZ x.1∨x.1=16→st≠[]) (cM:ch i st) (c:x.1=15∨x.1=19∨x.1=18):0<zZ x.1∧st≠[]∧∃p:Nat,jW st=p∧p<i:=by
 have fH:=N2 (op:=x.1);have he:0<zZ x.1:=by
  grind
 have hn:=tW (.inl he);have:=cM.dG hn;exact⟨he,hn,(jW st).toNat,by omega,by omega⟩
set_option maxHeartbeats 8000000 in
theorem qWm {n:Nat} (hn:3≤n) {l:List qe} {sv:AV} (F:Fit l) (Q:Quiet l) (H:HS g h R) (S:Rd g R 5 l.length sv (l.flatMap jG)) :
  af n 102 [.agg [sv]] h λr h'=>∃rv mv,r=.bm [.int .i64 0,.int .i64 0,rv,mv]∧HS g h' (qF 3 1 l.length mv ((qb l).map (.int .i64))::R):=by
 refine ag (S:=S102) rfl omQ λk hk=>?_;unfold S102;try simp only[iZ]
 have Bv:=F.pos;have hle:=F.le;refine qH H (ya (wq (S.sl H))) λb0 h1 H1=>?_;have tV:=(S.sl H).sL;clear H;refine qQ (qZ ‹_› .here rfl ?_);refine z8 ‹_›<|qV omQ<|qG<|qM<|qQ (qZ ‹_› .here rfl ?_);refine z8 ‹_›<|zV omQ<|qB (qJ (qQ (qZ ‹_› .here rfl ?_)));refine z8 ‹_›<|kO (n:=l.length) H1 omQ λrv h2 H2=>?_;refine qQ (qZ ‹_› e_1 rfl ?_);refine z8 ‹_›<|kO (n:=l.length) H2 omQ λmv h3 H3=>?_;clear H1 H2
 refine jF (λm s h'=>∃(i:Nat) (tv:AV),s=(.int .i64 (i:Int),mv,rv,tv,.ptr b0 0,())∧i≤l.length∧m=l.length-i∧
  HS g h' (qF 3 1 l.length mv ((Gw l i).map (.int .i64))::qF 3 1 l.length rv (((xc l 0 []).take i++List.replicate (l.length-i) 0).map (.int .i64))::
   qF 233 2 (qL l i).length tv ((qL l i).flatMap (Qr l))::qx b0 [sv]::R))
  ?_ (m:=l.length) (by show _<1000000000;omega) ⟨0,.ad,rfl,by omega,by omega,by
   have e1:Gw l 0=List.replicate l.length 0:=by unfold Gw;simp
   rw[e1,List.take_zero,List.nil_append,Nat.sub_zero,List.map_replicate]
   exact(H3.ad (e:=233) (sz:=2)).pk [1,1,0] 0⟩
 clear H3;rintro m ih s h4 aY ⟨i,tv,rfl,hi,rfl,H⟩;by_cases ae:i<l.length
 ·have eC:=QG ae;have hw:=yZ (F.ok i ae);have tW:=zi (F.ok i ae);have hq:=(Q.at ae).1;have cM:=(YI (l:=l) i).1;have hs5:=JP F i omQ;have bK:qL l (i+1)=jD (qL l i) i (qU l i).1:=jb;have Bt:=qz0 (l:=l) (i:=i);have mR:=λ{p:Nat}=>qgh (i:=i) (p:=p) F ae;have hps:=qwH F ae;have hrs:=qqu F ae;have mL:=qvL (l:=l) ae;have LM:=Qk l (qL l i);rw[xq ae]at bK hw tW hq Bt mR;have dC:l[i]? =some l[i]:=iW ae;have hfi:((l.flatMap jG)[i*5+0]?)=some (.int .i64 l[i].1):=by rw[xl (sz:=5) jG (λ_=>rfl) _ _ _ omQ,dC];rfl
  have A9:(qU l (i:Int)).1=l[i].1:=by rw[xq ae]
  generalize hx:l[i]=x at*;generalize hST:qL l i=st at*;refine qQ (qZ ‹_› e_3 rfl ?_);refine z8 ‹_›<|jB omQ<|qX (qy rfl ?_);refine qH H rfl λbi h5 H5=>?_;refine qh H5 (b:=bi) .here rfl (by show 0+2≤2;omega) rfl λh6 H6=>?_
  have H6:HS g h6 (qx bi [.int .i64 (-1),.int .i64 ((0:Nat):Int)]::qF 3 1 l.length mv ((Gw l i).map (.int .i64))::qF 3 1 l.length rv (((xc l 0 []).take i++List.replicate (l.length-i) 0).map (.int .i64))::
   qF 233 2 st.length tv (st.flatMap (Qr l))::qx b0 [sv]::R):=H6
  clear H H5
  refine jq [] (λs h'=>s=(.ptr bi 0,.int .i64 (i:Int),mv,rv,tv,.ptr b0 0,())∧HS g h' (qx bi [.int .i64 (jW st),.int .i64 (cg l st)]::qF 3 1 l.length mv ((Gw l i).map (.int .i64))::qF 3 1 l.length rv (((xc l 0 []).take i++List.replicate (l.length-i) 0).map (.int .i64))::
   qF 233 2 st.length tv (st.flatMap (Qr l))::qx b0 [sv]::R)) ?_ ?_
  ·intro j hj;refine qd H6 e_3 ?_;by_cases h0:st=[]
   ·subst h0;refine zV aA (qJ ?_);exact hj _ _ ⟨rfl,H6⟩
   ·have iD:st.length≠0:=λh=>h0 (iA h);refine zv omQ (qX ?_);refine qd H6 e_3 (jK omQ ?_);rw[show(st.length:Int)-((1:Nat):Int)=((st.length-1:Nat):Int) by omega];refine zj (l:=Qr l (jW st)) (H6.sl e_3) omQ omQ ?_ ?_
    ·have e:=Np h0;generalize jW st=z at*;rw[e,List.length_append,List.length_singleton,Nat.add_sub_cancel,List.flatMap_append,List.drop_append_of_le_length (by rw[Qk];exact Nat.le_refl _),List.drop_of_length_le (by rw[Qk];exact Nat.le_refl _)];rfl
    refine qh H6 (b:=bi) .here rfl (by show 0+2≤2;omega) rfl λh7 H7=>?_;refine hj _ _ ⟨rfl,?_⟩;have e:cg l st=(qU l (jW st)).1:=by unfold cg;rw[iQ h0]
    rw[e];exact H7
  clear H6;rintro s h7 ⟨rfl,H7⟩;refine qQ (qZ H7 (b:=bi) .here rfl ?_);refine yr (H7.ah e_2) ae ⟨rfl,rfl⟩ λh8 H8=>?_;rw[← List.map_set,hrs]at H8;clear H7;refine yr (H8.ah e_2) ae ⟨rfl,rfl⟩ λh9 H9=>?_;have em:(AV.int .i64 (Int.negSucc 0))=.int .i64 (-1):=rfl;rw[em,← List.map_set,hps]at H9;clear H8;refine qQ (qZ H9 (b:=b0) e_4 rfl ?_);refine zj (S.sl H9.drop.drop.drop.drop.drop) ae omQ eC<|qW (qkc omQ hw.1 hq H9) ?_;rintro _ dK ⟨rfl,cC⟩;clear H9;refine jQ (qJ ?_);refine qQ (qZ cC (b:=b0) e_4 rfl ?_);refine jU (S.sl cC.drop.drop.drop.drop.drop) omQ ae hfi ?_;have fL:cg l st=14∧(x.1=15∨x.1=16)∨cg l st=17∧x.1=18∨cg l st=18∧x.1=19∨(x.1≠15∧x.1≠16∧x.1≠18∧x.1≠19):=by
   have e:=N2 (op:=x.1);have e2:=hw.2.1;have e3:=hw.2.2.1;by_cases k1:x.1=15
   ·rw[e.1 k1]at e2;have:=e2 omQ;omega
   by_cases k2:x.1=18
   ·rw[e.2.1 k2]at e2;have:=e2 omQ;omega
   by_cases k3:x.1=19
   ·rw[e.2.2.1 k3]at e2;have:=e2 omQ;omega
   by_cases k4:x.1=16
   ·have:=e3 k4;omega
   ·omega
  have fH:=N2 (op:=x.1)
  have Ba:∀(Lb:AV) (h':AH),HS g h' (qF 3 1 l.length mv ((Gw l (i+1)).map (.int .i64))::qF 3 1 l.length rv (((xc l 0 []).take (i+1)++List.replicate (l.length-(i+1)) 0).map (.int .i64))::
    qF 233 2 (qL l (i+1)).length Lb ((qL l (i+1)).flatMap (Qr l))::qx b0 [sv]::R)→
    wp (jY .add (.int .i64 (i:Int)) (.int .i64 ((1:Nat):Int)) λv=>ih (v,mv,rv,Lb,.ptr b0 0,()) h' []) λr h'=>∃rv mv,r=.bm [.int .i64 0,.int .i64 0,rv,mv]∧HS g h' (qF 3 1 l.length mv ((qb l).map (.int .i64))::R):=by
   intro Lb h' H';exact qS omQ (aY (l.length-(i+1)) _ _ omQ ⟨i+1,Lb,rfl,by omega,rfl,H'⟩)
  generalize cg l st=oi at*;have hc:(x.1=14∨x.1=17)∨(x.1=15∨x.1=19)∨x.1=18∨x.1=16∨(x.1≠14∧x.1≠17∧x.1≠15∧x.1≠19∧x.1≠18∧x.1≠16):=by omega
  have push:(x.1=14∨x.1=17)→wp (jY .geq (.int .i64 (st.length:Int)) (.int .i64 ((5:Nat):Int)) λlA=>jw lA (jR [] dK λuP=>some (.bm [.int .i64 (i:Int),.int .i64 ((9:Nat):Int),.ad,.ad],uP))
    (jf [.int .i64 ((0:Nat):Int),.int .i64 ((0:Nat):Int)] [(0,1,.int .i64 (i:Int)),(1,1,.int .i64 x.1)] λta=>zR dK 233 [.int .i64 ((0:Nat):Int),.int .i64 ((0:Nat):Int)] 1 [(0,2,ta)] λmD Cm=>
     z6 Cm 233 2 tv mD λoz Cw=>jY .add (.int .i64 (i:Int)) (.int .i64 ((1:Nat):Int)) λBY=>ih (BY,mv,rv,oz,.ptr b0 0,()) Cw [])) λr h'=>∃rv mv,r=.bm [.int .i64 0,.int .i64 0,rv,mv]∧HS g h' (qF 3 1 l.length mv ((qb l).map (.int .i64))::R):=by
   intro c;have hb:=hw.2.2.2 (by unfold ze;exact iG c);have hz:=fH.2.2.2 omQ omQ omQ;refine jz omQ (qJ ?_);refine qy (l:=[.int .i64 (i:Int),.int .i64 x.1]) rfl<|qr (n:=1) (l:=[.int .i64 (i:Int),.int .i64 x.1]) (sz:=2) cC rfl rfl rfl rfl λv11 bY dv=>?_;refine jh (dv.ah e_4) (dv.sl .here) omQ omQ rfl λv12 eY dU=>?_;refine Ba v12 eY ?_;have e:jD st i x.1=st++[(i:Int)]:=by unfold jD;rw[iJ (.inl (by unfold ze;exact iG c)),iQ omQ]
   rw[bK,e,← Bt omQ,List.length_append,List.flatMap_append];have e2:[(i:Int)].flatMap (Qr l)=[.int .i64 (i:Int),.int .i64 x.1]:=by rw[← A9];rfl
   rw[e2];exact dU.sub (.cons e_2 (.cons e_2 (.cons .here (.drop (.drop (.cons .here .refl))))))
  have pop:(x.1=15∨x.1=19)→wp (xy mv (.int .i64 (jW st)) 1 λB4=>qn dK B4 (.int .i64 (i:Int)) 1 λuR=>xi tv λnB=>jY .sub nB (.int .i64 ((1:Nat):Int)) λv117=>yX uR 233 2 tv none (some v117) λCp=>
    jY .add (.int .i64 (i:Int)) (.int .i64 ((1:Nat):Int)) λBY=>ih (BY,mv,rv,Cp,.ptr b0 0,()) uR []) λr h'=>∃rv mv,r=.bm [.int .i64 0,.int .i64 0,rv,mv]∧HS g h' (qF 3 1 l.length mv ((qb l).map (.int .i64))::R):=by
   intro c;obtain⟨he,hn,p,hp,AM⟩:=qYM tW.2.1 cM omQ;have iD:st.length≠0:=λh=>hn (iA h);rw[hp];refine yr (cC.ah .here) omQ ⟨rfl,rfl⟩ λbY dv=>?_;rw[← List.map_set,mR he hp AM]at dv;refine qd dv e_3 (jK omQ ?_);rw[show(st.length:Int)-((1:Nat):Int)=((st.length-1:Nat):Int) by omega];refine gM (dv.ah e_3) omQ omQ λv12 dU=>?_;refine Ba v12 bY ?_;have e:jD st i x.1=st.dropLast:=by unfold jD;rw[iQ (by unfold ze;rw[iV omQ];simp;omega),iJ he]
   have e2:(st.flatMap (Qr l)).take ((st.length-1)*2)=st.dropLast.flatMap (Qr l):=by have e3:=congrArg (List.flatMap (Qr l)) (Np hn);rw[e3,List.flatMap_append,List.take_append_of_le_length (by rw[Qk,List.length_dropLast];exact Nat.le_refl _),List.take_of_length_le (by rw[Qk,List.length_dropLast];exact Nat.le_refl _)]
   rw[e2]at dU;rw[bK,e,List.length_dropLast];exact dU.sub (.cons e_1 (.cons e_1 (.cons .here (.drop (.cons .here .refl)))))
  rcases hc with(c |c) |(c |c) |c |c |c
  all_goals repeat (first |with_reducible refine qX ?_ |with_reducible refine qJ ?_ |(with_reducible refine qR ?_;try dsimp only) |(with_reducible refine qf ?_;try dsimp only) |(with_reducible refine qT ?_;try dsimp only) |(with_reducible refine qM ?_;try dsimp only) |(with_reducible refine jT ?_;try dsimp only) |with_reducible refine qC ?_ |with_reducible refine qB ?_ |(with_reducible refine qG ?_;try dsimp only) |with_reducible refine qg ?_ |with_reducible refine jQ ?_ |with_reducible refine jg ?_ |with_reducible refine jK omQ ?_ |with_reducible refine qK ?_ |with_reducible refine qQ ?_ |with_reducible refine qA rfl ?_ |with_reducible refine qZ ‹_› e_2 rfl ?_ |with_reducible refine qd ‹_› e_3 ?_ |with_reducible refine qy rfl ?_ |with_reducible refine qj omQ ?_ |with_reducible refine qV omQ ?_ |with_reducible refine jJ omQ ?_ |with_reducible refine q9 omQ ?_ |with_reducible refine jB omQ ?_ |with_reducible refine jk omQ ?_ |with_reducible refine yq omQ ?_ |with_reducible refine yY omQ ?_ |with_reducible refine zv omQ ?_ |with_reducible refine zV omQ ?_ |with_reducible refine jA omQ ?_ |with_reducible refine jz omQ ?_)
  ·exact push (.inl c)
  ·exact push (.inr c)
  ·exact pop (.inl c)
  ·exact pop (.inr c)
  ·obtain⟨he,hn,p,hp,AM⟩:=qYM tW.2.1 cM omQ;have iD:st.length≠0:=λh=>hn (iA h);rw[hp]at cC ⊢;refine yr (cC.ah .here) omQ ⟨rfl,rfl⟩ λbY dv=>?_;rw[← List.map_set,mR he hp AM]at dv;refine qd dv e_3 (jK omQ ?_);rw[show(st.length:Int)-((1:Nat):Int)=((st.length-1:Nat):Int) by omega];refine qy (l:=[.int .i64 (i:Int),.int .i64 x.1]) rfl<|Yp (dv.ah e_3) omQ rfl rfl λeY dU=>?_;refine Ba tv eY ?_;have e:jD st i x.1=st.dropLast++[(i:Int)]:=by
    unfold jD;rw[iJ (.inr c),iJ he]
   have e2:wL (st.flatMap (Qr l)) ((st.length-1)*2) [.int .i64 (i:Int),.int .i64 x.1]=(st.dropLast++[(i:Int)]).flatMap (Qr l):=by have e3:=congrArg (List.flatMap (Qr l)) (Np hn);rw[e3,List.flatMap_append,List.flatMap_append,show[(i:Int)].flatMap (Qr l)=[.int .i64 (i:Int),.int .i64 x.1] by rw[← A9];rfl];exact NE _ _ _ _ _ _ (by rw[Qk,List.length_dropLast])
   rw[e2]at dU;rw[bK,e,List.length_append,List.length_dropLast,List.length_singleton,show st.length-1+1=st.length by omega];exact dU.sub (.cons e_1 (.cons e_1 (.cons .here (.drop (.cons .here .refl)))))
  all_goals
   have hz:=fH.2.2.2 omQ omQ omQ;refine Ba tv dK ?_;have e:jD st i x.1=st:=by unfold jD;rw[iQ (by unfold ze;rw[iV omQ];simp;omega),iQ omQ]
   rw[bK,e,← Bt omQ];exact cC.sub (.cons .here (.cons .here (.cons e_1 (.drop (.cons .here .refl)))))
 ·obtain rfl:i=l.length:=by omega
  clear aY;have SV:=F.nil;rw[SV]at H;have eA:(xc l 0 []).take l.length++List.replicate (l.length-l.length) 0=xc l 0 []:=by rw[Nat.sub_self,List.replicate_zero,List.append_nil,List.take_of_length_le (by rw[JK];exact Nat.le_refl _)]
  have eM:Gw l l.length=eh l (xc l 0 []) 0:=by unfold Gw;rw[Nat.sub_self,List.replicate_zero,List.append_nil,List.take_of_length_le (by rw[Ja];exact Nat.le_refl _)];rfl
  rw[eA,eM]at H;have H:=H.sub (L':=qF 3 1 l.length mv ((eh l (xc l 0 []) 0).map (.int .i64))::qF 3 1 l.length rv ((xc l 0 []).map (.int .i64))::qF 233 2 0 tv []::qx b0 [sv]::R) (.cons .here (.cons .here (.cons .here (.cons .here .refl))));refine qQ (qZ ‹_› e_3 rfl ?_);refine z8 ‹_›<|jk omQ<|qJ (qd ‹_› e_2 ?_);refine zV omQ<|qJ ?_;have hM:qb l=eh l (xc l 0 []) l.length:=rfl;rw[hM];have hA:(xc l 0 []).length=l.length:=JK;have RQ:=λ{j:Nat} (h:j<l.length)=>F.rW j h;have RP:=λ{j:Nat} (h:j<l.length)=>vN F h;have IZ:=λ{j:Nat} (h:j<l.length)=>F.jump j h;have hmy:=λ{j:Nat} (h:j<l.length)=>(yZ (F.ok j h)).1;have I3:∀i,(eh l (xc l 0 []) i).length=l.length:=λi=>UX i;have hri:=λ{j:Nat} (h:j<l.length) (ho:(qU l j).1=16)=>(vv (l:=l) (i:=j) ((zi (F.ok j h)).2.1 (.inr ho)));generalize xc l 0 []=A at*
  refine jF (λm s h'=>∃i:Nat,s=(.int .i64 (i:Int),mv,rv,.ptr b0 0,())∧i≤l.length∧m=l.length-i∧
   HS g h' (qF 3 1 l.length mv ((eh l A i).map (.int .i64))::qF 3 1 l.length rv (A.map (.int .i64))::qx b0 [sv]::R))
   ?_ (m:=l.length) (by show _<1000000000;omega) ⟨0,rfl,by omega,by omega,H.sub (.cons .here (.cons .here (.drop (.cons .here .refl))))⟩
  clear H eA eM hM;rintro m ih s h6 aY ⟨i,rfl,hi,rfl,H⟩;by_cases ae:i<l.length
  ·have eC:=QG ae;have Hg:=RQ ae;have Hh:=RP ae;have nM:=IZ ae;have Hu:=hmy ae;have Ac:=hri ae;have cS:eh l A (i+1)=if(qU l (i:Int)).1=16 then(eh l A i).set i (qP (eh l A i) (qP A (i:Int)))else eh l A i:=rfl
   rw[xq ae]at cS nM Hu Ac;generalize l[i]=x at*;refine qQ (qZ H (b:=b0) e_2 rfl (z8 tV ?_));refine jB omQ (qX (qG ?_));refine qQ (qZ H (b:=b0) e_2 rfl ?_);refine zj (S.sl H.drop.drop.drop) ae omQ eC<|qH H rfl λb h7 H7=>?_;refine qh H7 (b:=b) .here rfl (by simp) rfl λh8 H8=>?_;have H8:HS g h8 (qx b [.int .i64 x.1,.int .i64 x.2.1,.int .i64 x.2.2.1,.int .i64 x.2.2.2.1,.int .u64 x.2.2.2.2]::qF 3 1 l.length mv ((eh l A i).map (.int .i64))::qF 3 1 l.length rv (A.map (.int .i64))::qx b0 [sv]::R):=H8;clear H H7
   refine jq [] (λs h'=>s=(.ptr b 0,.int .i64 (i:Int),mv,rv,.ptr b0 0,())∧
    HS g h' (qx b [.int .i64 x.1,.int .i64 x.2.1,.int .i64 x.2.2.1,.int .i64 x.2.2.2.1,.int .u64 x.2.2.2.2]::qF 3 1 l.length mv ((eh l A (i+1)).map (.int .i64))::qF 3 1 l.length rv (A.map (.int .i64))::qx b0 [sv]::R)) ?_ ?_
   ·intro j hj;refine qQ (qZ H8 (b:=b) .here rfl ?_);by_cases he:x.1=16
    ·obtain⟨p,hp,sa,_⟩:=Ac he;rw[iJ he,Hh,hp]at cS;refine qj he (qX ?_);refine jN (H8.sl e_2) (x:=.int .i64 (p:Int)) (by rw[List.getElem?_map,Hg,hp];rfl)<|jN (H8.sl e_1) (x:=.int .i64 (qP (eh l A i) (p:Int))) (by rw[List.getElem?_map,yS (by rw[I3];omega)];rfl)<|yr (H8.ah e_1) ae ⟨rfl,rfl⟩ λh9 H9=>?_;rw[← List.map_set,← cS]at H9;exact hj _ _ ⟨rfl,H9.pk [1,0] 0⟩
    ·refine qV he (qJ ?_);rw[iQ he]at cS;exact hj _ _ ⟨rfl,by rw[cS];exact H8⟩
   clear H8;rintro s h9 ⟨rfl,H9⟩;have Ba:wp (jY .add (.int .i64 (i:Int)) (.int .i64 ((1:Nat):Int)) λv=>ih (v,mv,rv,.ptr b0 0,()) h9 []) λr h'=>∃rv mv,r=.bm [.int .i64 0,.int .i64 0,rv,mv]∧HS g h' (qF 3 1 l.length mv ((eh l A l.length).map (.int .i64))::R) :=
    qS omQ (aY (l.length-(i+1)) _ _ omQ ⟨i+1,rfl,by omega,rfl,H9.drop⟩)
   by_cases hj:x.1=12∨x.1=13
   ·obtain⟨c,Hv,dz⟩:∃c:Nat,x.2.2.2.1=c∧c≤40:=by
     have:=O8 Hu hj;exact⟨x.2.2.2.1.toNat,by omega,by omega⟩
    rw[Hv]at H9;have dC:∀k:Nat,k<l.length→(A.map (AV.int .i64))[k]? =some (.int .i64 (qP A (k:Int))):=by intro k hk;rw[List.getElem?_map,yS omQ];rfl
    unfold JO at nM;rw[Hv]at nM;have CU:c≤l.length:=by
     rcases Nat.lt_or_ge l.length c with h |h
     ·exact absurd ⟨hj,.inl omQ⟩ nM
     ·exact h
    by_cases c2:c=l.length
    ·have c3:qP A (i:Int)= -1:=Classical.not_not.1 λh=>nM ⟨hj,.inr (.inl ⟨by omega,h⟩)⟩;clear nM Ac;subst c2;rcases hj with hj |hj
     all_goals repeat (first |with_reducible refine qX ?_ |with_reducible refine qJ ?_ |(with_reducible refine qR ?_;try dsimp only) |(with_reducible refine qf ?_;try dsimp only) |(with_reducible refine qT ?_;try dsimp only) |(with_reducible refine qM ?_;try dsimp only) |(with_reducible refine jT ?_;try dsimp only) |with_reducible refine qC ?_ |with_reducible refine qB ?_ |(with_reducible refine qG ?_;try dsimp only) |with_reducible refine qg ?_ |with_reducible refine jQ ?_ |with_reducible refine jg ?_ |with_reducible refine jK omQ ?_ |with_reducible refine qK ?_ |with_reducible refine qQ ?_ |with_reducible refine qA rfl ?_ |with_reducible refine qZ ‹_› (by first |exact .here |exact e_3) rfl ?_ |with_reducible refine qd ‹_› .here ?_ |with_reducible refine qy rfl ?_ |with_reducible refine qj omQ ?_ |with_reducible refine qV omQ ?_ |with_reducible refine jJ omQ ?_ |with_reducible refine q9 omQ ?_ |with_reducible refine jB omQ ?_ |with_reducible refine jk omQ ?_ |with_reducible refine yq omQ ?_ |with_reducible refine yY omQ ?_ |with_reducible refine zv omQ ?_ |with_reducible refine zV omQ ?_ |with_reducible refine jA omQ ?_ |with_reducible refine jz omQ ?_)
     all_goals refine z8 tV ?_
     all_goals repeat (first |with_reducible refine qX ?_ |with_reducible refine qJ ?_ |(with_reducible refine qR ?_;try dsimp only) |(with_reducible refine qf ?_;try dsimp only) |(with_reducible refine qT ?_;try dsimp only) |(with_reducible refine qM ?_;try dsimp only) |(with_reducible refine jT ?_;try dsimp only) |with_reducible refine qC ?_ |with_reducible refine qB ?_ |(with_reducible refine qG ?_;try dsimp only) |with_reducible refine qg ?_ |with_reducible refine jQ ?_ |with_reducible refine jg ?_ |with_reducible refine jK omQ ?_ |with_reducible refine qK ?_ |with_reducible refine qQ ?_ |with_reducible refine qA rfl ?_ |with_reducible refine qZ ‹_› (by first |exact .here |exact e_3) rfl ?_ |with_reducible refine qd ‹_› .here ?_ |with_reducible refine qy rfl ?_ |with_reducible refine qj omQ ?_ |with_reducible refine qV omQ ?_ |with_reducible refine jJ omQ ?_ |with_reducible refine q9 omQ ?_ |with_reducible refine jB omQ ?_ |with_reducible refine jk omQ ?_ |with_reducible refine yq omQ ?_ |with_reducible refine yY omQ ?_ |with_reducible refine zv omQ ?_ |with_reducible refine zV omQ ?_ |with_reducible refine jA omQ ?_ |with_reducible refine jz omQ ?_)
     all_goals refine z8 tV ?_
     all_goals repeat (first |with_reducible refine qX ?_ |with_reducible refine qJ ?_ |(with_reducible refine qR ?_;try dsimp only) |(with_reducible refine qf ?_;try dsimp only) |(with_reducible refine qT ?_;try dsimp only) |(with_reducible refine qM ?_;try dsimp only) |(with_reducible refine jT ?_;try dsimp only) |with_reducible refine qC ?_ |with_reducible refine qB ?_ |(with_reducible refine qG ?_;try dsimp only) |with_reducible refine qg ?_ |with_reducible refine jQ ?_ |with_reducible refine jg ?_ |with_reducible refine jK omQ ?_ |with_reducible refine qK ?_ |with_reducible refine qQ ?_ |with_reducible refine qA rfl ?_ |with_reducible refine qZ ‹_› .here rfl ?_ |with_reducible refine qd ‹_› .here ?_ |with_reducible refine qy rfl ?_ |with_reducible refine qj omQ ?_ |with_reducible refine qV omQ ?_ |with_reducible refine jJ omQ ?_ |with_reducible refine q9 omQ ?_ |with_reducible refine jB omQ ?_ |with_reducible refine jk omQ ?_ |with_reducible refine yq omQ ?_ |with_reducible refine yY omQ ?_ |with_reducible refine zv omQ ?_ |with_reducible refine zV omQ ?_ |with_reducible refine jA omQ ?_ |with_reducible refine jz omQ ?_)
     all_goals refine jN (H9.sl e_2) (dC i ae) ?_
     all_goals rw[c3]
     all_goals refine qj rfl ?_
     all_goals repeat (first |with_reducible refine qX ?_ |with_reducible refine qJ ?_ |(with_reducible refine qR ?_;try dsimp only) |(with_reducible refine qf ?_;try dsimp only) |(with_reducible refine qT ?_;try dsimp only) |(with_reducible refine qM ?_;try dsimp only) |(with_reducible refine jT ?_;try dsimp only) |with_reducible refine qC ?_ |with_reducible refine qB ?_ |(with_reducible refine qG ?_;try dsimp only) |with_reducible refine qg ?_ |with_reducible refine jQ ?_ |with_reducible refine jg ?_ |with_reducible refine jK omQ ?_ |with_reducible refine qK ?_ |with_reducible refine qQ ?_ |with_reducible refine qA rfl ?_ |with_reducible refine qZ ‹_› .here rfl ?_ |with_reducible refine qd ‹_› .here ?_ |with_reducible refine qy rfl ?_ |with_reducible refine qj omQ ?_ |with_reducible refine qV omQ ?_ |with_reducible refine jJ omQ ?_ |with_reducible refine q9 omQ ?_ |with_reducible refine jB omQ ?_ |with_reducible refine jk omQ ?_ |with_reducible refine yq omQ ?_ |with_reducible refine yY omQ ?_ |with_reducible refine zv omQ ?_ |with_reducible refine zV omQ ?_ |with_reducible refine jA omQ ?_ |with_reducible refine jz omQ ?_)
     all_goals exact Ba
    ·have c3:qP A (c:Int)=qP A (i:Int):=Classical.not_not.1 λh=>nM ⟨hj,.inr (.inr ⟨by omega,h⟩)⟩;clear nM Ac;rcases hj with hj |hj
     all_goals repeat (first |with_reducible refine qX ?_ |with_reducible refine qJ ?_ |(with_reducible refine qR ?_;try dsimp only) |(with_reducible refine qf ?_;try dsimp only) |(with_reducible refine qT ?_;try dsimp only) |(with_reducible refine qM ?_;try dsimp only) |(with_reducible refine jT ?_;try dsimp only) |with_reducible refine qC ?_ |with_reducible refine qB ?_ |(with_reducible refine qG ?_;try dsimp only) |with_reducible refine qg ?_ |with_reducible refine jQ ?_ |with_reducible refine jg ?_ |with_reducible refine jK omQ ?_ |with_reducible refine qK ?_ |with_reducible refine qQ ?_ |with_reducible refine qA rfl ?_ |with_reducible refine qZ ‹_› (by first |exact .here |exact e_3) rfl ?_ |with_reducible refine qd ‹_› .here ?_ |with_reducible refine qy rfl ?_ |with_reducible refine qj omQ ?_ |with_reducible refine qV omQ ?_ |with_reducible refine jJ omQ ?_ |with_reducible refine q9 omQ ?_ |with_reducible refine jB omQ ?_ |with_reducible refine jk omQ ?_ |with_reducible refine yq omQ ?_ |with_reducible refine yY omQ ?_ |with_reducible refine zv omQ ?_ |with_reducible refine zV omQ ?_ |with_reducible refine jA omQ ?_ |with_reducible refine jz omQ ?_)
     all_goals refine z8 tV ?_
     all_goals repeat (first |with_reducible refine qX ?_ |with_reducible refine qJ ?_ |(with_reducible refine qR ?_;try dsimp only) |(with_reducible refine qf ?_;try dsimp only) |(with_reducible refine qT ?_;try dsimp only) |(with_reducible refine qM ?_;try dsimp only) |(with_reducible refine jT ?_;try dsimp only) |with_reducible refine qC ?_ |with_reducible refine qB ?_ |(with_reducible refine qG ?_;try dsimp only) |with_reducible refine qg ?_ |with_reducible refine jQ ?_ |with_reducible refine jg ?_ |with_reducible refine jK omQ ?_ |with_reducible refine qK ?_ |with_reducible refine qQ ?_ |with_reducible refine qA rfl ?_ |with_reducible refine qZ ‹_› .here rfl ?_ |with_reducible refine qd ‹_› .here ?_ |with_reducible refine qy rfl ?_ |with_reducible refine qj omQ ?_ |with_reducible refine qV omQ ?_ |with_reducible refine jJ omQ ?_ |with_reducible refine q9 omQ ?_ |with_reducible refine jB omQ ?_ |with_reducible refine jk omQ ?_ |with_reducible refine yq omQ ?_ |with_reducible refine yY omQ ?_ |with_reducible refine zv omQ ?_ |with_reducible refine zV omQ ?_ |with_reducible refine jA omQ ?_ |with_reducible refine jz omQ ?_)
     all_goals refine jN (H9.sl e_2) (dC c omQ) ?_
     all_goals refine jN (H9.sl e_2) (dC i ae) ?_
     all_goals refine qj c3 ?_
     all_goals repeat (first |with_reducible refine qX ?_ |with_reducible refine qJ ?_ |(with_reducible refine qR ?_;try dsimp only) |(with_reducible refine qf ?_;try dsimp only) |(with_reducible refine qT ?_;try dsimp only) |(with_reducible refine qM ?_;try dsimp only) |(with_reducible refine jT ?_;try dsimp only) |with_reducible refine qC ?_ |with_reducible refine qB ?_ |(with_reducible refine qG ?_;try dsimp only) |with_reducible refine qg ?_ |with_reducible refine jQ ?_ |with_reducible refine jg ?_ |with_reducible refine jK omQ ?_ |with_reducible refine qK ?_ |with_reducible refine qQ ?_ |with_reducible refine qA rfl ?_ |with_reducible refine qZ ‹_› .here rfl ?_ |with_reducible refine qd ‹_› .here ?_ |with_reducible refine qy rfl ?_ |with_reducible refine qj omQ ?_ |with_reducible refine qV omQ ?_ |with_reducible refine jJ omQ ?_ |with_reducible refine q9 omQ ?_ |with_reducible refine jB omQ ?_ |with_reducible refine jk omQ ?_ |with_reducible refine yq omQ ?_ |with_reducible refine yY omQ ?_ |with_reducible refine zv omQ ?_ |with_reducible refine zV omQ ?_ |with_reducible refine jA omQ ?_ |with_reducible refine jz omQ ?_)
     all_goals exact Ba
   ·repeat (first |with_reducible refine qX ?_ |with_reducible refine qJ ?_ |(with_reducible refine qR ?_;try dsimp only) |(with_reducible refine qf ?_;try dsimp only) |(with_reducible refine qT ?_;try dsimp only) |(with_reducible refine qM ?_;try dsimp only) |(with_reducible refine jT ?_;try dsimp only) |with_reducible refine qC ?_ |with_reducible refine qB ?_ |(with_reducible refine qG ?_;try dsimp only) |with_reducible refine qg ?_ |with_reducible refine jQ ?_ |with_reducible refine jg ?_ |with_reducible refine jK omQ ?_ |with_reducible refine qK ?_ |with_reducible refine qQ ?_ |with_reducible refine qA rfl ?_ |with_reducible refine qZ ‹_› .here rfl ?_ |with_reducible refine qd ‹_› .here ?_ |with_reducible refine qy rfl ?_ |with_reducible refine qj omQ ?_ |with_reducible refine qV omQ ?_ |with_reducible refine jJ omQ ?_ |with_reducible refine q9 omQ ?_ |with_reducible refine jB omQ ?_ |with_reducible refine jk omQ ?_ |with_reducible refine yq omQ ?_ |with_reducible refine yY omQ ?_ |with_reducible refine zv omQ ?_ |with_reducible refine zV omQ ?_ |with_reducible refine jA omQ ?_ |with_reducible refine jz omQ ?_)
    exact Ba
  ·obtain rfl:i=l.length:=by omega
   refine qQ (qZ H (b:=b0) e_2 rfl (z8 tV ?_));refine jk omQ (qJ (qg ?_));exact qY ⟨rv,mv,rfl,H.pk [0] 2⟩
end
section
variable {g h:AH} {L R:List SP}
def tF (bs:List UInt8):List AV:=bs.map λc=>.int .u8 (.ofNat c.toNat)
theorem qWb:∀(bs:List UInt8),kB (tF bs)=some bs:=by
 intro bs
 induction bs with
 |nil=>rfl
 |cons b bs ih=>simp_all[kB,tF,UInt8.ofNat]
theorem OV (bs:List UInt8):jV (tF bs)=true:=by unfold jV tF;rw[List.all_eq_true];intro y hy;obtain⟨z,_,rfl⟩:=List.mem_map.1 hy;rfl
theorem qyE {e:TypeId} {n:Nat} {v:AV} {bs:List UInt8} {K:AV→Go.Ae.R} {Q:AV→AH→Prop} (H:HS g h L) (s:aR L (qF e 1 n v (tF bs)) R) (w:wp (K (.str bs)) Q):wp (Xv h v K) Q:=by
 obtain⟨D,hl,⟨rfl,rfl,_⟩ |⟨b,cp,o,ys,rfl,_,A,h1,h2,_⟩⟩:=H.p s
 ·have:bs=[]:=iA (by grind[tF]);subst this;exact w
 ·unfold Xv;dsimp only;rw[Yo A omQ,List.drop_zero];rw[Nat.mul_one]at h2;rw[h2];simp only[ob,qWb];exact w
theorem NQ {u:Nat} (h:u<10):Lib.decDigits u=[UInt8.ofNat (48+u)]:=Lib.decDigits_one h
theorem Zw {u:Nat} (h:¬u<10):Lib.decDigits u=Lib.decDigits (u/10)++[UInt8.ofNat (48+u%10)]:=by rw[Lib.decDigits,dif_neg h]
def VE (m:Nat):List UInt8:=if m<10 then[]else Lib.decDigits (m/10)
theorem qJH {m:Nat} (h:¬m<10):VE m=VE (m/10)++[UInt8.ofNat (48+m/10%10)]:=by
 unfold VE;rw[iQ h];by_cases h1:m/10<10
 all_goals simp_all[NQ,Nat.mod_eq_of_lt,iQ,Zw]
theorem qKo (u:Nat):Lib.decDigits u=VE u++[UInt8.ofNat (48+u%10)]:=by
 unfold VE;by_cases h:u<10
 all_goals simp_all[NQ,Nat.mod_eq_of_lt,iQ,Zw]
theorem qQt {n:Nat} (hn:1≤n) {u:Nat} (h2:u<18446744073709551616) (H:HS g h R):af n 154 [.int .u64 (u:Int)] h λr h'=>r=.str (Lib.decDigits u)∧HS g h' R:=by
 refine ag (S:=S154) rfl omQ λk hk=>?_;unfold S154;try simp only[iZ]
 have hd:∀m:Nat,Int.tmod (m:Int) ((10:Nat):Int)=((m%10:Nat):Int):=λm=>by rfl
 have hc:∀m:Nat,AV.int .u8 (((48:Nat):Int)+((m%10:Nat):Int))=.int .u8 (.ofNat (UInt8.ofNat (48+m%10)).toNat):=λm=>by
  simp;omega
 refine ga omQ ?_;rw[hd];refine xT omQ (GZ ?_);rw[Wq omQ,hc];refine qr (n:=1) (l:=tF [UInt8.ofNat (48+u%10)]) (sz:=1) H rfl rfl rfl (OV _) λv3 h3 H3=>?_;refine jF (λc s h'=>∃(m:Nat) (bs:List UInt8) (bv:AV),s=(bv,.int .u64 (m:Int),())∧m<10 ^ c∧m<18446744073709551616∧bs.length+c≤21∧Lib.decDigits u=VE m++bs∧HS g h' (qF 5 1 bs.length bv (tF bs)::R))
  ?_ (m:=20) omQ ⟨u,_,v3,rfl,by omega,h2,by simp,qKo u,H3⟩
 clear H3 H;rintro c ih s h4 aY ⟨m,bs,bv,rfl,hm,EM,hl,uX,H⟩;by_cases dK:m<10
 ·refine jz omQ (qJ ?_);refine qyE H .here<|qg (qY ⟨?_,H.drop⟩);rw[uX];simp[VE];omega
 ·refine jA omQ (qX ?_);have hq:Int.tdiv (m:Int) ((10:Nat):Int)=((m/10:Nat):Int):=by rfl
  refine Pp omQ ?_;rw[hq,MH omQ];refine ga omQ ?_;rw[hd];refine xT omQ (GZ ?_);rw[Wq omQ,hc];refine qr (n:=1) (l:=tF [UInt8.ofNat (48+m/10%10)]) (sz:=1) H rfl rfl rfl (OV _) λv5 h5 H5=>?_;refine jh (H5.ah (P:=qF 5 1 1 v5 (tF [UInt8.ofNat (48+m/10%10)])) .here) (H5.sl e_1) omQ omQ (OV _) λv6 h6 H6=>?_;obtain⟨c,rfl⟩:∃c',c=c'+1:=by
   cases c with
   |zero=>grind
   |succ c=>simp
  refine aY c _ _ omQ ⟨m/10,UInt8.ofNat (48+m/10%10)::bs,v6,rfl,by grind,by omega,by grind,?_,?_⟩
  ·rw[uX,qJH dK,List.append_assoc];rfl
  ·have e:(UInt8.ofNat (48+m/10%10)::bs).length=1+bs.length:=by grind
   rw[e];have H7:HS g h6 (qF 5 1 (1+bs.length) v6 (tF (UInt8.ofNat (48+m/10%10)::bs))::_):=H6;exact H7.pk [0] 1
theorem NY {a b:List UInt8} {K:AV→Go.Ae.R} {Q:AV→AH→Prop} (h:a.length+b.length≤1073741824) (w:wp (K (.str (a++b))) Q):wp (XF .add (.str a) (.str b) K) Q:=by show wp (ob (bif Nat.ble (a.length+b.length) 1073741824 then some (.str (a++b))else none) K) Q;rw[iY h];exact w
theorem V6 (sep x:List UInt8) (r:List (List UInt8)):Lib.joinTail sep (r++[x])=Lib.joinTail sep r++(sep++x):=by simp[Lib.joinTail]
theorem qGU {sep x:List UInt8} {xs:List (List UInt8)} (h:xs≠[]):Lib.join (xs++[x]) sep=Lib.join xs sep++sep++x:=by
 cases xs with
 |nil=>grind
 |cons y r=>simp[List.cons_append,Lib.join_cons,V6]
theorem qqE {n:Nat} (hn:2≤n) {l:List lM} {lv:AV} (H:HS g h R) (S:Rd g R 2 l.length lv (l.flatMap jH)) (hl:l.length≤1000) (hi:∀x∈l,x.1=1∧DD x) :
  af n 103 [lv] h λr h'=>r=.str (F6 l)∧HS g h' R:=by
 (refine qE (g:=W103) rfl omQ λk hk=>?_;show wp (S103 (callT tab qv k) _ _) _;unfold S103;try simp only[iI,uU,iZ])
 refine jF (λc s h'=>∃i:Nat,s=(.int .i64 (i:Int),.str (Lib.join ((l.take i).map iq) [32]),lv,())∧i≤l.length∧c=l.length-i∧HS g h' R) ?_ (m:=l.length) (by show _<1000000000;omega) ⟨0,rfl,by omega,by rfl,H⟩;clear H;rintro c ih s h1 aY ⟨i,rfl,h1l,rfl,H⟩;refine zH (S.sl H)<|zK (λae=>qX ?_) λeL=>qJ (qg (qY ⟨?_,H⟩))
 rotate_left
 ·obtain rfl:i=l.length:=by omega
  rw[List.take_length];rfl
 have ae:i<l.length:=by omega
 have hx:=hi l[i] (List.getElem_mem ae)
 have hlen:=Zm (m:=20) ((l.take i).map iq) (by
  intro y hy;obtain⟨x,mw,rfl⟩:=List.mem_map.1 hy
  grind[Nf,List.mem_of_mem_take])
 have p0:=Nf _ hx.2;have hts:(l.take (i+1)).map iq=(l.take i).map iq++[iq l[i]]:=by rw[List.take_add_one,iW ae,Option.toList_some,List.map_append,List.map_singleton]
 have e1:iq l[i]=Lib.decDigits l[i].2.toNat:=iJ hx.1;have eC:∀f,f<2→(l.flatMap jH)[i*2+f]? =(jH l[i])[f]?:=λf hf=>xl (sz:=2) jH (λ_=>rfl) _ _ _ hf |>.trans (by grind);rw[List.length_map,List.length_take]at hlen;have IX:min i l.length=i:=by omega
 rw[IX]at hlen;generalize l[i]=x at*;refine jq [] (λs h'=>s=(.int .i64 (i:Int),.str (Lib.join ((l.take i).map iq) [32]++(if i=0 then[]else[32])),lv,())∧h'=h1) ?_ ?_
 ·intro j hj;by_cases h0:i=0
  ·refine zV omQ (qJ (hj _ _ ⟨?_,rfl⟩));grind
  ·refine zv omQ (qX (NY (by grind) (hj _ _ ⟨?_,rfl⟩)));grind
 rintro s h1 ⟨rfl,rfl⟩;have CW:Lib.join ((l.take i).map iq) [32]++(if i=0 then[]else[32])++iq x=Lib.join ((l.take (i+1)).map iq) [32]:=by
  rw[hts];by_cases h0:i=0
  ·subst h0;rw[iJ rfl];simp[Lib.join,iq]
  ·rw[iQ h0,qGU];intro hn;have:=congrArg List.length hn;grind
 refine jq [] (λs h'=>s=(.int .i64 (i:Int),.str (Lib.join ((l.take (i+1)).map iq) [32]),lv,())∧HS g h' R) ?_ ?_
 rotate_left
 ·rintro s h2 ⟨rfl,H2⟩;exact qS omQ (aY (l.length-(i+1)) _ _ omQ ⟨i+1,rfl,by omega,rfl,H2⟩)
 intro j hj;refine jU (x:=.int .i64 x.1) (S.sl H) omQ ae (eC 0 omQ)<|qj hx.1 (qX ?_);refine jU (x:=.int .u64 x.2) (S.sl H) omQ ae (eC 1 omQ) ?_;obtain⟨u,hu⟩:∃u:Nat,x.2=u:=⟨x.2.toNat,by have:=hx.2.1;omega⟩;have Db:=hx.2.2;rw[hu];refine qW (qQt omQ omQ H) ?_;rintro _ h3 ⟨rfl,H3⟩;rw[hu,Int.toNat_natCast]at e1;rw[← e1];refine NY ?_ (hj _ _ ⟨by rw[CW],H3⟩);grind
end
section
def Qe (s:IM):Prop:=∀x∈s.out,x.1=1
theorem Mc {op a nx:Int} {s:IM} {V:VM} (h:Qe s):Qe (zW op a nx s V).s:=by unfold zW;split<;>exact h
theorem Z9 {s:IM} {p:cy} (h:Qe s):Qe (gr s p):=λx hx=>h x (List.mem_of_mem_take hx)
theorem qGc {mt:List Int} {s:IM} (h:Qe s):∀{o:List cy} {V:VM},Qe (xw mt o s V).s:=by
 intro o
 induction o with
 |nil=>intro V;exact h
 |cons p o ih=>
  intro V;unfold xw
  split
  ·split
   ·exact Mc (Z9 h)
   grind
  trivial
theorem qG0 {s:IM} {V:VM} {x:qe} (h:Qe s):Qe (jm s V x).2.1:=by
 unfold jm
 repeat' split
 all_goals exact h
theorem ye {c:Prop} [Decidable c] {a b:SM} (ha:Qe a.s) (hb:Qe b.s):Qe (if c then a else b).s:=by grind
theorem qxd {mt:List Int} {s:IM} {V:VM} {op:Int} (h:Qe s):Qe (yL mt s V op).s:=by unfold yL;exact ye (Mc h) (ye h (ye h (ye (Z9 h) (qGc h))))
theorem jQE {mt:List Int} {s:IM} {V:VM} {x:qe} (h:Qe s):Qe (aZ mt s V x).s:=by
 unfold aZ;refine ye h (ye h (ye h (ye h (ye h (ye h (ye h (ye h (ye h (ye (ye h ?_) (ye h (ye (qG0 h) (qxd h))))))))))));intro y hy;rcases List.mem_append.1 hy with hy |hy
 ·exact h y hy
 grind
theorem qv2 {l:List qe} {mt:List Int}:∀(n:Nat) {s:IM} {V:VM},Qe s→Qe (zw l mt n s V).s:=by
 intro n
 induction n with
 |zero=>grind[wc]
 |succ n ih=>
  intro s V h;have hd:=jQE (mt:=mt) (V:=V) (x:=qU l s.pc) h;rw[kw];generalize aZ mt s V (qU l s.pc)=D at*
  repeat' split
  ·grind
  ·exact hd
  ·exact ih hd
  all_goals grind
end
section
variable {g h:AH} {L R:List SP}
theorem qkN {e:TypeId} {sz n hi:Nat} {v:AV} {xs:List AV} {k:IntKind} {K:AV→Go.Ae.R} {Q:AV→AH→Prop} (H:HS g h (qF e sz n v xs::R)) (bC:0<sz) (hle:hi≤n)
  (w:∀v',(∀{g' h':AH} {R':List SP} {tG:List AV},HS g' h' (qF e sz n v tG::R')→HS g' h' (qF e sz hi v' (tG.take (hi*sz))::R'))→wp (K v') Q):wp (yX h e sz v none (some (.int k (hi:Int))) K) Q:=by
 have CX:∀{g' h':AH} {R':List SP} {tG:List AV} {v:AV},HS g' h' (qF e sz 0 v tG::R')→HS g' h' (qF e sz 0 v (tG.take (0*sz))::R'):=by intro g' h' R' tG v H';have hx:=H'.dl .here;grind
 by_cases hn:n=0
 ·subst hn;obtain rfl:hi=0:=by omega
  obtain⟨D,⟨hl,⟨rfl,_,hD⟩ |⟨b,cp,o,zs,rfl,hD,A,q1,q2,q3⟩⟩,hb,k⟩:=H.act
  ·exact w .ad CX
  ·cases o with
   |false=>
    refine NR (hi:=0) (lo:=0) (vZ (Nat.zero_le _)) rfl ?_;have:=w (.slice b 0 0 cp false) CX;have e0:(bif Nat.beq cp 0 then 0 else 0+0*sz)=0:=by simp
    rw[e0];exact this
   |true=>rw[iJ rfl]at q3;subst q3;refine Uq (i0:=0) (hi:=0) (lo:=0) A bC omQ omQ (vZ (Nat.zero_le _)) rfl (.inr rfl) ?_;have:=w (.slice b 0 0 0 true) CX;simpa using this
 ·obtain⟨b,cp,o,zs,rfl,H',q1,q2,q3⟩:=H.ux omQ;have uy:=Nat.mul_le_mul_right sz hle;cases o with
  |false=>
   rw[iQ aA]at q3;refine NR (hi:=hi) (lo:=0) (vZ omQ) rfl ?_
   have:=w (.slice b 0 hi cp false) (by
    intro g' h' R' tG G;obtain⟨b2,cp2,o2,A7,e2,G2,p1,p2,p3⟩:=G.ux omQ;cases e2;rw[iQ aA]at p3;have e1:A7.take (hi*sz)=tG.take (hi*sz):=by grind
    rw[← e1];exact G2.BQ omQ (by grind))
   have e0:(bif Nat.beq cp 0 then 0 else 0+0*sz)=0:=by simp
   rw[e0];exact this
  |true=>
   rw[iJ rfl]at q3;subst q3;obtain⟨D,_,A⟩:=H'.p .here;refine Uq (i0:=0) (hi:=hi) (lo:=0) A bC omQ omQ (vZ hle) rfl (.inr rfl) ?_
   have:=w (.slice b 0 hi 0 true) (by
    intro g' h' R' tG G;obtain⟨b2,cp2,o2,A7,e2,G2,p1,p2,p3⟩:=G.ux omQ;cases e2;have e1:A7.take (hi*sz)=tG.take (hi*sz):=by grind
    rw[← e1];exact G2.BQ omQ (by rfl))
   simpa using this
def wI (q:cy×Int):List AV:=[.int .i64 q.2,.int .u64 (qP q.1.aa 0),.int .u64 (qP q.1.aa 1),.int .u64 (qP q.1.aa 2),.int .u64 (qP q.1.aa 3),.int .u64 (qP q.1.aa 4),.int .u64 (qP q.1.aa 5),.int .u64 (qP q.1.aa 6),.int .u64 (qP q.1.aa 7),.int .i64 (q.1.told:Int),.bool (decide (q.1.op=17))]
theorem Gj (o:List (cy×Int)):(o.reverse.flatMap wI).length=o.length*11:=by rw[vD (sz:=11) _ (λ_=>rfl),List.length_reverse]
theorem X8 (p:cy×Int) (o:List (cy×Int)):(p::o).reverse.flatMap wI=o.reverse.flatMap wI++wI p:=by simp
def eU (qs:List (cy×Int)) (o:List cy):Prop:=qs.map (·.1)=o∧∀q∈qs,q.1.op=17→q.2=q.1.pc
def gU (sv lv ov mv:AV) (o:Nat) (kind err left pc:Int) (r:List Int):List AV :=
 [sv,.ptr o 0,.int .u64 (qP r 0),.int .u64 (qP r 1),.int .u64 (qP r 2),.int .u64 (qP r 3),.int .u64 (qP r 4),.int .u64 (qP r 5),.int .u64 (qP r 6),.int .u64 (qP r 7),.int .i64 pc,.int .i64 left,lv,.int .i64 kind,.int .i64 err,ov,mv]
abbrev Qw (lv:AV) (l:List lM):SP:=qF 236 2 l.length lv (l.flatMap jH)
abbrev kI (ov:AV) (qs:List (cy×Int)):SP:=qF 319 11 qs.length ov (qs.reverse.flatMap wI)
abbrev ke (mv:AV) (mt:List Int):SP:=qF 3 1 mt.length mv (mt.map (.int .i64))
def aC (y o:Nat) (sv:AV) (mt:List Int) (s:IM) (kind err left:Int):SP:=.ex λlv=>.ex λov=>.ex λmv=>.ex λqs=>.all
 [.di (eU qs s.ay),qx y (gU sv lv ov mv o kind err left s.pc s.aa),Qw lv s.out,kI ov qs,ke mv mt]
section
variable {y o:Nat} {sv:AV} {mt:List Int} {s:IM} {kind err left:Int}
theorem aC.E (H:HS g h (aC y o sv mt s kind err left::R)):∃lv ov mv qs,eU qs s.ay∧HS g h (qx y (gU sv lv ov mv o kind err left s.pc s.aa)::Qw lv s.out::kI ov qs::ke mv mt::R):=by obtain⟨lv,H⟩:=H.dj;obtain⟨ov,H⟩:=H.dj;obtain⟨mv,H⟩:=H.dj;obtain⟨qs,H⟩:=H.dj;obtain⟨e,H⟩:=H.bS.cX;exact⟨lv,ov,mv,qs,e,H⟩
theorem aC.I {lv ov mv:AV} {qs:List (cy×Int)} (e:eU qs s.ay) (H:HS g h (qx y (gU sv lv ov mv o kind err left s.pc s.aa)::Qw lv s.out::kI ov qs::ke mv mt::R)):HS g h (aC y o sv mt s kind err left::R) :=
 HS.dE lv (HS.dE ov (HS.dE mv (HS.dE qs (HS.allI (HS.dF e H)))))
theorem gP {lv ov mv:AV} {pc:Int} {r:List Int} {a:Nat} (ha:a<8):(gU sv lv ov mv o kind err left pc r)[2+a*1]? =some (.int .u64 (qP r (a:Int))):=by
 rcases(show a=0∨a=1∨a=2∨a=3∨a=4∨a=5∨a=6∨a=7 by omega)with rfl |rfl |rfl |rfl |rfl |rfl |rfl |rfl<;>rfl
theorem qj6 {lv ov mv:AV} {pc:Int} {r:List Int} {a:Nat} {z:Int} (hr:r.length=8) (ha:a<8):(gU sv lv ov mv o kind err left pc r).set (2+a*1) (.int .u64 z)=gU sv lv ov mv o kind err left pc (r.set a z):=by have hs:=λk:Nat=>Mb (r:=r) (i:=a) (k:=k) (z:=z) omQ;have e0:=hs 0;have e1:=hs 1;have e2:=hs 2;have e3:=hs 3;have e4:=hs 4;have e5:=hs 5;have e6:=hs 6;have e7:=hs 7;simp only[show((0:Nat):Int)=0 from rfl,show((1:Nat):Int)=1 from rfl,show((2:Nat):Int)=2 from rfl,show((3:Nat):Int)=3 from rfl,show((4:Nat):Int)=4 from rfl,show((5:Nat):Int)=5 from rfl,show((6:Nat):Int)=6 from rfl,show((7:Nat):Int)=7 from rfl]at e0 e1 e2 e3 e4 e5 e6 e7;unfold gU;rw[e0,e1,e2,e3,e4,e5,e6,e7];rcases(show a=0∨a=1∨a=2∨a=3∨a=4∨a=5∨a=6∨a=7 by omega)with rfl |rfl |rfl |rfl |rfl |rfl |rfl |rfl<;>rfl
theorem qKa {lv ov mv:AV} {qs:List (cy×Int)} {a:Nat} {z ai:Int} (e:eU qs s.ay) (hr:s.aa.length=8) (ha:a<8) (Hd:ai=a)
  (H:HS g h (qx y ((gU sv lv ov mv o kind err left s.pc s.aa).set (2+a*1) (.int .u64 z))::Qw lv s.out::kI ov qs::ke mv mt::R)):HS g h (aC y o sv mt (b9 s ai z) kind err left::R):=by
 rw[qj6 hr ha]at H;have e2:s.aa.set a z=(b9 s ai z).aa:=by grind[b9,Int.toNat_natCast]
 rw[e2]at H;exact aC.I e H
theorem qxO {n:Nat} (hn:1≤n) {K:AV→AH→Go.Ae.R} {Q:AV→AH→Prop} {V:VM} (O:cU V) (H:HS g h (aP o V::R)) (w:∀h',HS g h' (aP o (xN V).2::R)→wp (K (.int .i64 (xN V).1) h') Q) :
  wp (jo (.ptr o 0) λa=>qI a 2 λa=>ql h a λa=>jC (callT tab qv n) (.fn 254 [] []) [a] h K) Q:=by
 obtain⟨kv,q,H⟩:=aP.E H;refine qK (qQ (qZ H .here rfl ?_));refine qW (qK4 hn (H.ah e_2) O.eR) ?_;rintro _ h1 ⟨rfl,H1⟩;exact w _ (aP.I (kv:=kv) (H1.pk [1,1,0] 0))
theorem qzR {n:Nat} (hn:1≤n) {K:AV→AH→Go.Ae.R} {Q:AV→AH→Prop} {V:VM} (O:cU V) (H:HS g h (aP o V::R)) (w:∀h',HS g h' (aP o (zN V).2::R)→wp (K (.int .i64 (zN V).1) h') Q) :
  wp (jo (.ptr o 0) λa=>qI a 2 λa=>ql h a λa=>jC (callT tab qv n) (.fn 255 [] []) [a] h K) Q:=by
 obtain⟨kv,q,H⟩:=aP.E H;refine qK (qQ (qZ H .here rfl ?_));refine qW (qWu hn (H.ah e_2) O.eR) ?_;rintro _ h1 ⟨rfl,H1⟩;exact w _ (aP.I (kv:=kv) (H1.pk [1,1,0] 0))
theorem qw7 {n:Nat} (hn:3≤n) {K:AV→AH→Go.Ae.R} {Q:AV→AH→Prop} {V:VM} (O:cU V) (hf:bA V.lv<1000000) (H:HS g h (aP o V::R)) (w:∀h',HS g h' (aP o (vj V).2::R)→wp (K (.int .i64 (vj V).1) h') Q) :
  wp (jo (.ptr o 0) λa=>qI a 2 λa=>ql h a λa=>jC (callT tab qv n) (.fn 158 [] []) [a] h K) Q:=by
 obtain⟨kv,q,H⟩:=aP.E H;refine qK (qQ (qZ H .here rfl ?_));refine qW (M5 hn (H.ah e_2) O.eR hf) ?_;rintro _ h1 ⟨rfl,H1⟩;exact w _ (aP.I (kv:=kv) (H1.pk [1,1,0] 0))
theorem qwm {b:Nat} {p:cy} {z:Int} {K0:AH→Go.Ae.R} {Q:AV→AH→Prop} (ht:p.told≤s.out.length) (H:HS g h (aC y o sv mt s kind err left::qx b (wI (p,z))::R))
  (w:∀h',HS g h' (aC y o sv mt (gr s p) kind err left::qx b (wI (p,z))::R)→wp (K0 h') Q) :
  wp (qI (.ptr b 0) 1 λv80=>q8 h v80 8 λBW=>jo (.ptr y 0) λAT=>qI AT 12 λDs=>ql h Ds λuD=>qI (.ptr b 0) 9 λv85=>ql h v85 λsS=>yX h 236 2 uD none (some sS) λv87=>
   jo (.ptr y 0) λFs=>qI Fs 2 λIV=>qn h IV BW 8 λSW=>jo (.ptr y 0) λv91=>qI v91 12 λBX=>qn SW BX v87 1 λh93=>ve uD (some (236*65536+2)) v87 h SW h.nx<| ve v85 none sS h SW h.nx<| K0 h93) Q:=by
 obtain⟨lv,ov,mv,qs,e,H⟩:=aC.E H;refine qQ (qD H (b:=b) (off:=1) e_4 rfl omQ (l:=Zn p.aa) rfl ?_);refine qK (qQ (qZ H (b:=y) .here rfl ?_));refine qQ (qZ H (b:=b) (off:=9) e_4 rfl ?_);refine qkN (H.ah e_1) omQ ht λv2 cut=>?_;refine qK (qQ ?_);refine qh H (b:=y) .here rfl (by show 2+8≤17;omega) rfl λh1 H1=>?_;have H1:HS g h1 (qx y (gU sv lv ov mv o kind err left s.pc p.aa)::Qw lv s.out::kI ov qs::ke mv mt::qx b (wI (p,z))::R):=H1;have H2:=cut (H1.ah e_1);have o2:=H2.one .here;have el:(s.out.flatMap jH).take (p.told*2)=(s.out.take p.told).flatMap jH:=by
  conv=>lhs;rw[← List.take_append_drop p.told s.out,List.flatMap_append]
  rw[List.take_append_of_le_length (by rw[vD (sz:=2) _ (λ_=>rfl),List.length_take,Nat.min_eq_left ht];simp),List.take_of_length_le (by rw[vD (sz:=2) _ (λ_=>rfl),List.length_take,Nat.min_eq_left ht];simp)]
 refine qK (qQ ?_);refine qw H2 (b:=y) e_1 o2 (by show 12<17;omega) λh3 H3=>?_;refine Zr H (s:=e_1) H1 e_1 H e_1 omQ omQ rfl<|qu H (b:=b) e_4 rfl H1 e_4 rfl (HS.lt H e_4)<|w h3 (aC.I (s:=gr s p) (lv:=v2) (ov:=ov) (mv:=mv) e ?_);show HS g h3 (qx y (gU sv v2 ov mv o kind err left s.pc p.aa)::Qw v2 (s.out.take p.told)::kI ov qs::ke mv mt::qx b (wI (p,z))::R);unfold Qw;rw[← el,show(s.out.take p.told).length=p.told by grind];exact H3
end
end
section
variable {g h:AH} {L R:List SP}
section
variable {y o:Nat} {sv:AV} {mt:List Int} {s:IM} {kind err left:Int}
theorem eU.cons {qs:List (cy×Int)} {p:cy} {r:List cy} (h:eU qs (p::r)):∃z qs',qs=(p,z)::qs'∧eU qs' r∧(p.op=17→z=p.pc):=by
 obtain⟨h1,h2⟩:=h;cases qs with
 |nil=>grind
 |cons q qs=>obtain⟨q1,q2⟩:=q;rw[List.map_cons,List.cons.injEq]at h1;obtain⟨rfl,h1⟩:=h1;exact⟨q2,qs,rfl,⟨h1,λq hq=>h2 q (iX _ hq)⟩,h2 _ (iK ..)⟩
theorem eU.push {qs:List (cy×Int)} {p:cy} {z:Int} {r:List cy} (h:eU qs r) (hz:p.op=17→z=p.pc):eU ((p,z)::qs) (p::r):=by
 refine⟨by rw[List.map_cons,h.1],λq hq=>?_⟩;rcases List.mem_cons.1 hq with rfl |hq
 ·grind
 ·exact h.2 q hq
theorem eU.len {qs:List (cy×Int)} {r:List cy} (h:eU qs r):qs.length=r.length:=by rw[← h.1,List.length_map]
theorem qXm {q:cy×Int} {qs:List (cy×Int)}:(((q::qs).reverse.flatMap wI).drop (qs.length*11)).take 11=wI q:=by rw[X8,List.drop_append_of_le_length (by rw[Gj];simp),List.drop_of_length_le (by rw[Gj];simp)];rfl
theorem Na {q:cy×Int} {qs:List (cy×Int)}:((q::qs).reverse.flatMap wI).take (qs.length*11)=qs.reverse.flatMap wI:=by rw[X8,List.take_append_of_le_length (by rw[Gj];simp),List.take_of_length_le (by rw[Gj];simp)]
theorem qV9 {n:Nat} (hn:2≤n) {V:VM} (G:ju V) (fN:V.lv.length=s.ay.length+1) (h5:s.ay.length≤5) (told:cH s.out.length s.ay) (hm:∀p∈s.ay,p.op=17→dw mt p.pc) (_:0≤s.pc∧s.pc≤100)
  (H:HS g h (aC y o sv mt s 0 err left::aP o V::R)) :
  af n 256 [.ptr y 0] h λ_ h'=>(xw mt s.ay s V).e=0∧
   HS g h' (aC y o sv mt { (xw mt s.ay s V).s with pc:=(xw mt s.ay s V).nx } (if(xw mt s.ay s V).bf=true then 3 else 0) err left::aP o (xw mt s.ay s V).v::R):=by
 refine ag (S:=S256) rfl omQ λk hk=>?_;unfold S256;try simp only[iZ]
 generalize hD:xw mt s.ay s V=D;refine jF (λm st h'=>∃(r:List cy) (V':VM),st=(.ptr y 0,())∧m=r.length∧r.length≤5∧HS g h' (aC y o sv mt { s with ay:=r } 0 err left::aP o V'::R)∧ju V'∧V'.lv.length=r.length+1∧cH s.out.length r∧(∀p∈r,p.op=17→dw mt p.pc)∧xw mt r s V'=D)
  ?_ (m:=s.ay.length) (by grind) ⟨s.ay,V,rfl,rfl,h5,H,G,fN,told,hm,hD⟩
 clear H G fN told hm hD h5;rintro m ih st h2 aY ⟨r,V,rfl,rfl,h5,H,G,fN,told,hm,hD⟩;dsimp only;obtain⟨lv,ov,mv,qs,e,H1⟩:=aC.E H;clear H;have H1:HS g h2 (qx y (gU sv lv ov mv o 0 err left s.pc s.aa)::Qw lv s.out::kI ov qs::ke mv mt::aP o V::R):=H1;have e:eU qs r:=e;have el:=e.len;refine qK (qQ (qZ H1 (b:=y) .here rfl ?_));refine qd H1 e_2 ?_;cases r with
 |nil=>refine zV (by grind) (qJ ?_);refine qK (qQ ?_);refine qw H1 (b:=y) .here ⟨rfl,rfl⟩ (by show 13<17;omega) λh3 H3=>?_;subst hD;exact qg (qY ⟨rfl,aC.I (s:={ s with ay:=[] }) (kind:=3) (lv:=lv) (ov:=ov) (mv:=mv) e H3⟩)
 |cons p r=>
  obtain⟨z,qs,rfl,e,hz⟩:=e.cons;have el:=e.len;have hd0:=Qq (V:=V) (by grind);simp at h5;refine zv (by simp) (qX ?_);refine qK (qQ (qZ H1 (b:=y) .here rfl ?_));refine qd H1 e_2 ?_;rw[show(((p,z)::qs).length:Int)=((qs.length+1:Nat):Int)from rfl];refine jK omQ ?_;rw[show((qs.length+1:Nat):Int)-((1:Nat):Int)=(qs.length:Int) by omega];refine qK (qQ (qZ H1 (b:=y) .here rfl ?_));refine zj (l:=wI (p,z)) (H1.sl e_2) (i:=qs.length) aA omQ qXm<|qH H1 rfl λb h3 H3=>qh H3 .here rfl (by simp) rfl λh4 H4=>?_;have H4:HS g h4 (qx b (wI (p,z))::qx y (gU sv lv ov mv o 0 err left s.pc s.aa)::Qw lv s.out::kI ov ((p,z)::qs)::ke mv mt::aP o V::R):=H4;clear H1 H3;refine qK (qQ (qZ H4 (b:=y) e_1 rfl ?_));refine qzR omQ G.ok (H4.ah (P:=aP o V) e_5) λh5 H5=>?_;clear H4;refine qK (qQ (qZ H5 (b:=y) e_2 rfl ?_));refine gM (H5.ah (P:=kI ov ((p,z)::qs)) e_4) omQ aA λrJ H6=>?_;rw[Na]at H6;have o6:=H6.one .here;refine qK (qQ ?_);refine qw H6 (b:=y) e_3 o6 (by show 15<17;omega) λh7 H7=>?_;have H7:HS g h7 (qx y (gU sv lv rJ mv o 0 err left s.pc s.aa)::kI rJ qs::aP o (zN V).2::qx b (wI (p,z))::Qw lv s.out::ke mv mt::R):=H7;clear H5 H6;refine qQ (qZ H7 (b:=b) e_3 rfl ?_);unfold xw at hD;rw[iJ hd0.1]at hD;have GD:=G.dy.1;have H8:HS g h7 (aC y o sv mt { s with ay:=r } 0 err left::qx b (wI (p,z))::aP o (zN V).2::R):=aC.I (s:={ s with ay:=r }) (lv:=lv) (ov:=rJ) (mv:=mv) e (H7.pk [0,3,0,2,1,0] 0);clear H7;have tn:(zN V).2.lv.length=r.length+1:=by grind
  by_cases lV:p.op=17
  ·rw[iJ lV]at hD;rw[show decide ((p,z).1.op=17)=true from iG lV];refine jQ (qJ (qG ?_));dsimp only;refine qwm (s:={ s with ay:=r }) told.1 H8 λh9 H9=>?_;clear H8;obtain⟨lv,ov,mv,Ad,e2,cC⟩:=aC.E H9;have cC:HS g h9 (qx y (gU sv lv ov mv o 0 err left s.pc p.aa)::Qw lv (s.out.take p.told)::kI ov Ad::ke mv mt::qx b (wI (p,z))::aP o (zN V).2::R):=cC;have e2:eU Ad r:=e2;have el2:=e2.len;clear H9;refine qK (qQ (qZ cC (b:=y) .here rfl ?_));refine qxO omQ GD.ok (cC.ah (P:=aP o (zN V).2) e_5) λbY dv=>?_;clear cC;obtain⟨kk,iE,w,hX,uS,CD⟩:=hm p (iK ..) lV;rw[dw.num iE hX]at hD;have hzk:z=(kk:Int):=(hz lV).trans iE;subst hzk;refine qK (qQ (qZ dv (b:=y) e_1 rfl ?_));refine qQ (qZ dv (b:=b) e_5 rfl ?_);refine jN (dv.sl e_4) (dw.idx hX).1 (qS omQ ?_);refine qK (qQ ?_);refine qw dv (b:=y) e_1 ⟨rfl,rfl⟩ (by show 10<17;omega) λeY dU=>?_;have dU:HS g eY (qx y (gU sv lv ov mv o 0 err left (w+1) p.aa)::aP o (xN (zN V).2).2::Qw lv (s.out.take p.told)::kI ov Ad::ke mv mt::qx b (wI (p,(kk:Int)))::R):=dU;clear dv;refine qK (qQ (qZ dU (b:=y) .here rfl ?_));refine qQ (qZ dU (b:=b) e_5 rfl ?_);refine qQ (qD dU (b:=b) (off:=1) e_5 rfl omQ (l:=Zn p.aa) rfl ?_);refine qQ (qZ dU (b:=b) e_5 rfl ?_);refine qy (l:=wI (⟨18,w,p.aa,p.told⟩,(kk:Int))) rfl<|qr (n:=1) (l:=wI (⟨18,w,p.aa,p.told⟩,(kk:Int))) (sz:=11) dU rfl rfl rfl rfl λfm Dn tU=>?_;refine jh (tU.ah (P:=kI ov Ad) e_4) (tU.sl .here) omQ omQ rfl λfM im CA=>?_;have SX:=CA.one .here;refine qK (qQ ?_);refine qw CA (b:=y) e_2 SX (by show 15<17;omega) λoE DL=>?_;have ho:(xN (zN V).2).1=0:=by
    unfold xN gg;grind
   unfold zW at hD;rw[iJ ho]at hD;subst hD;have ht:(s.out.take p.told).length=p.told:=by have:=told.1;grind
   refine qg (qY ⟨rfl,aC.I (s:={ { gr s p with ay:=⟨18,w,p.aa,(s.out.take p.told).length⟩::r }with pc:=w+1 }) (kind:=0) (lv:=lv) (ov:=fM) (mv:=mv) (qs:=(⟨18,w,p.aa,p.told⟩,(kk:Int))::Ad) ?_ ?_⟩)
   ·grind[eU]
   ·show HS g oE (qx y (gU sv lv fM mv o 0 err left (w+1) p.aa)::Qw lv (s.out.take p.told)::qF 319 11 (Ad.length+1) fM (((⟨18,w,p.aa,p.told⟩,(kk:Int))::Ad).reverse.flatMap wI)::ke mv mt::aP o (xN (zN V).2).2::R);rw[X8];exact DL.pk [0,3,0,2,1] 2
  ·rw[iQ lV]at hD;rw[show decide ((p,z).1.op=17)=false from iV lV];refine jg (qX ?_);exact aY r.length _ _ aA ⟨r,(zN V).2,rfl,rfl,by omega,H8.pk [0,1] 1,GD,tn,told.tail,λq hq=>hm q (iX _ hq),hD⟩
theorem SY {n:Nat} (hn:3≤n) {V:VM} (O:cU V) (hf:bA V.lv<1000000) {lv ov mv:AV} {q:cy×Int} {qs:List (cy×Int)} {r:List cy} (e:eU qs r) (hq:qs.length≤100) {K0:AH→Go.Ae.R} {Q:AV→AH→Prop}
  (H:HS g h (qx y (gU sv lv ov mv o kind err left s.pc s.aa)::Qw lv s.out::kI ov (q::qs)::ke mv mt::aP o V::R)) (w:∀h',HS g h' (aC y o sv mt { s with ay:=r } kind err left::aP o (vj V).2::R)→wp (K0 h') Q) :
  wp (jo (.ptr y 0) λsX=>qI sX 1 λnS=>ql h nS λCt=>jo Ct λpA=>qI pA 2 λox=>ql h ox λsY=>jC (callT tab qv n) (.fn 158 [] []) [sY] h λ_ AS=>jo (.ptr y 0) λv70=>qI v70 15 λuC=>ql AS uC λv72=>
   jY .sub (.int .i64 ((q::qs).length:Int)) (.int .i64 ((1:Nat):Int)) λBV=>yX AS 319 11 v72 none (some BV) λoA=>jo (.ptr y 0) λv75=>qI v75 15 λv76=>qn AS v76 oA 1 λh77=>K0 h77) Q:=by
 refine qK (qQ (qZ H .here rfl ?_));refine qw7 hn O hf (H.ah e_4) λh3 H3=>?_;refine qK (qQ (qZ H3 e_1 rfl ?_));rw[show((q::qs).length:Int)=((qs.length+1:Nat):Int)from rfl];refine jK omQ ?_;rw[show((qs.length+1:Nat):Int)-((1:Nat):Int)=(qs.length:Int) by omega];refine gM (H3.ah e_3) omQ aA λrJ H6=>?_;rw[Na]at H6;have o6:=H6.one .here;refine qK (qQ ?_);refine qw H6 e_2 o6 (by show 15<17;omega) λh7 H7=>?_;have H7:HS g h7 (qx y (gU sv lv rJ mv o kind err left s.pc s.aa)::kI rJ qs::aP o (vj V).2::Qw lv s.out::ke mv mt::R):=H7;exact w h7 (aC.I (ov:=rJ) (mv:=mv) e (H7.pk [0,2,0,1,0] 0))
theorem Lc {z:Int} {K0:AH→Go.Ae.R} {Q:AV→AH→Prop} (H:HS g h (aC y o sv mt s kind err left::R)) (w:∀h',HS g h' (aC y o sv mt { s with pc:=z } kind err left::R)→wp (K0 h') Q) :
  wp (jo (.ptr y 0) λv=>qI v 10 λv=>qn h v (.int .i64 z) 1 K0) Q:=by
 obtain⟨lv,ov,mv,qs,e,H⟩:=aC.E H;refine qK (qQ ?_);refine qw H .here ⟨rfl,rfl⟩ (by show 10<17;omega) λh1 H1=>?_;exact w _ (aC.I (ov:=ov) (mv:=mv) e H1)
theorem qwT {z:Int} {kk:Nat} {K0:AH→Go.Ae.R} {Q:AV→AH→Prop} (h1:s.pc=kk) (h2:mt[kk]? =some z) (h3:-1≤z∧z≤1000) (H:HS g h (aC y o sv mt s kind err left::R)) (w:∀h',HS g h' (aC y o sv mt { s with pc:=z+1 } kind err left::R)→wp (K0 h') Q) :
  wp (jo (.ptr y 0) λv=>qI v 16 λv=>ql h v λmD=>jo (.ptr y 0) λv=>qI v 10 λv=>ql h v λv107=>xy mD v107 1 λCy=>ql h Cy λv109=>jY .add v109 (.int .i64 ((1:Nat):Int)) λsZ=>jo (.ptr y 0) λv=>qI v 10 λv=>qn h v sZ 1 K0) Q:=by
 have hH:=H;obtain⟨lv,ov,mv,qs,e,H⟩:=aC.E H;refine qK (qQ (qZ H .here rfl ?_));refine qK (qQ (qZ H .here rfl ?_));rw[h1];refine jN (H.sl e_3) (dw.idx h2).1 (qS omQ ?_);exact Lc hH w
theorem qq7 {n:Nat} (hn:5≤n) {V:VM} {x:qe} {l:List qe} (P:He l mt s V x) (fN:V.lv.length=s.ay.length+1) (h5:s.ay.length≤5) (hb:x.1=14∨x.1=17→s.ay.length<5) (hf:bA V.lv<1000000) (hx:14≤x.1∧x.1≤20)
  (H:HS g h (aC y o sv mt s 0 err left::aP o V::R)) :
  af n 225 [.ptr y 0,.agg (jG x)] h λr h'=>r=.int .i64 0∧(yL mt s V x.1).e=0∧
   HS g h' (aC y o sv mt { (yL mt s V x.1).s with pc:=(yL mt s V x.1).nx } (if(yL mt s V x.1).bf=true then 3 else 0) err left::aP o (yL mt s V x.1).v::R):=by
 refine aG (S:=S225) rfl omQ λk hk=>?_;unfold S225;try simp only[iZ]
 have G:=P.ap;have told:=P.told;have fw:=P.out;have DG:=P.pc;have bG:=P.ne;have mR:=P.mt;have hm:=P.ways;refine qH H rfl λb h1 H1=>?_;have H1:HS g h1 (qx b (jG x)::aC y o sv mt s 0 err left::aP o V::R):=H1;obtain⟨lv,ov,mv,qs,e,H2⟩:=aC.E (H1.ah (P:=aC y o sv mt s 0 err left) e_1);have el:=e.len;refine qK (qQ (qZ H2 (b:=y) .here rfl ?_));refine qd H2 e_2<|qQ (qZ H1 (b:=b) .here rfl ?_);unfold yL;generalize fL:x.1=op at*;have hc:op=14∨op=17∨op=15∨op=19∨op=18∨op=16∨op=20:=by omega
 have tH:(op=14∨op=17)→wp (jo (.ptr y 0) λeQ=>qI eQ 1 λfi=>ql h1 fi λlB=>jo lB λv20=>qI v20 2 λv21=>ql h1 v21 λv22=>jC (callT tab qv k) (.fn 254 [] []) [v22] h1 λmM nD=>
   jY .neq mM (.int .i64 ((0:Nat):Int)) λlK=>jw lK (jR [] nD λRH=>some (mM,RH)) (jo (.ptr y 0) λnE=>qI nE 15 λv28=>ql nD v28 λrV=>jo (.ptr y 0) λv30=>qI v30 10 λv31=>ql nD v31 λmA=>
   jo (.ptr y 0) λmb=>qI mb 2 λsO=>q8 nD sO 8 λmN=>jo (.ptr y 0) λlL=>qI lL 12 λv37=>ql nD v37 λuN=>xi uN λuA=>qI (.ptr b 0) 0 λv40=>ql nD v40 λpp=>jY .eql pp (.int .i64 ((17:Nat):Int)) λpt=>
   jf [.int .i64 ((0:Nat):Int),.int .u64 ((0:Nat):Int),.int .u64 ((0:Nat):Int),.int .u64 ((0:Nat):Int),.int .u64 ((0:Nat):Int),.int .u64 ((0:Nat):Int),.int .u64 ((0:Nat):Int),.int .u64 ((0:Nat):Int),.int .u64 ((0:Nat):Int),.int .i64 ((0:Nat):Int),.bool false] [(0,1,mA),(1,8,mN),(9,1,uA),(10,1,pt)] λoh=>
   zR nD 319 [.int .i64 ((0:Nat):Int),.int .u64 ((0:Nat):Int),.int .u64 ((0:Nat):Int),.int .u64 ((0:Nat):Int),.int .u64 ((0:Nat):Int),.int .u64 ((0:Nat):Int),.int .u64 ((0:Nat):Int),.int .u64 ((0:Nat):Int),.int .u64 ((0:Nat):Int),.int .i64 ((0:Nat):Int),.bool false] 1 [(0,11,oh)] λot AN=>
   z6 AN 319 11 rV ot λv46 Fp=>jo (.ptr y 0) λAU=>qI AU 15 λv49=>qn Fp v49 v46 1 λri=>jo (.ptr y 0) λv51=>qI v51 10 λrz=>ql ri rz λv53=>jY .add v53 (.int .i64 ((1:Nat):Int)) λuM=>
   jo (.ptr y 0) λrA=>qI rA 10 λnz=>qn ri nz uM 1 λPv=>jR [] Pv λeY=>some (.int .i64 ((0:Nat):Int),eY))) λr h'=>r=.int .i64 0∧(zW op s.pc (s.pc+1) s V).e=0∧
    HS g h' (aC y o sv mt { (zW op s.pc (s.pc+1) s V).s with pc:=(zW op s.pc (s.pc+1) s V).nx } (if(zW op s.pc (s.pc+1) s V).bf=true then 3 else 0) err left::aP o (zW op s.pc (s.pc+1) s V).v::R):=by
  intro c;have hb:=hb c;have ho:(xN V).1=0:=by simp_all[xN,gg,iQ,omQ]
  unfold zW;rw[iJ ho];refine qK (qQ (qZ H2 (b:=y) .here rfl ?_));refine qxO omQ G.ok (H2.ah (P:=aP o V) e_5) λh3 H3=>?_;refine q9 ho (qJ ?_);refine qK (qQ (qZ H3 (b:=y) e_1 rfl ?_));refine qK (qQ (qZ H3 (b:=y) e_1 rfl ?_));refine qK (qQ (qD H3 (b:=y) (off:=2) e_1 rfl omQ (l:=Zn s.aa) rfl ?_));refine qK (qQ (qZ H3 (b:=y) e_1 rfl ?_));refine qd H3 e_2<|qQ (qZ H3 (b:=b) e_5 (x:=.int .i64 op) (by rw[← fL];rfl) ?_);refine gc (qy (l:=wI (⟨op,s.pc,s.aa,s.out.length⟩,s.pc)) rfl ?_);refine qr (n:=1) (l:=wI (⟨op,s.pc,s.aa,s.out.length⟩,s.pc)) (sz:=11) H3 rfl rfl rfl rfl λfm Dn tU=>?_;refine jh (tU.ah (P:=kI ov qs) e_4) (tU.sl .here) omQ omQ rfl λfM im CA=>?_;have SX:=CA.one .here;refine qK (qQ ?_);refine qw CA (b:=y) e_3 SX (by show 15<17;omega) λoE DL=>?_;have DL:HS g oE (qx y (gU sv lv fM mv o 0 err left s.pc s.aa)::_):=DL;refine qK (qQ (qZ DL (b:=y) .here rfl ?_));refine qS omQ (qK (qQ ?_));refine qw DL (b:=y) .here ⟨rfl,rfl⟩ (by show 10<17;omega) λdQ H16=>?_;refine qg (qY ⟨rfl,rfl,aC.I (s:={ { s with ay:=⟨op,s.pc,s.aa,s.out.length⟩::s.ay }with pc:=s.pc+1 }) (kind:=0) (lv:=lv) (ov:=fM) (mv:=mv) (qs:=(⟨op,s.pc,s.aa,s.out.length⟩,s.pc)::qs) (e.push λ_=>rfl) ?_⟩);show HS g dQ (qx y (gU sv lv fM mv o 0 err left (s.pc+1) s.aa)::Qw lv s.out::qF 319 11 (qs.length+1) fM (((⟨op,s.pc,s.aa,s.out.length⟩,s.pc)::qs).reverse.flatMap wI)::ke mv mt::aP o (xN V).2::R);rw[X8];exact H16.pk [0,3,0,2,1] 2
 rcases hc with c |c |c |c |c |c |c
 all_goals repeat (first |with_reducible refine qV omQ ?_ |with_reducible refine qj omQ ?_ |(with_reducible refine qG ?_;try dsimp only) |with_reducible refine qX ?_ |with_reducible refine qJ ?_)
 ·rw[iJ (.inl c)];exact tH (.inl c)
 ·rw[iJ (.inr c)];exact tH (.inr c)
 rotate_right
 ·rw[iQ omQ,iQ omQ,iQ omQ,iQ omQ];refine qW (qV9 omQ G fN h5 told hm DG (H1.sub (L':=aC y o sv mt s 0 err left::aP o V::qx b (jG x)::R) (.cons e_1 (.cons e_1 (.cons .here .refl))))) ?_;rintro _ h3 ⟨e3,H3⟩;exact qg (qY ⟨rfl,e3,H3.pk [0,0] 1⟩)
 all_goals
  obtain⟨p,r,ho⟩:∃p r,s.ay=p::r:=List.exists_cons_of_ne_nil (bG omQ);rw[ho]at e fN told hm;obtain⟨z,qs,rfl,e,hz⟩:=e.cons;have el:=e.len;rw[ho]at h5;simp at h5
 ·rw[iQ omQ,iJ (.inl c)];refine SY omQ G.ok hf e omQ (H2.sub (L':=qx y (gU sv lv ov mv o 0 err left s.pc s.aa)::Qw lv s.out::kI ov ((p,z)::qs)::ke mv mt::aP o V::qx b (jG x)::R) (.cons .here (.cons .here (.cons .here (.cons .here (.cons e_1 (.cons .here .refl))))))) λh3 H3=>?_;obtain⟨lv2,rJ,mv2,Ad,e2,H4⟩:=aC.E H3;refine qK (qQ (qZ H4 (b:=y) .here rfl (qS (by grind) ?_)));refine Lc H3 λh5 H5=>?_;rw[ho];exact qg (qY ⟨rfl,(wo (by grind)).1,H5.pk [0,0] 1⟩)
 ·rw[iQ omQ,iJ (.inr c)];refine SY omQ G.ok hf e omQ (H2.sub (L':=qx y (gU sv lv ov mv o 0 err left s.pc s.aa)::Qw lv s.out::kI ov ((p,z)::qs)::ke mv mt::aP o V::qx b (jG x)::R) (.cons .here (.cons .here (.cons .here (.cons .here (.cons e_1 (.cons .here .refl))))))) λh3 H3=>?_;obtain⟨lv2,rJ,mv2,Ad,e2,H4⟩:=aC.E H3;refine qK (qQ (qZ H4 (b:=y) .here rfl (qS (by grind) ?_)));refine Lc H3 λh5 H5=>?_;rw[ho];exact qg (qY ⟨rfl,(wo (by grind)).1,H5.pk [0,0] 1⟩)
 ·rw[iQ omQ,iQ omQ,iJ c];obtain⟨kk,iE,w,hX,uS,CD⟩:=mR (.inl c);rw[dw.num iE hX,ho];refine SY omQ G.ok hf e omQ (H2.sub (L':=qx y (gU sv lv ov mv o 0 err left s.pc s.aa)::Qw lv s.out::kI ov ((p,z)::qs)::ke mv mt::aP o V::qx b (jG x)::R) (.cons .here (.cons .here (.cons .here (.cons .here (.cons e_1 (.cons .here .refl))))))) λh3 H3=>?_;refine qwT (s:={ s with ay:=r }) iE hX ⟨uS,CD⟩ H3 λh5 H5=>?_;exact qg (qY ⟨rfl,(wo (by grind)).1,H5.pk [0,0] 1⟩)
 ·rw[iQ omQ,iQ omQ,iQ omQ,iJ c];obtain⟨kk,iE,w,hX,uS,CD⟩:=mR (.inr c);rw[dw.num iE hX,ho];have H2:=H2.sub (L':=qx y (gU sv lv ov mv o 0 err left s.pc s.aa)::Qw lv s.out::kI ov ((p,z)::qs)::ke mv mt::aP o V::qx b (jG x)::R) (.cons .here (.cons .here (.cons .here (.cons .here (.cons e_1 (.cons .here .refl))))));refine qK (qQ (qZ H2 (b:=y) .here rfl ?_));rw[show(((p,z)::qs).length:Int)=((qs.length+1:Nat):Int)from rfl];refine jK omQ ?_;rw[show((qs.length+1:Nat):Int)-((1:Nat):Int)=(qs.length:Int) by omega];refine zj (l:=wI (p,z)) (H2.sl e_2) (i:=qs.length) aA omQ qXm<|qH H2 rfl λb2 h3 H3=>qh H3 .here rfl (by simp) rfl λh4 H4=>?_;have H4:HS g h4 (qx b2 (wI (p,z))::qx y (gU sv lv ov mv o 0 err left s.pc s.aa)::Qw lv s.out::kI ov ((p,z)::qs)::ke mv mt::aP o V::qx b (jG x)::R):=H4;clear H3 H1;refine qK (qQ (qZ H4 (b:=y) e_1 rfl ?_));refine qzR omQ G.ok (H4.ah (P:=aP o V) e_5) λh5 H5=>?_;clear H4;refine qK (qQ (qZ H5 (b:=y) e_2 rfl ?_));refine jK omQ ?_;rw[show((qs.length+1:Nat):Int)-((1:Nat):Int)=(qs.length:Int) by omega];refine gM (H5.ah (P:=kI ov ((p,z)::qs)) e_4) omQ aA λrJ H6=>?_;rw[Na]at H6;have o6:=H6.one .here;refine qK (qQ ?_);refine qw H6 (b:=y) e_3 o6 (by show 15<17;omega) λh7 H7=>?_;have H7:HS g h7 (qx y (gU sv lv rJ mv o 0 err left s.pc s.aa)::kI rJ qs::aP o (zN V).2::qx b2 (wI (p,z))::Qw lv s.out::ke mv mt::qx b (jG x)::R):=H7;clear H5 H6;have H8:HS g h7 (aC y o sv mt { s with ay:=r } 0 err left::qx b2 (wI (p,z))::aP o (zN V).2::qx b (jG x)::R):=aC.I (s:={ s with ay:=r }) (lv:=lv) (ov:=rJ) (mv:=mv) e (H7.pk [0,3,0,2,1,0] 0);refine qG ?_;refine qwm (s:={ s with ay:=r }) told.1 H8 λh9 H9=>?_;refine qwT (s:=gr { s with ay:=r } p) iE hX ⟨uS,CD⟩ H9 λdK cC=>?_;exact qg (qY ⟨rfl,(Qq (by grind)).1,cC.pk [0,1] 2⟩)
end
end
section
variable {g h:AH} {L R:List SP}
theorem Ka {n:Nat} (hn:1≤n) {b off:Int} (hb:0≤b∧b<18446744073709551616) (ho:0≤off∧off≤100) :
  af n 251 [.int .u64 b,.int .i64 off] h λr h'=>r=.int .i64 (if(zF b off).2=0 then(zF b off).1 else-1)∧h'=h:=by
 refine aG rfl omQ λk hk=>?_;unfold S251;try simp only[iZ]
 by_cases h1:2147483648≤b
 ·rw[show zF b off=(0,2) by simp_all[zF]];refine jA omQ<|qG<|qf<|qC (qG ?_);refine qf<|qC (qX ?_)
  exact qY ⟨rfl,rfl⟩
 by_cases h2:2147483648≤b+off
 ·rw[show zF b off=(0,2) by simp_all[zF]];refine jz omQ<|qG<|qM<|zx omQ<|qS omQ<|jA omQ<|qB (qG ?_);refine qf<|qC (qX ?_)
  exact qY ⟨rfl,rfl⟩
 by_cases h3:b+off<6
 ·rw[show zF b off=(0,2) by simp_all[zF]];refine jz omQ<|qG<|qM<|zx omQ<|qS omQ<|jz omQ<|qB (qG ?_);refine qM<|zx omQ<|qS omQ<|jB omQ<|qB (qX ?_)
  exact qY ⟨rfl,rfl⟩
 ·rw[show zF b off=(b+off,0) by unfold zF;grind];refine jz omQ<|qG<|qM<|zx omQ<|qS omQ<|jz omQ<|qB (qG ?_);refine qM<|zx omQ<|qS omQ<|jk omQ<|qB (qJ (zx omQ ?_));refine qS omQ ?_
  exact qY ⟨rfl,rfl⟩
def Ld (op a b:Int):Int:=if op=3 then zC .u64 (a+b)else if op=4 then zC .u64 (a-b)else if op=5 then zC .u64 (a*b)else if op=6 then wa (a<b)else wa (a=b)
theorem qJ8 {n:Nat} (hn:1≤n) {op a b:Int} (ho:3≤op∧op≤7):af n 223 [.int .i64 op,.int .u64 a,.int .u64 b] h λr h'=>r=.int .u64 (Ld op a b)∧h'=h:=by
 refine b8 rfl omQ λk hk=>?_;unfold S223;try simp only[iZ]
 unfold Ld;by_cases c3:op=3
 ·rw[iJ c3];refine qG<|qj omQ<|qX ?_
  exact JX (qY ⟨rfl,rfl⟩)
 rw[iQ c3];by_cases c4:op=4
 ·rw[iJ c4];refine qG<|qV omQ<|qJ (qj omQ ?_);refine qX ?_
  exact N1 (qY ⟨rfl,rfl⟩)
 rw[iQ c4];by_cases c5:op=5
 ·rw[iJ c5];refine qG<|qV omQ<|qJ (qV omQ ?_);refine qJ (qj omQ ?_);refine qX ?_
  exact Po (qY ⟨rfl,rfl⟩)
 rw[iQ c5];by_cases c6:op=6
 ·rw[iJ c6];by_cases h:a<b
  ·refine qG<|qV omQ<|qJ (qV omQ ?_);refine qJ (qV omQ ?_);refine qJ (qj omQ ?_);refine qX (jB omQ ?_);refine qX ?_
   exact qY ⟨by simp_all[wa],rfl⟩
  ·refine qG<|qV omQ<|qJ (qV omQ ?_);refine qJ (qV omQ ?_);refine qJ (qj omQ ?_);refine qX (jk omQ ?_);refine qJ (qg ?_)
   exact qY ⟨by simp_all[wa,iQ],rfl⟩
 ·rw[iQ c6];by_cases h:a=b
  ·refine qG<|qV omQ<|qJ (qV omQ ?_);refine qJ (qV omQ ?_);refine qJ (qV omQ ?_);refine qJ (qj omQ ?_);refine qX (qj omQ ?_);refine qX ?_
   exact qY ⟨by simp_all[wa],rfl⟩
  ·refine qG<|qV omQ<|qJ (qV omQ ?_);refine qJ (qV omQ ?_);refine qJ (qV omQ ?_);refine qJ (qj omQ ?_);refine qX (qV omQ ?_);refine qJ (qg ?_)
   exact qY ⟨by simp_all[wa],rfl⟩
theorem qx5 {M:VM} {p z:Int} (hp:1≤p∧p<M.sz):zq M [(p,z)]=((vk M.most M.lv p z).1,{ M with lv:=(vk M.most M.lv p z).2 }):=by
 unfold zq;rw[iJ (by grind),vC]
 split
 ·rename_i h0;rw[h0];rfl
 grind[Om]
theorem qzf {M:VM} {p z:Int} (hp:¬(1≤p∧p<M.sz)):zq M [(p,z)]=(2,M):=by simp_all[zq,iQ]
theorem Mz {s:IM} {V:VM} {x:qe} (h:(jm s V x).1≠0):(jm s V x).2.1=s:=by
 grind[jm]
section
variable {y o:Nat} {sv:AV} {mt:List Int} {s:IM} {kind err left:Int}
theorem qkD {n:Nat} (hn:8≤n) {V:VM} {x:qe} (G:ju V) (ro:JJ s.aa) (_:x.1=8∨x.1=9∨x.1=10∨x.1=11) (ha:0≤x.2.1∧x.2.1≤7) (hb:0≤x.2.2.1∧x.2.2.1≤7) (hc:0≤x.2.2.2.1∧x.2.2.2.1≤100)
  (H:HS g h (aC y o sv mt s kind err left::aP o V::R)) :
  af n 224 [.ptr y 0,.agg (jG x)] h λr h'=>r=.int .i64 (jm s V x).1∧HS g h' (aC y o sv mt (jm s V x).2.1 kind err left::aP o (jm s V x).2.2::R):=by
 refine aG rfl omQ λk hk=>?_;unfold S224;try simp only[iZ]
 refine qH H rfl λb h1 H1=>?_;have H1:HS g h1 (qx b (jG x)::aC y o sv mt s kind err left::aP o V::R):=H1;have HB:=H1.sub (L':=aC y o sv mt s kind err left::aP o V::qx b (jG x)::R) (.cons e_1 (.cons e_1 (.cons .here .refl)));clear H;obtain⟨lv,ov,mv,qs,e,H2⟩:=aC.E HB;obtain⟨a,lS⟩:∃a:Nat,x.2.1=a:=⟨x.2.1.toNat,by omega⟩;obtain⟨bb,DM⟩:∃a:Nat,x.2.2.1=a:=⟨x.2.2.1.toNat,by omega⟩;have nU:a<8:=by omega
 have rK:bb<8:=by omega
 have RJ:=ro.at (a:Int);have RK:=ro.at (bb:Int);have rL:(jG x)[1]? =some (.int .i64 (a:Int)):=by rw[← lS];rfl
 have CY:(jG x)[2]? =some (.int .i64 (bb:Int)):=by rw[← DM];rfl
 unfold jm;rw[lS,DM];refine qQ (qZ H1 .here rfl ?_);have nO:∀{h':AH} {V':VM} {a0:Nat} {z:Int},a0<8→HS g h' (aC y o sv mt s kind err left::aP o V'::qx b (jG x)::R)→∀{K0:AH→Go.Ae.R} {Q},(∀nN,HS g nN (aC y o sv mt (b9 s (a0:Int) z) kind err left::aP o V'::R)→wp (K0 nN) Q)→
   wp (jo (.ptr y 0) λv=>qI v 2 λv=>gp v (.int .i64 (a0:Int)) 8 1 λv=>qn h' v (.int .u64 z) 1 K0) Q:=by
  intro h' V' a0 z h8 H' K0 Q w;obtain⟨lv,ov,mv,qs,e,H3⟩:=aC.E H';refine qK (qQ (yj h8 ?_));refine qw H3 .here ⟨rfl,rfl⟩ (by show 2+a0*1<17;omega) λh4 H4=>w h4 ?_;exact(qKa e ro.len h8 rfl H4).pk [0,0] 1
 by_cases c8:x.1=8
 ·rw[iJ c8];refine qj c8 (qX ?_);refine qQ (qZ H1 .here CY ?_);refine qK (qQ (yj rK (qZ H2 .here (gP rK) ?_)));refine qQ (qZ H1 .here rfl ?_);refine qW (Ka omQ RK hc) ?_;rintro _ _ ⟨rfl,rfl⟩;by_cases h0:(zF (qP s.aa (bb:Int)) x.2.2.2.1).2=0
  ·rw[iJ h0,iJ h0];have sa:6≤(zF (qP s.aa (bb:Int)) x.2.2.2.1).1:=by
    unfold zF at h0 ⊢
    grind
   generalize(zF (qP s.aa (bb:Int)) x.2.2.2.1).1=p at*;refine jk omQ (qJ ?_);refine qK (qQ (qZ H2 .here rfl ?_));refine qW (wu omQ (HB.ah e_1) G.ok) ?_;rintro _ h3 ⟨rfl,H3⟩;refine qA rfl (qA rfl (qG ?_))
   try dsimp only
   by_cases h4:(qi V p).1.2=0
   ·rw[iJ h4];refine qj h4 (qX ?_);refine qQ (qZ H3 e_2 rL ?_);refine nO nU (H3.pk [1,0,0] 0) λh5 H5=>?_;exact qg (qY ⟨by rw[h4],H5⟩)
   ·rw[iQ h4];refine qV h4 (qJ ?_);exact qg (qY ⟨rfl,H3.pk [1,0] 1⟩)
  ·rw[iQ h0,iQ h0];refine jB omQ (qX ?_);exact qY ⟨rfl,HB.pk [0,0] 1⟩
 rw[iQ c8];refine qV c8 (qJ ?_);by_cases c9:x.1=9
 ·rw[iJ c9];refine qj c9 (qX ?_);refine qQ (qZ H1 .here rL ?_);refine qK (qQ (yj nU (qZ H2 .here (gP nU) ?_)));refine qQ (qZ H1 .here rfl ?_);refine qW (Ka omQ RJ hc) ?_;rintro _ _ ⟨rfl,rfl⟩;by_cases h0:(zF (qP s.aa (a:Int)) x.2.2.2.1).2=0
  ·rw[iJ h0,iJ h0];have sa:6≤(zF (qP s.aa (a:Int)) x.2.2.2.1).1:=by
    unfold zF at h0 ⊢
    grind
   generalize(zF (qP s.aa (a:Int)) x.2.2.2.1).1=p at*;refine jk omQ (qG ?_)
   try dsimp only
   refine qM ?_
   try dsimp only
   refine qK (qQ (qZ H2 .here rfl ?_));refine qW (Uz omQ (HB.ah e_1)) ?_;rintro _ _ ⟨rfl,rfl⟩;by_cases cM:1≤p∧p<V.sz
   ·rw[iG cM,qx5 cM];refine jQ (qB (qJ ?_));obtain⟨kv,q,H3⟩:=aP.E (H2.ah e_4);refine qK (qQ (qZ H2 .here rfl ?_));refine qK (qQ (qZ H3 .here rfl ?_));refine qQ (qZ H1 .here CY ?_);refine qK (qQ (yj rK (qZ H2 .here (gP rK) ?_)));refine qW (qQE omQ (H3.ah e_2) G.ok.eR) ?_;rintro _ h4 ⟨rfl,H4⟩;have H5:HS g h4 (aC y o sv mt s kind err left::bV q V.most (vk V.most V.lv p (qP s.aa (bb:Int))).2::qx o [.int .i64 (V.sz:Int),kv,.ptr q 0,.int .i64 V.aw]::qF 129 2 V.K.length kv (V.K.flatMap jH)::qx b (jG x)::R) :=
     aC.I e (H4.pk [3,3,3,3,0,0,0,0] 0)
    refine qY ⟨rfl,?_⟩;have H6:=aP.I (o:=o) (M:={ V with lv:=(vk V.most V.lv p (qP s.aa (bb:Int))).2 }) (kv:=kv) (q:=q) (R:=aC y o sv mt s kind err left::R) (H5.sub (.cons e_2 (.cons e_2 (.cons e_1 (.cons .here (.drop .refl))))));exact H6.pk [1,0] 0
   ·rw[iV cM,qzf cM];refine jg (qB (qX ?_));exact qY ⟨rfl,HB.pk [0,0] 1⟩
  ·rw[iQ h0,iQ h0];refine jB omQ (qG ?_)
   try dsimp only
   refine qf ?_
   try dsimp only
   refine qC (qX ?_);exact qY ⟨rfl,HB.pk [0,0] 1⟩
 rw[iQ c9];refine qV c9 (qJ ?_);by_cases uZ:x.1=10
 ·rw[iJ uZ];refine qj uZ (qX ?_);refine qQ (qZ H1 .here CY ?_);refine qK (qQ (yj rK (qZ H2 .here (gP rK) ?_)));by_cases h0:2147483648≤qP s.aa (bb:Int)
  ·rw[iJ h0];refine jA omQ (qX ?_);exact qY ⟨rfl,HB.pk [0,0] 1⟩
  ·rw[iQ h0];refine jz omQ (qJ ?_);refine qK (qQ (qZ H2 .here rfl ?_));refine qQ (qZ H1 .here CY ?_);refine qK (qQ (yj rK (qZ H2 .here (gP rK) ?_)));refine zx omQ<|qW (qVt omQ (HB.ah e_1) G.ok G.wd) ?_;rintro _ h3 ⟨rfl,H3⟩;refine qA rfl (qA rfl (qG ?_))
   try dsimp only
   by_cases h4:(zf V (qP s.aa (bb:Int))).1.2=0
   ·rw[iJ h4];have Aq:=Oj (x:=qP s.aa (bb:Int)) G.wd h4;refine qj h4 (qX ?_);refine qQ (qZ H3 e_2 rL ?_);refine zt omQ<|nO nU (H3.pk [1,0,0] 0) λh5 H5=>?_;exact qg (qY ⟨by rw[h4],H5⟩)
   ·rw[iQ h4];refine qV h4 (qJ ?_);exact qg (qY ⟨rfl,H3.pk [1,0] 1⟩)
 ·rw[iQ uZ];refine qV uZ (qJ ?_);refine qQ (qZ H1 .here rL ?_);refine qK (qQ (yj nU (qZ H2 .here (gP nU) ?_)));by_cases h0:2147483648≤qP s.aa (a:Int)
  ·rw[iJ h0];refine jA omQ (qX ?_);exact qY ⟨rfl,HB.pk [0,0] 1⟩
  ·rw[iQ h0];refine jz omQ (qJ ?_);refine qK (qQ (qZ H2 .here rfl ?_));refine qQ (qZ H1 .here rL ?_);refine qK (qQ (yj nU (qZ H2 .here (gP nU) ?_)));refine zx omQ<|qW (qY8 omQ (HB.ah e_1) G.ok G.wd) ?_;rintro _ h3 ⟨rfl,H3⟩;exact qY ⟨rfl,H3.pk [1,0] 1⟩
end
end
section
variable {g h:AH} {L R:List SP}
section
variable {y o:Nat} {sv:AV} {mt:List Int} {s:IM} {kind err left:Int}
theorem qwN {mt:List Int} {s:IM} {V:VM} {x:qe} (h:3≤x.1∧x.1≤7):aZ mt s V x=⟨0,s.pc+1,false,b9 s x.2.1 (Ld x.1 (qP s.aa x.2.2.1) (qP s.aa x.2.2.2.1)),V⟩:=by
 unfold aZ Ld;grind
set_option maxHeartbeats 4000000 in
theorem qj4 {n:Nat} (hn:9≤n) {V:VM} {x:qe} {l:List qe} (P:He l mt s V x) (fN:V.lv.length=s.ay.length+1) (h5:s.ay.length≤5) (hb:x.1=14∨x.1=17→s.ay.length<5) (hf:bA V.lv<1000000)
  (H:HS g h (aC y o sv mt s 0 err left::aP o V::R)) :
  af n 180 [.ptr y 0,.agg (jG x)] h λr h'=>r=.int .i64 (aZ mt s V x).e∧
   HS g h' (aC y o sv mt (if(aZ mt s V x).e=0 then{ (aZ mt s V x).s with pc:=(aZ mt s V x).nx }else s) (if(aZ mt s V x).bf=true then 3 else 0) err left::aP o (aZ mt s V x).v::R):=by
 refine aG rfl omQ λk hk=>?_;unfold S180;try simp only[iZ]
 have G:=P.ap;have ro:=P.aa;have DG:=P.pc;have fw:=P.out;refine qH H rfl λb h1 H1=>?_;have H1:HS g h1 (qx b (jG x)::aC y o sv mt s 0 err left::aP o V::R):=H1;have HB:=H1.sub (L':=aC y o sv mt s 0 err left::aP o V::qx b (jG x)::R) (.cons e_1 (.cons e_1 (.cons .here .refl)));clear H;obtain⟨lv,ov,mv,qs,e,H2⟩:=aC.E HB;obtain⟨a,lS⟩:∃a:Nat,x.2.1=a:=⟨x.2.1.toNat,by have:=P.a;omega⟩;obtain⟨bb,DM⟩:∃a:Nat,x.2.2.1=a:=⟨x.2.2.1.toNat,by have:=P.b;omega⟩;have nU:a<8:=by have:=P.a;omega
 have rK:bb<8:=by have:=P.b;omega
 have rL:(jG x)[1]? =some (.int .i64 (a:Int)):=by rw[← lS];rfl
 have CY:(jG x)[2]? =some (.int .i64 (bb:Int)):=by rw[← DM];rfl
 refine qK (qQ (qZ H2 .here rfl (qS omQ ?_)));refine qQ (qZ H1 .here rfl ?_);have nO:∀{h':AH} {a0:Nat} {z:Int},a0<8→HS g h' (aC y o sv mt s 0 err left::aP o V::qx b (jG x)::R)→∀{K0:AH→Go.Ae.R} {Q},(∀nN,HS g nN (aC y o sv mt (b9 s (a0:Int) z) 0 err left::aP o V::qx b (jG x)::R)→wp (K0 nN) Q)→
   wp (jo (.ptr y 0) λv=>qI v 2 λv=>gp v (.int .i64 (a0:Int)) 8 1 λv=>qn h' v (.int .u64 z) 1 K0) Q:=by
  intro h' a0 z h8 H' K0 Q w;obtain⟨lv,ov,mv,qs,e,H3⟩:=aC.E H';refine qK (qQ (yj h8 ?_));refine qw H3 .here ⟨rfl,rfl⟩ (by show 2+a0*1<17;omega) λh4 H4=>w h4<|qKa e ro.len h8 rfl H4
 have fin:∀{e nx:Int} {s':IM} {V':VM} {h0:AH} {D:SM},HS g h0 (aC y o sv mt s' 0 err left::aP o V'::qx b (jG x)::R)→(e≠0→s'=s)→D=⟨e,nx,false,s',V'⟩→
   wp (jY .eql (.int .i64 e) (.int .i64 ((0:Nat):Int)) λeQ=>jw eQ (jo (.ptr y 0) λfi=>qI fi 10 λlB=>qn h0 lB (.int .i64 nx) 1 λfW=>jR [] fW λdQ=>some (.int .i64 e,dQ)) (jR [] h0 λdQ=>some (.int .i64 e,dQ)))
    λr h'=>r=.int .i64 D.e∧HS g h' (aC y o sv mt (if D.e=0 then{ D.s with pc:=D.nx }else s) (if D.bf=true then 3 else 0) err left::aP o D.v::R):=by
  rintro e nx s' V' h0 D H0 he rfl;by_cases h:e=0
  ·refine qj h (qX ?_);refine Lc H0 λh3 H3=>qg (qY ⟨rfl,?_⟩);rw[iJ h];exact H3.pk [0,0] 1
  ·refine qV h (qJ (qg (qY ⟨rfl,?_⟩)));rw[iQ h,← he h];exact H0.pk [0,0] 1
 have fL:=P.op;have hc:x.1=1∨x.1=2∨(x.1=3∨x.1=4∨x.1=5∨x.1=6∨x.1=7)∨(x.1=8∨x.1=9∨x.1=10∨x.1=11)∨x.1=12∨x.1=13∨x.1=21∨x.1=22∨(14≤x.1∧x.1≤20):=by omega
 have tI:(3≤x.1∧x.1≤7)→wp (qI (.ptr b 0) 1 λAY=>ql h1 AY λv51=>qI (.ptr b 0) 0 λrz=>ql h1 rz λv53=>qI (.ptr b 0) 2 λuM=>ql h1 uM λrA=>jo (.ptr y 0) λnz=>qI nz 2 λrB=>gp rB rA 8 1 λpz=>ql h1 pz λv59=>
   qI (.ptr b 0) 3 λCs=>ql h1 Cs λtP=>jo (.ptr y 0) λsX=>qI sX 2 λnS=>gp nS tP 8 1 λCt=>ql h1 Ct λpA=>jC (callT tab qv k) (.fn 223 [] []) [v53,v59,pA] h1 λox sQ=>jo (.ptr y 0) λuB=>qI uB 2 λoy=>gp oy v51 8 1 λv70=>
   qn sQ v70 ox 1 λIU=>ve AY none v51 h1 sQ h1.nx<| jY .eql (.int .i64 ((0:Nat):Int)) (.int .i64 ((0:Nat):Int)) λeQ=>jw eQ (jo (.ptr y 0) λfi=>qI fi 10 λlB=>qn IU lB (.int .i64 (s.pc+((1:Nat):Int))) 1 λfW=>jR [] fW λdQ=>some (.int .i64 ((0:Nat):Int),dQ))
    (jR [] IU λdQ=>some (.int .i64 ((0:Nat):Int),dQ))) λr h'=>r=.int .i64 (aZ mt s V x).e∧
   HS g h' (aC y o sv mt (if(aZ mt s V x).e=0 then{ (aZ mt s V x).s with pc:=(aZ mt s V x).nx }else s) (if(aZ mt s V x).bf=true then 3 else 0) err left::aP o (aZ mt s V x).v::R):=by
  intro c;obtain⟨cc,Hv⟩:∃a:Nat,x.2.2.2.1=a:=⟨x.2.2.2.1.toNat,by have:=P.c;omega⟩;have hc8:cc<8:=by have:=P.c7 c;omega
  have ldC:(jG x)[3]? =some (.int .i64 (cc:Int)):=by rw[← Hv];rfl
  refine qQ (qZ H1 .here rL ?_);refine qQ (qZ H1 .here rfl ?_);refine qQ (qZ H1 .here CY ?_);refine qK (qQ (yj rK (qZ H2 .here (gP rK) ?_)));refine qQ (qZ H1 .here ldC ?_);refine qK (qQ (yj hc8 (qZ H2 .here (gP hc8) ?_)));refine qW (qJ8 omQ c) ?_;rintro _ _ ⟨rfl,rfl⟩;refine nO nU HB λh3 H3=>?_;refine qu H1 .here rL H1 .here rL (HS.lt H1 .here)<|fin H3 (λh=>absurd rfl h) ?_;rw[qwN c,lS,DM,Hv];rfl
 have mem:(x.1=8∨x.1=9∨x.1=10∨x.1=11)→wp (q8 h1 (.ptr b 0) 5 λv76=>jC (callT tab qv k) (.fn 224 [] []) [.ptr y 0,v76] h1 λpw h78=>jY .eql pw (.int .i64 ((0:Nat):Int)) λeQ=>
   jw eQ (jo (.ptr y 0) λfi=>qI fi 10 λlB=>qn h78 lB (.int .i64 (s.pc+((1:Nat):Int))) 1 λfW=>jR [] fW λdQ=>some (pw,dQ)) (jR [] h78 λdQ=>some (pw,dQ))) λr h'=>r=.int .i64 (aZ mt s V x).e∧
   HS g h' (aC y o sv mt (if(aZ mt s V x).e=0 then{ (aZ mt s V x).s with pc:=(aZ mt s V x).nx }else s) (if(aZ mt s V x).bf=true then 3 else 0) err left::aP o (aZ mt s V x).v::R):=by
  intro c;refine qD H1 .here rfl omQ rfl<|qW (qkD omQ G ro c P.a P.b P.c HB) ?_;rintro _ h3 ⟨rfl,H3⟩;refine fin H3 Mz ?_;unfold aZ;rw[iQ omQ,iQ omQ,iQ omQ,iQ omQ,iQ omQ,iQ omQ,iQ omQ,iQ omQ,iQ omQ,iQ omQ,iQ omQ,iJ c];rfl
 rcases hc with c |c |(c |c |c |c |c) |(c |c |c |c) |c |c |c |c |c
 all_goals repeat (first |with_reducible refine qV omQ ?_ |with_reducible refine qj omQ ?_ |(with_reducible refine qG ?_;try dsimp only) |with_reducible refine qX ?_ |with_reducible refine qJ ?_)
 ·refine qQ (qZ H1 .here rL ?_);refine qQ (qZ H1 .here rfl ?_);refine nO nU HB λh3 H3=>?_;refine fin H3 (λh=>absurd rfl h) ?_;unfold aZ;rw[iJ c,lS];rfl
 ·refine qQ (qZ H1 .here rL ?_);refine qQ (qZ H1 .here CY ?_);refine qK (qQ (yj rK (qZ H2 .here (gP rK) ?_)));refine nO nU HB λh3 H3=>?_;refine fin H3 (λh=>absurd rfl h) ?_;unfold aZ;rw[iQ omQ,iJ c,lS,DM];rfl
 ·exact tI omQ
 ·exact tI omQ
 ·exact tI omQ
 ·exact tI omQ
 ·exact tI omQ
 ·exact mem omQ
 ·exact mem omQ
 ·exact mem omQ
 ·exact mem omQ
 ·refine qQ (qZ H1 .here rfl ?_);refine fin HB (λh=>absurd rfl h) ?_;unfold aZ;rw[iQ omQ,iQ omQ,iQ omQ,iQ omQ,iQ omQ,iQ omQ,iQ omQ,iJ c];rfl
 ·refine qQ (qZ H1 .here rL ?_);refine qK (qQ (yj nU (qZ H2 .here (gP nU) ?_)));have ed:aZ mt s V x=⟨0,if qP s.aa (a:Int)=0 then x.2.2.2.1 else s.pc+1,false,s,V⟩:=by
   unfold aZ;rw[iQ omQ,iQ omQ,iQ omQ,iQ omQ,iQ omQ,iQ omQ,iQ omQ,iQ omQ,iJ c,lS]
  by_cases hz:qP s.aa (a:Int)=0
  ·refine qj hz (qX ?_);refine qQ (qZ H1 .here rfl ?_);refine fin HB (λh=>absurd rfl h) ?_;rw[ed,iJ hz];rfl
  ·refine qV hz (qJ ?_);refine fin HB (λh=>absurd rfl h) ?_;rw[ed,iQ hz];rfl
 ·refine qK (qQ (qZ H2 .here rfl ?_));refine qd H2 e_1 ?_;by_cases dQ:16≤s.out.length
  ·refine jA omQ (qX (qg ?_));have ed:aZ mt s V x=⟨5,s.pc+1,false,s,V⟩:=by
    unfold aZ;rw[iQ omQ,iQ omQ,iQ omQ,iQ omQ,iQ omQ,iQ omQ,iQ omQ,iQ omQ,iQ omQ,iJ c,iJ dQ]
   rw[ed];exact qY ⟨rfl,HB.pk [0,0] 1⟩
  ·refine jz omQ (qJ ?_);refine qK (qQ (qZ H2 .here rfl ?_));refine qQ (qZ H1 .here rL ?_);refine qK (qQ (yj nU (qZ H2 .here (gP nU) ?_)));refine qy rfl<|qr H2 rfl rfl rfl rfl λv3 h3 H3=>?_;refine jh (H3.ah e_2) (H3.sl .here) omQ omQ rfl λv4 h4 H4=>?_;have o4:=H4.one .here;refine qK (qQ ?_);refine qw H4 e_2 o4 (by show 12<17;omega) λh5 H5=>?_;have H5:HS g h5 (qx y (gU sv v4 ov mv o 0 err left s.pc s.aa)::qF 236 2 (s.out.length+1) v4 (s.out.flatMap jH++jH (1,qP s.aa (a:Int)))::qF 236 2 1 v3 (jH (1,qP s.aa (a:Int)))::kI ov qs::ke mv mt::aP o V::qx b (jG x)::R):=H5
   have H6:HS g h5 (aC y o sv mt { s with out:=s.out++[(1,qP s.aa (a:Int))] } 0 err left::aP o V::qx b (jG x)::R):=aC.I (ov:=ov) (mv:=mv) e (by
    show HS g h5 (qx y (gU sv v4 ov mv o 0 err left s.pc s.aa)::qF 236 2 (s.out++[(1,qP s.aa (a:Int))]).length v4 ((s.out++[(1,qP s.aa (a:Int))]).flatMap jH)::kI ov qs::ke mv mt::aP o V::qx b (jG x)::R);rw[List.length_append,List.flatMap_append,List.flatMap_cons,List.flatMap_nil,List.append_nil]
    exact H5.pk [0,0] 1)
   refine fin H6 (λh=>absurd rfl h) ?_;unfold aZ;rw[iQ omQ,iQ omQ,iQ omQ,iQ omQ,iQ omQ,iQ omQ,iQ omQ,iQ omQ,iQ omQ,iJ c,iQ dQ,lS];rfl
 ·refine qg ?_;have ed:aZ mt s V x=⟨13,s.pc+1,false,s,V⟩:=by
   unfold aZ;rw[iQ omQ,iQ omQ,iQ omQ,iQ omQ,iQ omQ,iQ omQ,iQ omQ,iQ omQ,iQ omQ,iQ omQ,iJ c]
  rw[ed];exact qY ⟨rfl,HB.pk [0,0] 1⟩
 ·have ed:aZ mt s V x=yL mt s V x.1:=by
   unfold aZ;rw[iQ omQ,iQ omQ,iQ omQ,iQ omQ,iQ omQ,iQ omQ,iQ omQ,iQ omQ,iQ omQ,iQ omQ,iQ omQ,iQ omQ]
  rw[ed];refine qD H1 .here rfl omQ rfl<|qW (qq7 omQ P fN h5 hb hf c HB) ?_;rintro _ h3 ⟨rfl,e3,H3⟩;refine qg (qY ⟨by rw[e3],?_⟩);rw[iJ e3];exact H3.pk [0,0] 1
end
theorem qwC {mt:List Int} {s:IM}:∀{r:List cy} {V:VM},V.lv.length=r.length+1→r.length≤5→(xw mt r s V).e=0:=by
 intro r
 induction r with
 |nil=>intro V _ _;rfl
 |cons p r ih=>
  intro V h1 h2;have hd:=Qq (V:=V) (by grind);simp at h2;have hl:(zN V).2.lv.length=r.length+1:=by grind
  unfold xw;rw[iJ hd.1]
  split
  ·have ho:(xN (zN V).2).1=0:=by
    unfold xN gg;grind
   simp_all[zW]
  grind
theorem qyS {mt:List Int} {s:IM} {V:VM} {x:qe} {l:List qe} (P:He l mt s V x) (fN:V.lv.length=s.ay.length+1) (h5:s.ay.length≤5) (hb:x.1=14∨x.1=17→s.ay.length<5):(yL mt s V x.1).e=0:=by
 have bG:(x.1=15∨x.1=19∨x.1=18∨x.1=16)→2≤V.lv.length:=by intro c;have:=P.ne c;have:s.ay.length≠0:=λh=>this (iA h);omega
 unfold yL;by_cases c1:x.1=14∨x.1=17
 ·rw[iJ c1];simp_all[xN,gg,iQ,omQ,zW]
 rw[iQ c1];by_cases c2:x.1=15∨x.1=19
 ·rw[iJ c2];exact(wo (bG omQ)).1
 rw[iQ c2];by_cases c3:x.1=18
 ·simp_all[wo,omQ]
 rw[iQ c3];by_cases c4:x.1=16
 all_goals simp_all[Qq,omQ,qwC]
theorem qyh {mt:List Int} {s:IM} {V:VM} {x:qe} (ht:(yL mt s V x.1).e=0) (h:(aZ mt s V x).e≠0):(aZ mt s V x).s=s:=by
 unfold aZ at h ⊢;by_cases c1:x.1=1
 ·grind
 rw[iQ c1]at h ⊢;by_cases c2:x.1=2
 ·grind
 rw[iQ c2]at h ⊢;by_cases c3:x.1=3
 ·grind
 rw[iQ c3]at h ⊢;by_cases c4:x.1=4
 ·grind
 rw[iQ c4]at h ⊢;by_cases c5:x.1=5
 ·grind
 rw[iQ c5]at h ⊢;by_cases c6:x.1=6
 ·grind
 rw[iQ c6]at h ⊢;by_cases c7:x.1=7
 ·grind
 rw[iQ c7]at h ⊢;by_cases iw:x.1=12
 ·grind
 rw[iQ iw]at h ⊢;by_cases lD:x.1=13
 ·grind
 rw[iQ lD]at h ⊢;by_cases iM:x.1=21
 ·grind
 rw[iQ iM]at h ⊢;by_cases lN:x.1=22
 ·grind
 rw[iQ lN]at h ⊢;by_cases ct:x.1=8∨x.1=9∨x.1=10∨x.1=11
 all_goals simp_all[Mz]
section
variable {y o:Nat} {sv:AV} {s:IM} {kind:Int}
theorem Zl {K0:AH→Go.Ae.R} {Q:AV→AH→Prop} {mt:List Int} {k1 k2 err left:Int} (H:HS g h (aC y o sv mt s k1 err left::R)) (w:∀h',HS g h' (aC y o sv mt s k2 err left::R)→wp (K0 h') Q) :
  wp (jo (.ptr y 0) λv=>qI v 13 λv=>qn h v (.int .i64 k2) 1 K0) Q:=by
 obtain⟨lv,ov,mv,qs,e,H⟩:=aC.E H;refine qK (qQ ?_);refine qw H .here ⟨rfl,rfl⟩ (by show 13<17;omega) λh1 H1=>?_;exact w _ (aC.I (ov:=ov) (mv:=mv) e H1)
theorem Hw {K0:AH→Go.Ae.R} {Q:AV→AH→Prop} {mt:List Int} {e1 e2 left:Int} (H:HS g h (aC y o sv mt s kind e1 left::R)) (w:∀h',HS g h' (aC y o sv mt s kind e2 left::R)→wp (K0 h') Q) :
  wp (jo (.ptr y 0) λv=>qI v 14 λv=>qn h v (.int .i64 e2) 1 K0) Q:=by
 obtain⟨lv,ov,mv,qs,e,H⟩:=aC.E H;refine qK (qQ ?_);refine qw H .here ⟨rfl,rfl⟩ (by show 14<17;omega) λh1 H1=>?_;exact w _ (aC.I (ov:=ov) (mv:=mv) e H1)
theorem qwE {n:Nat} (hn:10≤n) {l:List qe} (F:Fit l) (Q:Quiet l) {left:Nat} {V:VM} (G:GI l s V) (hf:bA V.lv+left<9000) (hl:left≤1000) (S:Rd g R 5 l.length sv (l.flatMap jG)) (Le:kind=0∨kind=1)
  (H:HS g h (aC y o sv (qb l) s kind 0 left::aP o V::R)) :
  af n 126 [.ptr y 0] h λr h'=>r=.int .i64 (zw l (qb l) left s V).kind∧
   HS g h' (aC y o sv (qb l) (zw l (qb l) left s V).s (zw l (qb l) left s V).kind (zw l (qb l) left s V).err ((zw l (qb l) left s V).left:Int)::aP o (zw l (qb l) left s V).v::R):=by
 refine ag rfl omQ λk hk=>?_;unfold S126;try simp only[iZ]
 generalize dP:zw l (qb l) left s V=RM;refine jq [] (λst h'=>st=(.ptr y 0,())∧HS g h' (aC y o sv (qb l) RM.s RM.kind RM.err (RM.left:Int)::aP o RM.v::R)) ?_ ?_
 rotate_left
 ·rintro st h1 ⟨rfl,H1⟩;obtain⟨lv,ov,mv,qs,e,H2⟩:=aC.E H1;refine qK (qQ (qZ H2 .here rfl ?_));exact qg (qY ⟨rfl,H1⟩)
 intro j hj
 refine jF (λm st h'=>st=(.ptr y 0,())∧((∃(s':IM) (V':VM) (eE:Nat) (tJ:Int),m=eE+1∧eE≤1000∧GI l s' V'∧bA V'.lv+eE<9000∧zw l (qb l) eE s' V'=RM∧(tJ=0∨tJ=1)∧HS g h' (aC y o sv (qb l) s' tJ 0 eE::aP o V'::R))∨
   (m=0∧RM.kind≠0∧RM.kind≠1∧HS g h' (aC y o sv (qb l) RM.s RM.kind RM.err (RM.left:Int)::aP o RM.v::R))))
  ?_ (by grind) ⟨rfl,.inl ⟨s,V,left,kind,rfl,hl,G,hf,dP,Le,H⟩⟩
 clear H G hf dP hl Le;rintro m ih st h2 aY ⟨rfl,⟨s,V,left,kind,rfl,hl,G,hf,dP,Le,H⟩ |⟨rfl,RO,iE,H⟩⟩
 rotate_left
 ·obtain⟨lv,ov,mv,qs,e,H1⟩:=aC.E H;refine qK (qQ (qZ H1 .here rfl ?_));refine qV RO (qG ?_)
  try dsimp only
  refine qM ?_
  try dsimp only
  refine qK (qQ (qZ H1 .here rfl ?_));refine qV iE (qB (qJ ?_));exact hj _ _ ⟨rfl,H⟩
 have hlen:=F.le;obtain⟨lv,ov,mv,qs,e,H1⟩:=aC.E H;refine qK (qQ (qZ H1 .here rfl ?_));refine gc (gS (λst h'=>∃(u:Bool) (r:AV),st=(r,.bool u,.ptr y 0,())∧h'=h2∧(u=false→r=.bool true)) ?_ ?_)
 ·intro j2 nQ;rcases Le with rfl |rfl
  ·rw[iG (show(0:Int)=((0:Nat):Int)from rfl)];refine qf<|nQ _ _ ⟨true,_,rfl,rfl,nofun⟩
  ·rw[iV (show¬(1:Int)=((0:Nat):Int) by simp)];refine qM (qK (qQ (qZ H1 .here rfl ?_)));refine qj rfl<|nQ _ _ ⟨false,_,rfl,rfl,λ_=>rfl⟩
 rintro st h2 ⟨u,r,rfl,rfl,hu⟩;have hp:∀{K:AV→Go.Ae.R} {Q},wp (K (.bool true)) Q→wp (zo (.bool u) (.bool true) r K) Q:=by
  intro K Q w;cases u
  ·rw[hu rfl];exact w
  ·exact w
 refine hp (qX ?_);clear H1 e;refine Zl H λh3 H3=>?_;clear H;obtain⟨i,hi,p0⟩:=G.pc;obtain⟨lv,ov,mv,qs,e,H1⟩:=aC.E H3;refine qK (qQ (qZ H1 .here rfl ?_));refine qK (qQ (qQ (qZ H1 .here rfl ?_)));refine zH (S.sl H1.drop.drop.drop.drop.drop) ?_;by_cases h0:s.pc=l.length
 ·refine jA omQ (qX ?_);rw[qQc h0]at dP;subst dP;refine Zl H3 λh4 H4=>hj _ _ ⟨rfl,H4⟩
 refine jz omQ (qJ ?_);refine qK (qQ (qZ H1 .here rfl ?_));cases left with
 |zero=>refine qj rfl (qX ?_);rw[wc,iQ h0]at dP;subst dP;exact Zl H3 λh4 H4=>Hw H4 λh5 H5=>hj _ _ ⟨rfl,H5⟩
 |succ left=>
  refine qV omQ (qJ ?_);rw[kw,iQ h0]at dP;have ae:i<l.length:=by omega
  have St:=YY F G hi ae omQ (Q.at ae).2 (Q.at ae).1;have P:=qj5 F G hi ae (Q.at ae).1;have ea:=G1 G;rw[hi,Int.toNat_natCast]at ea;have h5:=JP F i omQ;have hb:(qU l i).1=14∨(qU l i).1=17→s.ay.length<5:=λc=>by
   have:=(zi (F.ok i ae)).2.2 (by simp_all[ze,iG]);omega
  have SZ:=qyh (qyS P G.lv omQ hb);refine qK (qQ (qQ (qZ H1 .here rfl ?_)));refine qK (qQ (qZ H1 .here rfl ?_));rw[hi];refine zj (S.sl H1.drop.drop.drop.drop.drop) ae omQ (QG ae) ?_;clear H1 e;rw[← xq ae];refine qW (qj4 omQ P G.lv omQ hb omQ H3) ?_;rintro _ h5 ⟨rfl,H5⟩;rw[hi]at dP;generalize aZ (qb l) s V (qU l i)=D at*;by_cases h1:D.e=0
  ·rw[iJ h1]at dP H5;refine qV omQ (qJ ?_);refine q9 h1 (qJ ?_);obtain⟨lv,ov,mv,qs,e,H6⟩:=aC.E H5;refine qK (qQ (qZ H6 .here rfl (jK omQ ?_)));rw[show((left+1:Nat):Int)-((1:Nat):Int)=(left:Int) by omega];refine qK (qQ ?_);refine qw H6 .here ⟨rfl,rfl⟩ (by show 11<17;omega) λh7 H7=>?_;have H8:HS g h7 (aC y o sv (qb l) { D.s with pc:=D.nx } (if D.bf=true then 3 else 0) 0 left::aP o D.v::R):=aC.I (ov:=ov) (mv:=mv) e H7;cases h2:D.bf with
   |true=>rw[h2,iJ rfl]at dP H8;subst dP;exact aY 0 _ _ omQ ⟨rfl,.inr ⟨rfl,by simp,by simp,H8⟩⟩
   |false=>rw[h2,iQ aA]at dP H8;have:=St.fr;exact aY (left+1) _ _ omQ ⟨rfl,.inl ⟨_,D.v,left,0,rfl,by omega,St.next h1 h2,by omega,dP,.inl rfl,H8⟩⟩
  ·rw[iQ h1]at dP H5;have hb:D.bf=false:=by
    cases hb:D.bf with
    |false=>rfl
    |true=>exact absurd (St.bl hb) h1
   rw[hb,iQ aA]at H5;rw[SZ h1]at dP;by_cases bY:D.e=11
   ·rw[iJ bY]at dP;subst dP;refine qj bY (qX ?_);exact Zl H5 λh7 H7=>hj _ _ ⟨rfl,H7⟩
   ·rw[iQ bY]at dP;subst dP;refine qV bY (qJ ?_);refine jJ h1 (qX ?_);exact Zl H5 λh7 H7=>Hw H7 λh8 H8=>hj _ _ ⟨rfl,H8⟩
end
theorem qj8 {n:Nat} (hn:4≤n) {l:List qe} {sv:AV} {o:Nat} {fuel:Int} (F:Fit l) (Q:Quiet l) (H:HS g h R) (S:Rd g R 5 l.length sv (l.flatMap jG)) :
  af n 44 [.agg [sv],.ptr o 0,.int .i64 fuel] h λr h'=>∃y,r=.ptr y 0∧HS g h' (aC y o sv (qb l) XQ 0 0 (wz fuel:Nat)::R):=by
 refine b8 (S:=S44) rfl omQ λk hk=>?_;unfold S44;try simp only[iZ]
 have o1:=wq (S.sl H);refine qH H (ya o1) λb h1 H1=>?_;refine qD H1 (b:=b) (off:=0) .here rfl omQ (l:=[sv]) rfl<|zu (zS ?_);rw[show min (max fuel ((0:Nat):Int)) ((400:Nat):Int)=((wz fuel:Nat):Int) by grind[wz]];refine qy (l:=gU sv .ad .ad .ad o 0 0 (wz fuel:Nat) 0 [0,0,0,0,0,0,0,0]) rfl<|qH H1 (by unfold gU;simp only[jV,List.all_cons,o1.2];rfl) λy h2 H2=>?_;refine qD H2 (b:=b) (off:=0) e_1 rfl omQ (l:=[sv]) rfl<|qW (qWm omQ F Q H2 S.more.more) ?_;rintro _ h3 ⟨rv,mv,rfl,H3⟩;have om:=H3.one .here;refine qA rfl (qA rfl (qA rfl (qA rfl ?_)));refine qK (qQ ?_);refine qw H3 (b:=y) e_1 om (by show 16<17;omega) λh4 H4=>?_;refine qG ?_
 try dsimp only
 refine q9 rfl (qJ (qg (qY ⟨y,rfl,?_⟩)));have H5:=(H4.ad (e:=319) (sz:=11)).ad (e:=236) (sz:=2);have hm:=Mn l;have H6:HS g h4 (qF 236 2 0 .ad []::qF 319 11 0 .ad []::qx y (gU sv .ad .ad mv o 0 0 (wz fuel:Nat) 0 [0,0,0,0,0,0,0,0])::ke mv (qb l)::qx b [sv]::R):=by unfold ke;rw[hm];exact H5
 exact aC.I (s:=XQ) (lv:=.ad) (ov:=.ad) (mv:=mv) (qs:=[]) ⟨rfl,λq hq=>by grind⟩ (H6.pk [2,0,0,0] 1)
end
section
variable {g h:AH} {L R R':List SP}
def OZ (f e b:Int):Prop:=(f=5∧e=0)∨(f=4∧b= -1)
def Xx (c:zG):Prop:=(c.p.fin=0∧(c.state=7→OZ c.bE c.fJ c.pF))∨(c.p.fin=2∧c.p.err=0∧c.state=6)∨OZ c.p.fin c.p.err c.p.bM
section
variable {c:zG}
theorem qXP (hp:c.p.fin=0) (h:OZ c.bE c.fJ c.pF):Xx (yv c):=by
 unfold yv
 split
 ·exact .inr (.inr h)
 ·exact .inl ⟨hp,λ_=>h⟩
theorem Ok {f e y:Int} (hp:c.p.fin=0) (h:OZ f e y):Xx (gK c f e y):=qXP hp h
theorem qzT {l:dI} (hp:c.p.fin=0) (h7:c.state≠7):Xx (yo c l):=by
 have hf:(jX c.p l).2.fin=0:=Ga.1.trans hp;unfold yo
 split
 ·exact .inl ⟨hf,λh=>absurd h h7⟩
 ·exact Ok hf (.inl ⟨rfl,rfl⟩)
theorem qzi (hp:c.p.fin=0) (h6:c.state=6):Xx (yU c):=by
 unfold yU
 split
 ·exact .inr (.inl ⟨rfl,rfl,h6⟩)
 ·exact .inl ⟨hp,λh=>by omega⟩
theorem qKH (hp:c.p.fin=0) (h7:c.state≠7):Xx (yw c):=by
 unfold yw
 split
 ·exact qzi hp rfl
 ·exact .inl ⟨hp,λh=>absurd h h7⟩
theorem OO (hp:c.p.fin=0):Xx (vn c):=qKH hp (by simp)
theorem qzL (hp:c.p.fin=0):Xx (kt c):=.inl ⟨hp,λh=>by
 grind[kt]⟩
theorem qQf:∀(n:Nat) {c:zG},c.p.fin=0→c.state≠7→Xx (xo c n):=by
 intro n
 induction n with
 |zero=>intro c hp _;exact OO hp
 |succ n ih=>
  intro c hp h7;unfold xo
  split
  ·split
   ·exact .inl ⟨hp,λh=>absurd h h7⟩
   ·split
    ·exact Ok hp (.inl ⟨rfl,rfl⟩)
    grind
  grind[OO]
theorem qWR {a:cT} (E:Xx c) (h0:0≤c.state∧c.state≤7) (ha:a.err=0):Xx (zD c a):=by
 by_cases hp:c.p.fin=0
 rotate_left
 ·simp_all[qo,iG,zD]
 have h7:c.state=7→OZ c.bE c.fJ c.pF:=by
  rcases E with E |E |E
  all_goals grind[OZ]
 rw[Vr hp ha]
 repeat' split
 ·unfold gW
  repeat' split
  ·exact qzT hp omQ
  ·exact .inl ⟨hp,λh=>absurd h (by simp)⟩
  ·grind[qzL]
  ·exact .inl ⟨hp,λh=>absurd h (by simp)⟩
 ·unfold vo
  repeat' split
  ·exact Ok hp (.inr ⟨rfl,rfl⟩)
  ·exact .inl ⟨hp,λh=>absurd h (by simp)⟩
  ·exact .inl ⟨hp,λh=>absurd h (by simp)⟩
  ·grind[OO]
  ·exact qQf _ hp (by simp)
 ·unfold yR
  repeat' split
  ·exact qzT hp omQ
  ·exact Ok hp (.inl ⟨rfl,rfl⟩)
  ·exact qQf _ hp (by simp)
 ·grind[qKH]
 ·grind[qzi]
 ·exact qXP hp (h7 omQ)
theorem qw1 {me sp st:Int} {r:List xA} {cs:List Cl} {a b:Int}:Xx (Kt me sp st r cs a b):=qzL rfl
end
def mS (S:SP) (sz n:Nat) (v:AV) (xs:List AV):Prop:=∀(D:Nat→Prop) (h:AH),S.p D h→Sl (λ_=>True) h sz n v xs
theorem mS.rd {S:SP} {sz n:Nat} {v:AV} {xs:List AV} (r:mS S sz n v xs) (s:aR R S R'):Rd g R sz n v xs:=λh H=>by
 obtain⟨D,p⟩:=H.p s;exact r D h p
def bB (b:Nat) (r:List xA):SP:=.ex λlv=>.all [qx b [.int .i64 16,lv],qF 122 2 r.length lv (r.flatMap xK)]
structure Oy where
  sw:Bool
  bv:AV
  xv:AV
  fv:AV
  ev:AV
  cv:AV
  vb:Nat
  rb:Nat
  kv:Int
  nd:Int
  ph:Int
  en:Int
  ee:Int
  eb:Int
  ou:Int
  er:Int
  bM:Int
  sp:Int
def xV (x:jd) (q:Oy):List AV:=[.int .i64 x.me,.int .i64 q.sp,.int .i64 q.en,.int .i64 q.ee,.int .i64 q.eb,.int .i64 x.set.words,.int .i64 x.set.aj,.int .i64 x.set.wide,.int .i64 x.set.aF,.int .u64 x.set.start,.int .i64 x.set.spins,.int .i64 x.set.writes,.int .i64 x.set.fuel,
 .bool q.sw,q.bv,.int .i64 q.kv,.ptr q.vb 0,q.xv,.ptr q.rb 0,.int .i64 q.ph,q.fv,q.ev,q.cv,.int .u64 x.cI,.int .u64 x.ak,.bool x.begun,.bool x.aH,.int .i64 q.nd,.int .i64 q.ou,.int .i64 q.er,.int .i64 q.bM]
def DN (st:Int):Int:=if st≤4 then st else st-1
structure wg (x:jd) (q:Oy):Prop where
  en:q.en=vi x∧q.ee=Jd x∧q.eb=YE x
  ph:q.ph=DN x.state
  nd:3≤x.state→x.state≤4→q.nd=x.v.aw
  ou:x.state=7→q.ou=x.fin∧q.er=x.err∧q.bM=x.bM
  fa:x.state=3→x.f.at_=x.v.aw∧x.f.p.fin=0
  ef:x.state=4∨x.state=5→x.e.p.fin=0∧(x.e.bH=false→x.e.at_=0)
  cf:x.state=6→∀c,x.c=some c→c.p.fin=0
  fin:7≤x.state→x.fin=2∨x.fin=3∨x.fin=4∨x.fin=5
  bl:x.state≤5→(x.aH=true↔x.state=5)
  be:x.state=2→x.cI=x.ak
  bg:x.state≤1→x.begun=false
def bc (S:SP) (vb:Nat) (j:Kv) (xv bv:AV) (sw:Bool) (kv:Int):SP:=match j with
 | .prog p=>.ex λz:Nat×AV×Int=>.all [.di (xv=.ptr z.1 0∧sw=false∧mS S 5 p.l.length z.2.1 (p.l.flatMap jG)∧(p.fin=0→z.2.2=0∨z.2.2=1)∧Qe p.s),aC z.1 vb z.2.1 (qb p.l) p.s z.2.2 p.err p.left]
 | .aV bs k=>.all [.di (sw=true∧kv=(k:Int)),qF 3 1 bs.length bv (bs.map (.int .i64))]
def aU (st:Int) (f:kT) (e:wQ) (c:Option zG) (fv ev cv:AV):SP:=match c with
 |some c=>.ex λb:Nat=>.all [.di (cv=.ptr b 0∧Xx c),bN b c]
 |none=>
  if st=3 then .ex λb:Nat=>.all [.di (cv=.au∧fv=.ptr b 0),bJ b f]
  else if st=4∨st=5 then .ex λb:Nat=>.all [.di (cv=.au∧ev=.ptr b 0),bR b e]
  else .di (cv=.au)
abbrev wU (S:SP) (a:Nat) (x:jd) (q:Oy) (R:List SP):List SP:=qx a (xV x q)::bc S q.vb x.aW q.xv q.bv q.sw q.kv::aP q.vb x.v::bB q.rb x.r::aU x.state x.f x.e x.c q.fv q.ev q.cv::R
def aO (S:SP) (a:Nat) (x:jd):SP:=.ex λq:Oy=>.all (.di (wg x q)::wU S a x q [])
section
variable {n a b:Nat} {x:jd} {q:Oy} {S:SP} {r:List xA}
theorem aO.E (H:HS g h (aO S a x::R)):∃q,wg x q∧HS g h (wU S a x q R):=by obtain⟨q,H⟩:=H.dj;obtain⟨r,H⟩:=H.bS.cX;exact⟨q,r,H⟩
theorem aO.I (r:wg x q) (H:HS g h (wU S a x q R)):HS g h (aO S a x::R):=HS.dE q (HS.allI (HS.dF r H))
theorem bB.E (H:HS g h (bB b r::R)):∃lv,HS g h (qx b [.int .i64 16,lv]::qF 122 2 r.length lv (r.flatMap xK)::R):=by obtain⟨lv,H⟩:=H.dj;exact⟨lv,H.bS⟩
theorem bB.I {lv:AV} (H:HS g h (qx b [.int .i64 16,lv]::qF 122 2 r.length lv (r.flatMap xK)::R)):HS g h (bB b r::R):=HS.dE lv H.allI
section
variable {vb k:Nat} {p:u5} {xv bv:AV} {sw:Bool} {kv:Int} {bs:List Int}
theorem bc.P (H:HS g h (bc S vb (.prog p) xv bv sw kv::R)):∃y sv kd,(xv=.ptr y 0∧sw=false∧mS S 5 p.l.length sv (p.l.flatMap jG)∧(p.fin=0→kd=0∨kd=1)∧Qe p.s)∧HS g h (aC y vb sv (qb p.l) p.s kd p.err p.left::R):=by obtain⟨z,H⟩:=(show HS g h (.ex (λz:Nat×AV×Int=>SP.all [.di (xv=.ptr z.1 0∧sw=false∧mS S 5 p.l.length z.2.1 (p.l.flatMap jG)∧(p.fin=0→z.2.2=0∨z.2.2=1)∧Qe p.s),aC z.1 vb z.2.1 (qb p.l) p.s z.2.2 p.err p.left])::R)from H).dj;exact⟨z.1,z.2.1,z.2.2,H.bS.cX⟩
theorem bc.PI {y:Nat} {sv:AV} {kd:Int} (e:xv=.ptr y 0∧sw=false∧mS S 5 p.l.length sv (p.l.flatMap jG)∧(p.fin=0→kd=0∨kd=1)∧Qe p.s) (H:HS g h (aC y vb sv (qb p.l) p.s kd p.err p.left::R)):HS g h (bc S vb (.prog p) xv bv sw kv::R) :=
 show HS g h (.ex (λz:Nat×AV×Int=>SP.all [.di (xv=.ptr z.1 0∧sw=false∧mS S 5 p.l.length z.2.1 (p.l.flatMap jG)∧(p.fin=0→z.2.2=0∨z.2.2=1)∧Qe p.s),aC z.1 vb z.2.1 (qb p.l) p.s z.2.2 p.err p.left])::R)from
  HS.dE (y,sv,kd) (HS.allI (HS.dF e H))
theorem bc.W (H:HS g h (bc S vb (.aV bs k) xv bv sw kv::R)):(sw=true∧kv=(k:Int))∧HS g h (qF 3 1 bs.length bv (bs.map (.int .i64))::R) :=
 ((show HS g h (SP.all [.di (sw=true∧kv=(k:Int)),qF 3 1 bs.length bv (bs.map (.int .i64))]::R)from H).bS).cX
theorem bc.SI (e:sw=true∧kv=(k:Int)) (H:HS g h (qF 3 1 bs.length bv (bs.map (.int .i64))::R)):HS g h (bc S vb (.aV bs k) xv bv sw kv::R) :=
 show HS g h (SP.all [.di (sw=true∧kv=(k:Int)),qF 3 1 bs.length bv (bs.map (.int .i64))]::R)from HS.allI (HS.dF e H)
end
section
variable {st:Int} {f:kT} {e:wQ} {c:Option zG} {fv ev cv:AV}
theorem aU.mE (bK:st=3) (hc:c=none) (q:cv=.au∧fv=.ptr b 0) (H:HS g h (bJ b f::R)):HS g h (aU st f e c fv ev cv::R):=by subst bK;subst hc;exact HS.dE b (HS.allI (HS.dF q H))
theorem aU.nK (bK:st=3) (hc:c=none) (H:HS g h (aU st f e c fv ev cv::R)):∃b,(cv=.au∧fv=.ptr b 0)∧HS g h (bJ b f::R):=by subst bK;subst hc;obtain⟨b,H⟩:=(show HS g h (.ex (λb':Nat=>SP.all [.di (cv=.au∧fv=.ptr b' 0),bJ b' f])::R)from H).dj;exact⟨b,H.bS.cX⟩
theorem aU.mF (bK:st=4∨st=5) (hc:c=none) (q:cv=.au∧ev=.ptr b 0) (H:HS g h (bR b e::R)):HS g h (aU st f e c fv ev cv::R):=by subst hc;unfold aU;rw[iQ omQ,iJ bK];exact HS.dE b (HS.allI (HS.dF q H))
theorem aU.mG (bK:st=4∨st=5) (hc:c=none) (H:HS g h (aU st f e c fv ev cv::R)):∃b,(cv=.au∧ev=.ptr b 0)∧HS g h (bR b e::R):=by subst hc;unfold aU at H;dsimp only at H;rw[iQ omQ,iJ bK]at H;obtain⟨b,H⟩:=H.dj;exact⟨b,H.bS.cX⟩
theorem aU.mg (bK:st≠3∧st≠4∧st≠5) (hc:c=none) (q:cv=.au) (H:HS g h R):HS g h (aU st f e c fv ev cv::R):=by simp_all[aU,omQ,HS.dF]
theorem aU.tB (hc:c=none) (H:HS g h (aU st f e c fv ev cv::R)):cv=.au∧HS g h R:=by
 subst hc;unfold aU at H;dsimp only at H
 split at H
 ·obtain⟨b,H⟩:=H.dj;have H:=H.bS;exact⟨H.cX.1.1,H.drop.drop⟩
 ·split at H
  ·obtain⟨b,H⟩:=H.dj;have H:=H.bS;exact⟨H.cX.1.1,H.drop.drop⟩
  ·exact H.cX
theorem aU.lG {d:zG} (hc:c=some d) (q:cv=.ptr b 0∧Xx d) (H:HS g h (bN b d::R)):HS g h (aU st f e c fv ev cv::R):=by subst hc;exact HS.dE b (HS.allI (HS.dF q H))
theorem aU.hP {d:zG} (hc:c=some d) (H:HS g h (aU st f e c fv ev cv::R)):∃b,(cv=.ptr b 0∧Xx d)∧HS g h (bN b d::R):=by subst hc;obtain⟨b,H⟩:=(show HS g h (.ex (λb':Nat=>SP.all [.di (cv=.ptr b' 0∧Xx d),bN b' d])::R)from H).dj;exact⟨b,H.bS.cX⟩
theorem aU.out {st':Int} (h':st'=7∨st'=8) (H:HS g h (aU st f e c fv ev cv::R)):HS g h (aU st' f e c fv ev cv::R):=by
 cases c with
 |none=>obtain⟨q,H⟩:=aU.tB rfl H;exact aU.mg omQ rfl q H
 |some d=>trivial
end
theorem gZ {f e y:Int} (hn:1≤n) (H:HS g h (qx a (xV x q)::R)):af n 75 [.ptr a 0,.int .i64 f,.int .i64 e,.int .i64 y] h λ_ h'=>HS g h' (qx a (xV x { q with ph:=6,ou:=f,er:=e,bM:=y })::R):=by
 refine ra rfl omQ λk hk=>?_;unfold S75;try simp only[iZ]
 refine qK (qQ (qw H .here ⟨rfl,rfl⟩ (by simp[xV]) λh1 H1=>?_));refine qK (qQ (qw H1 .here ⟨rfl,rfl⟩ (by simp[xV]) λh2 H2=>?_));refine qK (qQ (qw H2 .here ⟨rfl,rfl⟩ (by simp[xV]) λh3 H3=>?_));exact qK (qQ (qw H3 .here ⟨rfl,rfl⟩ (by simp[xV]) λh4 H4=>qY H4))
theorem Mh {p:Int} (hn:4≤n) (hp:p<4611686018427387904) (hq:q.nd=p) (H:HS g h (qx a (xV x q)::R)):af n 127 [.ptr a 0] h λ_ h'=>
  ∃b,HS g h' (bJ b (XE x p).f::qx a (xV x { q with ph:=3,fv:=.ptr b 0 })::R):=by
 refine ag (S:=S127) rfl omQ λk hk=>?_;unfold S127;try simp only[iZ]
 refine qK (qQ (qc (qD H (b:=a) .here rfl omQ (l:=zb x.set) rfl ?_)));refine qH H rfl λc h1 H1=>?_;refine qh H1 (b:=c) .here rfl (by simp) rfl λh2 H2=>?_;refine qK (qQ (qw H2 (b:=a) e_1 ⟨rfl,rfl⟩ (by simp[xV]) λh3 H3=>?_));refine qG ?_
 try dsimp only
 refine qK (qQ (qc (qZ H3 (b:=a) .here rfl ?_)));refine qK (qQ (qZ H3 (b:=a) .here (x:=.int .i64 p) (by rw[← hq];rfl) ?_));refine qK (qQ (qZ H3 (b:=a) .here (x:=.int .i64 p) (by rw[← hq];rfl) ?_));refine qQ (qZ H3 (b:=c) e_1 rfl ?_);refine qQ (qZ H3 (b:=c) e_1 rfl ?_);refine qW (qxS omQ hp) ?_;rintro _ _ ⟨rfl,rfl⟩;refine qK (qQ (qc (qZ H3 (b:=a) .here rfl ?_)));refine qK (qQ (qZ H3 (b:=a) .here rfl ?_));refine qW (qJs omQ H3) ?_;rintro _ h4 ⟨b,rfl,H4⟩;refine qK (qQ ?_);refine qw H4 (b:=a) e_1 (x:=.ptr b 0) ⟨rfl,rfl⟩ (by simp[xV]) λh5 H5=>?_;refine qu H3 .here rfl H3 .here rfl (HS.lt H3 .here)<|qu H3 .here rfl H3 .here rfl (HS.lt H3 .here)<|qu H3 .here (x:=.int .i64 p) (by rw[← hq];rfl) H3 .here (by rw[← hq];rfl) (HS.lt H3 .here)<|qu H3 .here rfl H3 .here rfl (HS.lt H3 .here)<|qY ⟨b,H5.pk [1,0] 1⟩
theorem VN (hn:4≤n) (hr:x.r.length≤16) (H:HS g h (qx a (xV x q)::bB q.rb x.r::R)):af n 128 [.ptr a 0] h λ_ h'=>
  ∃b,HS g h' (bR b (Gf x.me x.set.spins x.r)::qx a (xV x { q with ph:=4,ev:=.ptr b 0 })::bB q.rb x.r::R):=by
 refine ag rfl omQ λk hk=>?_;unfold S128;try simp only[iZ]
 refine qK (qQ (qc (qZ H .here rfl ?_)));refine qK (qQ (qc (qZ H .here rfl ?_)));refine qK (qQ (qZ H .here rfl ?_));obtain⟨lv,H1⟩:=bB.E (H.ah e_1);refine qK (qQ (qZ H1 .here rfl ?_));refine qW (qZm (spins:=x.set.spins) omQ omQ H1 e_1) ?_;rintro _ h2 ⟨b,rfl,H2⟩;refine qK (qQ (qw H2 e_3 ⟨rfl,rfl⟩ (by simp[xV]) λh3 H3=>?_));refine qK (qQ (qw H3 .here ⟨rfl,rfl⟩ (by simp[xV]) λh4 H4=>qY ⟨b,?_⟩));exact(bB.I (H4.pk [2,2,0,0] 0)).pk [2,1,0] 0
theorem qZ0 {S:SP} (hn:6≤n) (hr:x.r.length≤16) (hg:ju x.v) (hf:bA x.v.lv<9000) (hc:x.c=none) (dV:q.cv=.au) (dZ:q.en=0∧q.ee=0∧q.eb= -1)
  (H:HS g h (qx a (xV x q)::bc S q.vb x.aW q.xv q.bv q.sw q.kv::aP q.vb x.v::bB q.rb x.r::R)):af n 129 [.ptr a 0] h λ_ h'=>
  HS g h' (aO S a (if jL x.v.lv=[]then yG x 2 0 (-1)else{ x with state:=6,c:=some (Kt x.me x.set.spins x.ak x.r (jL x.v.lv) x.set.aj x.set.wide) })::R):=by
 refine ag (S:=S129) rfl omQ λk hk=>?_;unfold S129;try simp only[iZ]
 have AG:=Gv hg.ok;refine qK (qQ (qZ H (b:=a) .here rfl ?_));obtain⟨kv,lq,H1⟩:=aP.E (H.ah e_2);refine qK (qQ (qZ H1 (b:=q.vb) .here rfl ?_));refine qW (Yl omQ (H1.ah (P:=bV lq x.v.most x.v.lv) e_2) hg.ok.eR omQ) ?_;rintro _ h2 ⟨cv,fv,rfl,H2⟩;have H2:=(aP.I (o:=q.vb) (M:=x.v) (kv:=kv) (q:=lq) (H2.sub (.cons e_3 (.cons e_3 (.cons e_2 (.cons .here (.cons e_1 (.cons .here .refl)))))))).sub (L':=aP q.vb x.v::qF 129 2 (jL x.v.lv).length cv ((jL x.v.lv).flatMap jH)::qx a (xV x q)::bc S q.vb x.aW q.xv q.bv q.sw q.kv::bB q.rb x.r::R) (.cons .here (.cons .here (.cons .here (.drop .refl))));clear H H1;refine Ui rfl<|qd H2 (n:=(jL x.v.lv).length) (v:=cv) e_1 ?_;by_cases c5:jL x.v.lv=[]
 ·rw[iJ c5];refine qj (by grind) (qX ?_);refine qW (gZ omQ (H2.ah e_2)) λ_ h3 H3=>qY<|aO.I (q:={ q with ph:=6,ou:=2,er:=0,bM:=-1 }) ⟨dZ,rfl,λ_ h=>absurd h (by nofun),λ_=>⟨rfl,rfl,rfl⟩,λh=>(by cases h),λh=>(by rcases h with h |h<;>cases h),λh=>(by cases h),λ_=>.inl rfl,λh=>absurd h (by nofun),λh=>(by cases h),λh=>absurd h (by nofun)⟩ ?_;have H4:=aU.mg (st:=7) (f:=x.f) (e:=x.e) (c:=x.c) (fv:=q.fv) (ev:=q.ev) (cv:=q.cv) od hc dV H3;exact H4.pk [1,3,1,2,0] 1
 rw[iQ c5];have mL:0<(jL x.v.lv).length:=List.length_pos_iff.2 c5;refine qV omQ (qJ ?_);refine qK (qQ (qc (qD H2 (b:=a) e_2 rfl omQ (l:=zb x.set) rfl ?_)));refine qH H2 rfl λc h3 H3=>?_;refine qh H3 (b:=c) .here rfl (by simp) rfl λh4 H4=>?_;have H4:HS g h4 (qx c (zb x.set)::aP q.vb x.v::qF 129 2 (jL x.v.lv).length cv ((jL x.v.lv).flatMap jH)::qx a (xV x q)::bc S q.vb x.aW q.xv q.bv q.sw q.kv::bB q.rb x.r::R):=H4;clear H2 H3;refine qK (qQ (qc (qZ H4 (b:=a) e_3 rfl ?_)));refine qK (qQ (qc (qZ H4 (b:=a) e_3 rfl ?_)));refine qK (qQ (qZ H4 (b:=a) e_3 rfl ?_));refine qK (qQ (qZ H4 (b:=a) e_3 rfl ?_));obtain⟨lv,H5⟩:=bB.E (H4.ah (P:=bB q.rb x.r) e_5);refine qK (qQ (qZ H5 (b:=q.rb) .here rfl ?_));refine qQ (qZ H5 (b:=c) e_2 rfl ?_);refine qQ (qZ H5 (b:=c) e_2 rfl ?_);refine qW (qjT (me:=x.me) (sp:=x.set.spins) (st:=x.ak) (a:=x.set.aj) (w:=x.set.wide) (r:=x.r) (cs:=jL x.v.lv) omQ omQ mL omQ (λc h=>by grind) H5 (H5.rd e_1) (H5.rd e_4) ?_) ?_
 ·obtain⟨d,hd⟩:=List.exists_mem_of_length_pos mL;exact List.length_pos_of_mem ((XT (n:=x.set.aj) (w:=x.set.wide) λc h=>by grind).2 (List.mem_map.2 ⟨d,hd,rfl⟩))
 rintro _ h6 ⟨b,rfl,H6⟩;refine qK (qQ (qw H6 (b:=a) e_6 ⟨rfl,rfl⟩ (by simp[xV]) λh7 H7=>?_));refine qK (qQ (qw H7 (b:=a) .here (x:=.ptr b 0) ⟨rfl,rfl⟩ (by simp[xV]) λh8 H8=>qY ?_));refine aO.I (q:={ q with ph:=5,cv:=.ptr b 0 }) ⟨dZ,rfl,λ_ h=>absurd h (by simp),λh=>(by grind),λh=>(by grind),λh=>(by grind),λ_ d hd=>(by cases hd;rfl),λh=>absurd h (by simp),λh=>absurd h (by simp),λh=>(by grind),λh=>absurd h (by simp)⟩ ?_;have H9:=aU.lG (st:=6) (f:=x.f) (e:=x.e) (fv:=q.fv) (ev:=q.ev) (c:=some (Kt x.me x.set.spins x.ak x.r (jL x.v.lv) x.set.aj x.set.wide)) rfl ⟨rfl,qw1⟩ (H8.ah e_1);have cC:=bB.I (lv:=lv) (H9.sub (.cons e_2 (.cons e_2 (.cons .here (.cons .here .refl)))));exact cC.pk [2,5,3,0,0] 2
end
end
section
variable {g h:AH} {L R R':List SP}
section
variable {n a b:Nat} {x:jd} {q:Oy} {S:SP} {r:List xA}
theorem MU (hn:2≤n) (H:HS g h R):af n 45 [.int .i64 ((16:Nat):Int)] h λv h'=>∃b,v=.ptr b 0∧HS g h' (bB b []::R):=by
 refine ag rfl omQ λk hk=>?_;unfold S45;try simp only[iZ]
 refine qW (gD omQ omQ) ?_;rintro _ _ ⟨rfl,rfl⟩;refine qy rfl<|qH H rfl λb h1 H1=>qY ⟨b,rfl,bB.I (lv:=.ad) ?_⟩;exact(H1.ad (e:=122) (sz:=2)).pk [1,0] 0
theorem qk2 {x:xA} (hn:1≤n) (hr:r.length≤16) (H:HS g h (bB b r::R)) :
  af n 131 [.ptr b 0,.agg (xK x)] h λv h'=>v=.int .i64 (gV r x).1∧HS g h' (bB b (gV r x).2::R):=by
 refine aG (S:=S131) rfl omQ λk hk=>?_;unfold S131;try simp only[iZ]
 generalize hA:gV r x=A;obtain⟨lv,H0⟩:=bB.E H;refine qH H0 rfl λb0 h1 H1=>?_;have H1:HS g h1 (qx b0 (xK x)::qx b [.int .i64 16,lv]::qF 122 2 r.length lv (r.flatMap xK)::R):=H1;clear H H0;unfold gV at hA;refine qQ (qZ H1 (b:=b0) .here (x:=.int .i64 x.1) rfl ?_);by_cases c1:x.1<0
 ·rw[iJ (.inl c1)]at hA;subst hA;refine jB c1 (qG ?_)
  try dsimp only
  refine qf (qC (qG ?_))
  try dsimp only
  exact qf (qC (qX (qY ⟨rfl,bB.I H1.drop⟩)))
 refine jk c1 (qG ?_)
 try dsimp only
 refine qM (qQ (qZ H1 (b:=b0) .here (x:=.int .i64 x.1) rfl ?_));by_cases c2:16≤x.1
 ·rw[iJ (.inr (.inl c2))]at hA;subst hA;refine jA c2 (qB (qG ?_))
  try dsimp only
  exact qf (qC (qX (qY ⟨rfl,bB.I H1.drop⟩)))
 refine jz c2 (qB (qG ?_))
 try dsimp only
 refine qM (qQ (qZ H1 (b:=b0) .here (x:=.int .u64 x.2) rfl ?_));by_cases c3:4611686018427387904≤x.2
 ·rw[iJ (.inr (.inr c3))]at hA;subst hA;exact jA c3 (qB (qX (qY ⟨rfl,bB.I H1.drop⟩)))
 refine jz c3 (qB (qJ ?_));rw[iQ omQ]at hA;refine jF (λm s h'=>∃i:Nat,s=(.int .i64 (i:Int),.ptr b0 0,.ptr b 0,())∧i≤r.length∧m=r.length-i∧(∀z∈r.take i,z.1≠x.1)∧h'=h1)
  ?_ (m:=r.length) omQ ⟨0,rfl,by omega,by rfl,by simp,rfl⟩
 rintro m ih s h2 aY ⟨i,rfl,hi,rfl,hb,rfl⟩;refine qK (qQ (qZ H1 (b:=b) e_1 (x:=lv) rfl ?_));refine qd H1 (n:=r.length) (v:=lv) e_2 ?_;by_cases ae:i<r.length
 ·refine jB omQ (qX ?_);have hg:r[i]? =some (zL r i):=by unfold zL;grind
  have hf:=yt ae;refine qK (qQ (qZ H1 (b:=b) e_1 (x:=lv) rfl ?_));refine jU (H1.sl (v:=lv) (xs:=r.flatMap xK) e_2) omQ ae hf.1<|qQ (qZ H1 (b:=b0) .here (x:=.int .i64 x.1) rfl ?_);by_cases hy:(zL r i).1=x.1
  ·rw[qX5 hb hg hy]at hA;dsimp only at hA;refine qj hy (qG ?_)
   try dsimp only
   refine qR (qK (qQ (qZ H1 (b:=b) e_1 (x:=lv) rfl ?_)));refine jU (H1.sl (v:=lv) (xs:=r.flatMap xK) e_2) omQ ae hf.2<|qQ (qZ H1 (b:=b0) .here (x:=.int .u64 x.2) rfl ?_);by_cases hv:(zL r i).2=x.2
   ·rw[iQ (λh=>h hv)]at hA;subst hA;exact qj hv (qC (qX (qg (qY ⟨rfl,bB.I H1.drop⟩))))
   ·rw[iJ hv]at hA;subst hA;refine qV hv (qC (qJ ?_));refine qK (qQ (qZ H1 (b:=b) e_1 (x:=lv) rfl ?_));refine jU (H1.sl (v:=lv) (xs:=r.flatMap xK) e_2) omQ ae hf.1<|qQ (qZ H1 (b:=b0) .here (x:=.int .i64 x.1) rfl ?_);exact qj hy (qX (qg (qY ⟨rfl,bB.I H1.drop⟩)))
  ·refine qV hy (qG ?_)
   try dsimp only
   refine qT (qB (qJ ?_));refine qK (qQ (qZ H1 (b:=b) e_1 (x:=lv) rfl ?_));refine jU (H1.sl (v:=lv) (xs:=r.flatMap xK) e_2) omQ ae hf.1<|qQ (qZ H1 (b:=b0) .here (x:=.int .i64 x.1) rfl ?_);refine qV hy (qJ ?_);refine qS omQ<|aY (r.length-(i+1)) _ _ omQ ⟨i+1,rfl,by omega,rfl,λz hz=>?_,rfl⟩;rw[List.take_add_one,hg]at hz;grind
 ·obtain rfl:i=r.length:=by omega
  have hnf:(r.find? λy=>decide (y.1=x.1))=none:=List.find?_eq_none.2 λz hz=>by
   grind
  rw[hnf]at hA;dsimp only at hA;refine jk omQ (qJ ?_);refine qK (qQ (qZ H1 (b:=b) e_1 (x:=lv) rfl ?_));refine qd H1 (n:=r.length) (v:=lv) e_2<|qK (qQ (qZ H1 (b:=b) e_1 (x:=.int .i64 16) rfl ?_));by_cases c4:r.length=16
  ·rw[iJ c4]at hA;subst hA;exact jA omQ (qX (qg (qY ⟨rfl,bB.I H1.drop⟩)))
  ·rw[iQ c4]at hA;subst hA;refine jz omQ (qJ ?_);refine qK (qQ (qZ H1 (b:=b) e_1 (x:=lv) rfl ?_));refine qD H1 (b:=b0) (off:=0) .here rfl omQ (l:=xK x) rfl<|qr (n:=1) (l:=xK x) (sz:=2) H1 rfl rfl rfl rfl λv2 h5 H5=>?_;refine jh (H5.ah (P:=qF 122 2 r.length lv (r.flatMap xK)) e_3) (H5.sl .here) omQ omQ rfl λv3 h6 H6=>?_;have o6:=H6.one .here;refine qK (qQ (qw H6 (b:=b) e_3 o6 aA λh7 H7=>qg (qY ⟨rfl,bB.I (lv:=v3) ?_⟩)));rw[List.length_append,List.flatMap_append];exact H7.pk [0,0] 2
theorem qQP {x:wQ} {a:cT} (hn:2≤n) (hf:x.p.fin=0) (ha:a.err=0) (h0:x.bH=false→x.at_=0) (O:KR x) (H:HS g h (bR b x::R)):af n 71 [.ptr b 0,.agg (jI a)] h λ_ h'=>HS g h' (bR b (xM x a)::R):=by
 refine aG (S:=S71) rfl omQ λk hk=>?_;unfold S71;try simp only[iZ]
 obtain⟨sp,at_,sv,Q,q,H0⟩:=bR.E H;have q0:=q hf;obtain⟨p1,p2,p3⟩:=Q hf;subst p1;have hlen:=O.len;have dJ:=O.lo;have cM:=O.Hi hf;refine qH H0 rfl λb0 h1 H1=>?_;have H1:HS g h1 (qx b0 (jI a)::qx b (gk x x.p.spins at_ sv)::qF 122 2 x.seen.length sv (x.seen.flatMap xK)::R):=H1;clear H H0;refine qK (qQ (qc (qZ H1 (b:=b) e_1 (x:=.int .i64 x.p.fin) rfl ?_)));refine q9 hf (qG ?_)
 try dsimp only
 refine qM (qK (qQ ?_));refine qD H1 (b:=b0) (off:=0) .here rfl omQ (l:=jI a) rfl<|qW (Xs (p:=x.p) (sp:=x.p.spins) (ys:=(gk x x.p.spins at_ sv).drop 5) (a:=a) omQ hf Q (H1.ah (P:=qx b (gk x x.p.spins at_ sv)) e_1)) ?_;have e0:qo x.p a=(false,x.p):=by
  simp_all[qo,iV]
 rw[e0];rintro _ h2 ⟨e8,rfl,Q',H2⟩;obtain⟨q1,_,_⟩:=Q' hf;have q1:e8=x.p.spins:=q1;subst q1;have H2:HS g h2 (qx b (gk x x.p.spins at_ sv)::qx b0 (jI a)::qF 122 2 x.seen.length sv (x.seen.flatMap xK)::R):=H2;clear H1;refine qB (qJ ?_);generalize hF:xM x a=F;unfold xM at hF;rw[e0,iQ (nofun)]at hF;refine jq [] (λz h'=>z=(.ptr b 0,())∧∃(y:wQ) (at_:Int),Jw y=F∧y.p=x.p∧y.seen=x.seen∧y.bH=true∧y.at_=at_+1∧ -1≤at_∧at_<1000∧HS g h' (qx b (gk y x.p.spins at_ sv)::qx b0 (jI a)::qF 122 2 x.seen.length sv (x.seen.flatMap xK)::R)) (λj hj=>?_) ?_
 rotate_left
 ·rintro _ h3 ⟨rfl,y,Af,e1,e2,e3,e4,e5,a0,a1,H3⟩;refine qK (qQ (qZ H3 (b:=b) .here (x:=.int .i64 Af) rfl ?_));refine qS omQ<|qK (qQ (qw H3 (b:=b) .here ⟨rfl,rfl⟩ (by simp[gk,zQ]) λh4 H4=>?_));have H4:HS g h4 (qx b (gk y x.p.spins (Af+1) sv)::qx b0 (jI a)::qF 122 2 x.seen.length sv (x.seen.flatMap xK)::R):=H4;refine qK (qQ (qZ H4 (b:=b) .here (x:=.int .i64 (Af+1)) rfl ?_));refine qK (qQ (qZ H4 (b:=b) .here (x:=sv) rfl ?_));refine qd H4 (n:=x.seen.length) (v:=sv) e_2 ?_;unfold Jw at e1;have hc:(y.at_=(y.seen.length:Int))↔(Af+1=(x.seen.length:Int)):=by grind
  by_cases c:Af+1=(x.seen.length:Int)
  ·rw[iJ (hc.2 c)]at e1;refine qj c (qX ?_);refine qK (qQ (qc (qw H4 (b:=b) .here (x:=.int .i64 2) ⟨rfl,rfl⟩ (by simp[gk,zQ]) λh5 H5=>qg (qY ?_))));rw[← e1];refine bR.I (sp:=x.p.spins) (at_:=Af+1) (sv:=sv) (λh=>(by cases h)) (λh=>(by cases h)) ?_;rw[show gk { y with p:=jc y.p 2 0 (-1) } x.p.spins (Af+1) sv=(gk y x.p.spins (Af+1) sv).set 2 (.int .i64 2) by grind[gk,zQ,jc],show({ y with p:=jc y.p 2 0 (-1) }:wQ).seen=x.seen from e3];exact H5.pk [0] 1
  ·rw[iQ (λh=>c (hc.1 h))]at e1;refine qV c (qJ (qg (qY ?_)));rw[← e1];refine bR.I (sp:=x.p.spins) (at_:=Af+1) (sv:=sv) (by grind) (λ_=>by simp_all[QE]) ?_;rw[e3];exact H4.pk [0] 1
 refine qK (qQ (qZ H2 (b:=b) .here (x:=.int .i64 at_) rfl ?_));cases hl:x.bH with
 |false=>
  have e:at_= -1:=by grind[QE]
  rw[iJ hl]at hF;refine jB omQ (qX ?_);refine qQ (qZ H2 (b:=b0) e_1 (x:=.int .u64 a.word) rfl ?_);refine qK (qQ (qw H2 (b:=b) .here ⟨rfl,rfl⟩ (by simp[gk,zQ]) λh3 H3=>hj _ _ ⟨rfl,_,at_,hF,rfl,rfl,rfl,?_,by omega,by omega,H3⟩));grind
 |true=>
  have e:at_=x.at_:=by grind[QE]
  have ae:=cM hl;rw[iQ (by grind)]at hF;refine jk omQ (qJ ?_);refine qQ (qc (qZ H2 (b:=b0) e_1 (x:=.bool a.lk.2.1) rfl ?_));cases hh:a.lk.2.1 with
  |true=>
   rw[iJ hh]at hF;refine qX (qK (qQ ?_));refine qQ (qD H2 (b:=b0) (off:=1) e_1 rfl omQ (l:=jS a.lk) rfl ?_);refine qW (KE (l:=a.lk) (p:=x.p) (sp:=x.p.spins) (ys:=(gk x x.p.spins at_ sv).drop 5) omQ hf Q (O.p hf) H2) ?_;rintro _ h3 ⟨e8,rfl,Q3,H3⟩;refine qY ?_;by_cases hw:(jX x.p a.lk).1=true
   ·rw[iJ hw]at Q3 H3 hF;rw[← hF];exact bR.I (x:={ x with p:=(jX x.p a.lk).2 }) (at_:=at_) (sv:=sv) Q3 (λ_=>q0) (H3.pk [0] 1)
   ·rw[iQ hw]at Q3 H3 hF;rw[← hF];exact bR.I (x:={ x with p:=jc (jX x.p a.lk).2 5 0 a.lk.2.2 }) (at_:=at_) (sv:=sv) Q3 (λ_=>q0) (H3.pk [0] 1)
  |false=>
   rw[iQ (by grind)]at hF;refine qJ ?_;obtain⟨k,hk⟩:∃k:Nat,x.at_=(k:Int):=⟨x.at_.toNat,by omega⟩;have mO:k<x.seen.length:=by omega
   refine qQ (qc (qZ H2 (b:=b0) e_1 (x:=.int .u64 a.lk.1) rfl ?_));refine qK (qQ (qZ H2 (b:=b) .here (x:=sv) rfl ?_));refine qK (qQ (qZ H2 (b:=b) .here (x:=.int .i64 (k:Int)) (by rw[← hk,← e];rfl) ?_));refine jU (H2.sl (v:=sv) (xs:=x.seen.flatMap xK) e_2) omQ mO (yt mO).2 ?_;rw[hk]at hF;by_cases hv:a.lk.1=(zL x.seen (k:Int)).2
   ·rw[iQ (λh=>h hv)]at hF;refine q9 hv (qJ ?_);refine hj _ _ ⟨rfl,{ x with at_:=(k:Int)+1 },at_,hF,rfl,rfl,hl,by grind,by omega,by omega,?_⟩;exact H2
   ·rw[iJ hv]at hF;refine jJ hv (qX ?_);refine qK (qQ (qc (qw H2 (b:=b) .here (x:=.int .i64 5) ⟨rfl,rfl⟩ (by simp[gk,zQ]) λh5 H5=>qY ?_)));rw[← hF];refine bR.I (sp:=x.p.spins) (at_:=at_) (sv:=sv) (λh=>(by cases h)) (λh=>(by cases h)) ?_;rw[show gk { x with p:=jc x.p 5 0 (-1),at_:=(k:Int) } x.p.spins at_ sv=(gk x x.p.spins at_ sv).set 2 (.int .i64 5) by grind[gk,zQ,jc]];exact H5.pk [0] 1
theorem NW {s:xn} (hn:2≤n) (H:HS g h R):af n 93 [.agg (zb s)] h λv h'=>v=.agg (zb (ja s))∧HS g h' R:=by
 refine ag (S:=S93) rfl omQ λk hk=>?_;unfold S93;try simp only[iZ]
 refine qH H rfl λb0 h1 H1=>?_;refine qH H1 rfl λb1 h2 H2=>?_;clear H H1;have z:∀{x lo hi:Int} {f:Nat} {s:xn} {h0:AH} {K:AH→Go.Ae.R} {Q:AV→AH→Prop},lo≤hi→f<5→(zb s)[f]? =some (.int .i64 x)→HS g h0 (qx b0 (zb s)::qx b1 (zb ⟨0,0,0,0,0,0,0,0⟩)::R)→
   (∀h',HS g h' (qx b0 ((zb s).set f (.int .i64 (max lo (min x hi))))::qx b1 (zb ⟨0,0,0,0,0,0,0,0⟩)::R)→wp (K h') Q)→
   wp (qI (.ptr b0 0) f λv=>ql h0 v λv=>jC (callT tab qv k) (.fn 100 [] []) [v,.int .i64 lo,.int .i64 hi] h0 λv h'=>qI (.ptr b0 0) f λw=>qn h' w v 1 K) Q:=λ{x lo hi f s h0 K Q} hl hf5 hx H w=>by
  refine qQ (qZ H (b:=b0) .here hx ?_);refine qW (gD omQ hl) ?_;rintro _ _ ⟨rfl,rfl⟩;exact qQ (qw H (b:=b0) .here ⟨rfl,rfl⟩ hf5 w)
 refine z (s:=s) od od rfl (H2.pk [1,0] 0) λh3 H3=>?_;refine z (s:={ s with words:=wB s.words 32 256 }) od od rfl H3 λh4 H4=>?_;refine z (s:={ s with words:=wB s.words 32 256,aj:=wB s.aj 1 16 }) od od rfl H4 λh5 H5=>?_;refine z (s:={ s with words:=wB s.words 32 256,aj:=wB s.aj 1 16,wide:=wB s.wide 1 16 }) od od rfl H5 λh6 H6=>?_;clear H2 H3 H4 H5;refine jq [] (λz h'=>z=(.ptr b1 0,.ptr b0 0,())∧HS g h' (qx b0 (zb (ja s))::qx b1 (zb ⟨0,0,0,0,0,0,0,0⟩)::R)) (λj hj=>?_) ?_
 ·refine qQ (qZ H6 (b:=b0) .here (x:=.int .u64 s.start) rfl ?_);by_cases c:4611686018427387904≤s.start
  ·refine jA c (qX ?_);refine qQ (qw H6 (b:=b0) .here (x:=.int .u64 4611686018427387903) ⟨rfl,rfl⟩ (by simp) λh7 H7=>hj _ _ ⟨rfl,?_⟩);unfold zb ja;rw[show min s.start 4611686018427387903=4611686018427387903 by omega];exact H7
  ·refine jz c (qJ (hj _ _ ⟨rfl,?_⟩));unfold zb ja;rw[show min s.start 4611686018427387903=s.start by omega];exact H6
 rintro _ h7 ⟨rfl,H7⟩;refine qD H7 (b:=b0) (off:=0) .here rfl omQ (l:=zb (ja s)) rfl<|qh H7 (b:=b1) e_1 rfl (by simp) rfl λh8 H8=>qg<|qD H8 (b:=b1) (off:=0) .here rfl omQ (l:=zb (ja s)) rfl (qY ⟨rfl,H8.drop.drop⟩)
theorem qQp {s:xn} (hn:3≤n) (H:HS g h R):af n 42 [.agg (xC s)] h λv h'=>v=.agg (xC (ja s))∧HS g h' R:=by
 refine ag rfl omQ λk hk=>?_;unfold S42;try simp only[iZ]
 refine qH H rfl λb0 h1 H1=>?_;refine qH H1 rfl λb1 h2 H2=>?_;refine qQ (qD H2 e_1 rfl omQ rfl ?_);refine qW (NW omQ H2) ?_;rintro _ h3 ⟨rfl,H3⟩;refine qQ (qh H3 e_1 rfl (by simp) rfl λh4 H4=>?_);refine qQ (qZ H4 .here rfl ?_);refine qW (gD omQ omQ) ?_;rintro _ _ ⟨rfl,rfl⟩;refine qQ (qw H4 .here ⟨rfl,rfl⟩ (by show 5<8;omega) λh5 H5=>?_);refine qQ (qZ H5 .here rfl ?_);refine qW (gD omQ omQ) ?_;rintro _ _ ⟨rfl,rfl⟩;refine qQ (qw H5 .here ⟨rfl,rfl⟩ (by show 6<8;omega) λh6 H6=>?_);refine qQ (qZ H6 .here rfl ?_);refine qW (gD omQ omQ) ?_;rintro _ _ ⟨rfl,rfl⟩;refine qQ (qw H6 .here ⟨rfl,rfl⟩ (by show 7<8;omega) λh7 H7=>?_);refine qD H7 .here rfl omQ rfl<|qh H7 e_1 rfl (by simp) rfl λh8 H8=>?_;exact qD H8 .here rfl omQ rfl (qY ⟨rfl,H8.drop.drop⟩)
theorem qwl {me:Int} {s:xn} {j:Kv} {sw:Bool} {bv xv:AV} {vb rb:Nat}:wg (VW me s j) ⟨sw,bv,xv,.au,.au,.au,vb,rb,0,0,0,0,0,-1,0,0,0,0⟩ :=
 ⟨⟨rfl,rfl,rfl⟩,rfl,λh=>absurd h (by nofun),λh=>(by cases h),λh=>(by cases h),λh=>(by rcases h with h |h<;>cases h),λh=>(by cases h),λh=>absurd h (by nofun),λ_=>⟨λh=>(by cases h),λh=>(by cases h)⟩,λh=>(by rfl),λ_=>rfl⟩
theorem qkm {me:Int} {l:List qe} {sv:AV} {s:xn} (hn:7≤n) (hc:(yu l).2=0) (hq:Quiet l) (r:mS S 5 l.length sv (l.flatMap jG)) (s':aR R S R') (H:HS g h R) :
  af n 9 [.int .i64 me,.agg (xC s),.agg [sv]] h λv h'=>∃a,v=.ptr a 0∧HS g h' (aO S a (YZ me s l)::R):=by
 refine b8 (S:=S9) rfl omQ λk hk=>?_;unfold S9;try simp only[iZ]
 have SR:Rd g R 5 l.length sv (l.flatMap jG):=r.rd s';refine qH H rfl λb0 h1 H1=>?_;refine qH H1 (ya (wq (SR.sl H))) λb1 h2 H2=>?_;refine qD H2 (b:=b0) (off:=0) e_1 rfl omQ (l:=xC s) rfl<|qW (qQp omQ H2) ?_;rintro _ h3 ⟨rfl,H3⟩;refine qH H3 rfl λb2 h4 H4=>?_;refine qh H4 (b:=b2) .here rfl (by simp) rfl λh5 H5=>?_;have H5:HS g h5 (qx b2 (xC (ja s))::qx b1 [sv]::qx b0 (xC s)::R):=H5;clear H H1 H2 H3 H4;have eA:YZ me s l=VW me (ja s) (.prog ⟨l,XQ,0,0,wz (ja s).fuel⟩):=rfl;rw[eA];generalize ja s=T at*;refine qQ (qc (qZ H5 (b:=b2) .here rfl ?_));refine qQ (qZ H5 (b:=b2) .here rfl ?_);refine qW (ZK omQ H5) ?_;rintro _ h6 ⟨vb,rfl,H6⟩;refine qG ?_
 try dsimp only
 refine qy (l:=[.int .i64 me,.int .i64 0,.int .i64 0,.int .i64 0,.int .i64 (-1)]) rfl<|qD H6 (b:=b2) (off:=0) e_1 rfl omQ (l:=xC T) rfl<|qD H6 (b:=b1) (off:=0) e_2 rfl omQ (l:=[sv]) rfl<|qQ (qZ H6 (b:=b2) e_1 rfl ?_);refine qW (qj8 (o:=vb) (fuel:=T.fuel) omQ (Kk hc) hq H6 SR.more.more.more.more) ?_;rintro _ h7 ⟨y,rfl,H7⟩;refine qW (MU omQ H7) ?_;rintro _ h8 ⟨rb,rfl,H8⟩;refine qy (l:=xV (VW me T (.prog ⟨l,XQ,0,0,wz T.fuel⟩)) ⟨false,.ad,.ptr y 0,.au,.au,.au,vb,rb,0,0,0,0,0,-1,0,0,0,0⟩) rfl<|qH H8 rfl λa h9 H9=>?_;refine zO H7 (b:=b2) e_2 rfl H8 e_3 rfl rfl omQ (HS.lt H6 e_1)<|zO H6 (b:=b2) e_1 rfl H7 e_2 rfl rfl omQ (HS.lt H6 e_1)<|qY ⟨a,rfl,aO.I (q:=⟨false,.ad,.ptr y 0,.au,.au,.au,vb,rb,0,0,0,0,0,-1,0,0,0,0⟩) qwl ?_⟩;have cC:=bc.PI (S:=S) (p:=⟨l,XQ,0,0,wz T.fuel⟩) (xv:=.ptr y 0) (bv:=.ad) (sw:=false) (kv:=0) ⟨rfl,rfl,r,λ_=>.inl rfl,λx hx=>(by cases hx)⟩ (H9.ah (P:=aC y vb sv (qb l) XQ 0 0 (wz T.fuel:Nat)) e_2);have dv:=aU.mg (st:=0) (f:=U1 0 0 0 0 0) (e:=Gf 0 0 []) (c:=none) (fv:=.au) (ev:=.au) (cv:=.au) od rfl rfl cC;exact dv.pk [2,1,2,1,0] 3
theorem qVP {me:Int} {bs:List Int} {e:TypeId} {sv:AV} {s:xn} {R2:List SP} (hn:5≤n) (hb:bs.length≤1000000) (H:HS g h R) (Sb:aR R (qF e 1 bs.length sv (bs.map (.int .i64))) R2) :
  af n 11 [.int .i64 me,.agg (xC s),sv] h λv h'=>∃a,v=.ptr a 0∧HS g h' (aO S a (JW me s bs)::R):=by
 refine b8 (S:=S11) rfl omQ λk hk=>?_;unfold S11;try simp only[iZ]
 refine qH H rfl λb0 h1 H1=>?_;refine qD H1 (b:=b0) (off:=0) .here rfl omQ (l:=xC s) rfl<|qW (qQp omQ H1) ?_;rintro _ h3 ⟨rfl,H3⟩;refine qH H3 rfl λb2 h4 H4=>?_;refine qh H4 (b:=b2) .here rfl (by simp) rfl λh5 H5=>?_;have H5:HS g h5 (qx b2 (xC (ja s))::qx b0 (xC s)::R):=H5;clear H H1 H3 H4;have eA:JW me s bs=VW me (ja s) (.aV bs 0):=rfl;rw[eA];generalize ja s=T at*;refine qG ?_
 try dsimp only
 refine qy (l:=[.int .i64 me,.int .i64 0,.int .i64 0,.int .i64 0,.int .i64 (-1)]) rfl<|qD H5 (b:=b2) (off:=0) .here rfl omQ (l:=xC T) rfl<|X0 H5 (H5.sl (.there (.there Sb))) omQ omQ (Gu (λ_=>rfl) _) λbv h6 H6=>?_;have o6:=H6.one .here;refine qQ (qc (qZ H6 (b:=b2) e_1 rfl ?_));refine qQ (qZ H6 (b:=b2) e_1 rfl ?_);refine qW (ZK omQ H6) ?_;rintro _ h7 ⟨vb,rfl,H7⟩;refine qW (MU omQ H7) ?_;rintro _ h8 ⟨rb,rfl,H8⟩;refine qy (l:=xV (VW me T (.aV bs 0)) ⟨true,bv,.au,.au,.au,.au,vb,rb,0,0,0,0,0,-1,0,0,0,0⟩) (by simp only[vG,o6.1];rfl)<|qH H8 (by simp only[xV,jV,List.all_cons,o6.2];rfl) λa h9 H9=>?_;refine qu H5 (b:=b2) .here rfl H6 e_1 rfl (HS.lt H5 .here)<|qu H5 (b:=b2) .here rfl H6 e_1 rfl (HS.lt H5 .here)<|zO H7 (b:=b2) e_2 rfl H8 e_3 rfl rfl omQ (HS.lt H5 .here)<|zO H6 (b:=b2) e_1 rfl H7 e_2 rfl rfl omQ (HS.lt H5 .here)<|zO H5 (b:=b2) .here rfl H6 e_1 rfl rfl omQ (HS.lt H5 .here)<|qY ⟨a,rfl,aO.I (q:=⟨true,bv,.au,.au,.au,.au,vb,rb,0,0,0,0,0,-1,0,0,0,0⟩) qwl ?_⟩;have cC:=bc.SI (S:=S) (vb:=vb) (k:=0) (bs:=bs) (xv:=.au) (bv:=bv) (sw:=true) (kv:=0) ⟨rfl,rfl⟩ (H9.ah e_3);have dv:=aU.mg (st:=0) (f:=U1 0 0 0 0 0) (e:=Gf 0 0 []) (c:=none) (fv:=.au) (ev:=.au) (cv:=.au) od rfl rfl cC;exact dv.pk [2,1,2,1,0] 2
end
end
end Go.Proofs.YtpbpkcdebchbbaaGreatDoor
