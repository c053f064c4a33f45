/- Lemmas for 'quietus/quietuslaw26.AttemptPlays': Views: by the documents own text;Views: by the documents own text: copies, kept levels, the views;Blocks of words: by the program;Blocks of words: by the ... No condition. -/
import Derived.Test.YtpbpkcdebchbbaaGreatDoorAttemptPlaysM1
import Derived.Test.YtpbpkcdebchbbaaGreatDoorAttemptPlaysAe7
import Derived.Test.YtpbpkcdebchbbaaGreatDoorAttemptPlaysT
import Derived.KernelRfl
import Derived.Lib.ItoaLen
import Derived.Lib.Join
namespace Go.Proofs.YtpbpkcdebchbbaaGreatDoor
open Go Go.Ae
set_option maxRecDepth 100000
section
variable {g h:AH} {L R:List SP}
theorem aR.ix {A A':List SP} {P:SP} (s:aR A P A') (R:List SP):aR (A++R) P (A'++R):=by
 induction s with
 |here=>exact .here
 |there s ih=>exact .there ih
theorem HS.fY {A A':List SP} {P:SP} (s:aR A P A') (H:HS g h (.all A::R)):HS g h (P:: .all A'::R):=by have H1:=(H.bS).ah (aR.ix s R);have H2:=HS.allI (HS.back (A:=A') H1);exact H2.pk [1] 0
theorem HS.pE {A A':List SP} {P:SP} (s:aR A P A') (H:HS g h (P:: .all A'::R)):HS g h (.all A::R):=by have H1:HS g h (.all A'::P::R):=H.pk [1] 0;have H2:=(H1.bS).ah (aR.skip A' .here);exact HS.allI (HS.dh (aR.ix s R) H2)
theorem HS.slv {e:TypeId} {sz n:Nat} {v:AV} {xs:List AV} (H:HS g h L) (s:aR L (qF e sz n v xs) R) (hn:0<n):∃b cp o,v=.slice b 0 n cp o:=by obtain⟨b,cp,o,ys,hv,_⟩:=(H.ah s).ux hn;grind
theorem HS.Rv {e:TypeId} {sz n b cp:Nat} {o:Bool} {xs:List AV} (H:HS g h L) (s:aR L (qF e sz n (.slice b 0 n cp o) xs) R):b<h.nx∧∀j,j<n*sz→h.at b (0+j)=xs[j]?:=by
 have S:=H.sl s;cases S with
 |mk hd hb hr hl ha=>grind
theorem X0 {e:TypeId} {sz m:Nat} {x:AV} {ys:List AV} {D:Nat→Prop} {K2:AV→AH→Go.Ae.R} {Q:AV→AH→Prop} (H:HS g h L) (S:Sl D h sz m x ys) (bC:0<sz) (BO:m≤67108864) (h1:jV ys=true)
  (w:∀v' h',HS g h' (qF e sz m v' ys::L)→wp (K2 v' h') Q):wp (z6 h e sz .ad x K2) Q:=by
 refine jh H.ad S bC omQ h1 λv' h' H'=>w v' h' ?_;grind
theorem kH (l:List Int):jV (l.map (AV.int .i64))=true:=by unfold jV;rw[List.all_eq_true];intro v hv;obtain⟨c,_,rfl⟩:=List.mem_map.1 hv;rfl
theorem Jk {D:Nat→Prop} {n:Nat} (hn:1≤n) {p:Int} {c:AV} {l:List Cl} (S:Sl D h 2 l.length c (l.flatMap jH)) (hl:l.length<1000000) :
  af n 186 [c,.int .i64 p] h λv h'=>v=.int .i64 (zI (JQ p l))∧h'=h:=by
 refine aG rfl omQ λk hk=>?_;unfold S186;try simp only[iZ]
 refine jF (λm s h'=>∃i:Nat,s=(.int .i64 (i:Int),.int .i64 p,c,())∧i≤l.length∧m=l.length-i∧h'=h∧
  (∀j,j<i→∀c,l[j]? =some c→c.1≠p)) ?_ (m:=l.length) omQ ⟨0,rfl,by omega,by rfl,rfl,λj hj=>by omega⟩
 rintro m ih s' h' aY ⟨i,rfl,h1,rfl,rfl,h2⟩;refine zH S<|zK (λae=>qX ?_) λeL=>qJ (qg (qY ⟨?_,rfl⟩))
 ·have hi:i<l.length:=by omega
  have hc:l[i]? =some l[i]:=iW hi;refine jU S omQ hi (by rw[xl jH (λ_=>rfl) _ _ _ omQ,hc];rfl)<|xR (λhe=>qX (qg (qY ⟨?_,rfl⟩))) λbG=>qJ (qS omQ ?_)
  ·rw[UT hi h2 ⟨l[i].2,by grind⟩];rfl
  ·refine aY (l.length-(i+1)) _ _ omQ ⟨i+1,rfl,by omega,rfl,rfl,λj hj c mi=>?_⟩;grind
 ·rw[Oi λc hc=>?_]
  ·rfl
  grind[List.getElem?_of_mem,List.getElem?_eq_some_iff]
theorem qKd {n:Nat} (hn:2≤n) {p x:Int} {c:AV} {l:List Cl} (H:HS g h L) (S:Rd g L 2 l.length c (l.flatMap jH)) (hl:l.length<1000000) :
  af n 204 [c,.int .i64 p,.int .u64 x] h λv h'=>HS g h' (qF 129 2 (yn p x l).length v ((yn p x l).flatMap jH)::L):=by
 refine b8 rfl omQ λk hk=>?_;unfold S204;try simp only[iZ]
 refine X0 H (S.sl H) omQ omQ (Xb l) λv0 h1 H1=>?_;refine qW (Jk omQ (H1.sl .here) omQ) ?_;rintro _ _ ⟨rfl,rfl⟩;cases hi:JQ p l with
 |none=>refine jz (by nofun)<|qJ (qy rfl ?_);refine qr H1 rfl rfl rfl rfl λv5 h5 H5=>?_;refine jh (H5.ah e_1) (H5.sl .here) omQ omQ rfl λv6 h6 H6=>qY ?_;rw[Jx (kK.1 hi),List.flatMap_append,List.length_append];exact H6.pk [0] 1
 |some i=>obtain⟨h1,⟨y,h2,pC⟩,h5⟩:=kg hi;refine jA (by show((0:Nat):Int)≤(i:Int);omega)<|qX (Vi H1 h1 omQ ⟨rfl,rfl⟩ λh6 H6=>qY ?_);grind[qQD,List.length_set]
def dH (p:AV×AV) (x:ba):SP:=.all [qF 129 2 x.1.length p.1 (x.1.flatMap jH),qF 3 1 x.2.length p.2 (x.2.map (.int .i64))]
theorem dH.E {p:AV×AV} {x:ba} (H:HS g h (dH p x::R)):HS g h (qF 129 2 x.1.length p.1 (x.1.flatMap jH)::qF 3 1 x.2.length p.2 (x.2.map (.int .i64))::R):=H.bS
theorem dH.I {p:AV×AV} {x:ba} (H:HS g h (qF 129 2 x.1.length p.1 (x.1.flatMap jH)::qF 3 1 x.2.length p.2 (x.2.map (.int .i64))::R)):HS g h (dH p x::R):=H.allI
def zT (ps:List (AV×AV)):List AV:=ps.reverse.flatMap λp=>[p.1,p.2]
theorem Ql (p:AV×AV) (ps:List (AV×AV)):zT (p::ps)=zT ps++[p.1,p.2]:=by simp[zT,List.reverse_cons,List.flatMap_append]
theorem JF (ps:List (AV×AV)):(zT ps).length=ps.length*2:=by unfold zT;rw[vD (sz:=2) _ (λ_=>rfl),List.length_reverse]
theorem JS {ps:List (AV×AV)} {i f:Nat} (hi:i<ps.length) (hf:f<2):(zT ps)[i*2+f]? =(ps[ps.length-1-i]?).bind λp=>[p.1,p.2][f]?:=by unfold zT;rw[xl (λp:AV×AV=>[p.1,p.2]) (λ_=>rfl) _ _ _ hf,List.getElem?_reverse hi]
def bV (q most:Nat) (lv:List ba):SP:=.ex λv=>.ex λps:List (AV×AV)=>.all [.di (ps.length=lv.length),qx q [.int .i64 (most:Int),v],qF 177 2 lv.length v (zT ps),.all (List.zipWith dH ps lv)]
theorem bV.E {q most:Nat} {lv:List ba} (H:HS g h (bV q most lv::R)):∃v ps,ps.length=lv.length∧HS g h (qx q [.int .i64 (most:Int),v]::qF 177 2 lv.length v (zT ps):: .all (List.zipWith dH ps lv)::R):=by obtain⟨v,H⟩:=H.dj;obtain⟨ps,H⟩:=H.dj;obtain⟨e,H⟩:=HS.cX (H.bS);exact⟨v,ps,e,H⟩
theorem bV.I {q most:Nat} {lv:List ba} {v:AV} {ps:List (AV×AV)} (e:ps.length=lv.length) (H:HS g h (qx q [.int .i64 (most:Int),v]::qF 177 2 lv.length v (zT ps):: .all (List.zipWith dH ps lv)::R)):HS g h (bV q most lv::R) :=
 HS.dE v (HS.dE ps (HS.allI (HS.dF e H)))
theorem bV.E1 {q most:Nat} {x:ba} {r:List ba} (H:HS g h (bV q most (x::r)::R)):∃(v:AV) (p:AV×AV) (ps:List (AV×AV)),ps.length=r.length∧HS g h (qx q [.int .i64 (most:Int),v]::qF 177 2 (ps.length+1) v (zT ps++[p.1,p.2])::
  qF 129 2 x.1.length p.1 (x.1.flatMap jH)::qF 3 1 x.2.length p.2 (x.2.map (.int .i64)):: .all (List.zipWith dH ps r)::R):=by
 obtain⟨v,ps,e,H⟩:=bV.E H;cases ps with
 |nil=>grind
 |cons p ps=>
  have e':ps.length=r.length:=by grind
  refine⟨v,p,ps,e',?_⟩;rw[Ql]at H;have H1:HS g h (.all (dH p x::List.zipWith dH ps r)::qx q [.int .i64 (most:Int),v]::qF 177 2 (r.length+1) v (zT ps++[p.1,p.2])::R):=H.pk [2] 0;have H2:=dH.E (HS.fY .here H1);rw[e'];exact H2.pk [3,3] 0
theorem bV.I1 {q most:Nat} {x:ba} {r:List ba} {v:AV} {p:AV×AV} {ps:List (AV×AV)} (e:ps.length=r.length) (H:HS g h (qx q [.int .i64 (most:Int),v]::qF 177 2 (ps.length+1) v (zT ps++[p.1,p.2])::
  qF 129 2 x.1.length p.1 (x.1.flatMap jH)::qF 3 1 x.2.length p.2 (x.2.map (.int .i64)):: .all (List.zipWith dH ps r)::R)):HS g h (bV q most (x::r)::R):=by
 refine bV.I (v:=v) (ps:=p::ps) (by grind) ?_;rw[Ql];have H1:=dH.I (p:=p) (x:=x) (R:=.all (List.zipWith dH ps r)::qx q [.int .i64 (most:Int),v]::qF 177 2 (ps.length+1) v (zT ps++[p.1,p.2])::R) (H.sub (.cons e_2 (.cons e_2 (.cons e_2 (.refl)))));have H2:=HS.pE (A:=dH p x::List.zipWith dH ps r) .here H1;show HS g h (_::qF 177 2 (r.length+1) v _:: .all (dH p x::List.zipWith dH ps r)::R);rw[← e];exact H2.pk [1,1,0] 0
theorem Gp:∀{ps:List (AV×AV)} {lv:List ba} {i:Nat} {a:AV×AV} {x:ba},ps[i]? =some a→lv[i]? =some x→∃T,aR (List.zipWith dH ps lv) (dH a x) T:=by
 intro ps
 induction ps with
 |nil=>simp
 |cons b ps ih=>
  intro lv i a x h1 h2;cases lv with
  |nil=>grind
  |cons y lv=>
   cases i with
   |zero=>simp at h1 h2;subst h1;subst h2;exact⟨_,.here⟩
   |succ i=>obtain⟨T,s⟩:=ih (by simpa using h1) (by simpa using h2);exact⟨_,.there s⟩
theorem gD {n:Nat} (hn:1≤n) {x lo hi:Int} (hl:lo≤hi):af n 100 [.int .i64 x,.int .i64 lo,.int .i64 hi] h λv h'=>v=.int .i64 (max lo (min x hi))∧h'=h:=by
 refine b8 rfl omQ λk hk=>?_;unfold S100;try simp only
 repeat' (first |refine qX ?_ |refine qJ ?_ |(refine qR ?_;try dsimp only) |(refine qf ?_;try dsimp only) |(refine qT ?_;try dsimp only) |(refine qM ?_;try dsimp only) |(refine jT ?_;try dsimp only) |refine qC ?_ |refine qB ?_ |(with_reducible refine qG ?_;try dsimp only) |with_reducible refine qg ?_ |refine jQ ?_ |refine jg ?_ |refine qS omQ ?_ |refine jK omQ ?_ |refine xT omQ ?_ |refine yT omQ ?_ |refine zS ?_ |refine zu ?_ |refine zK (λhc=>?_) (λhc=>?_) |refine yb (λhc=>?_) (λhc=>?_) |refine yz (λhc=>?_) (λhc=>?_) |refine xF (λhc=>?_) (λhc=>?_) |refine xR (λhc=>?_) (λhc=>?_) |refine xx (λhc=>?_) (λhc=>?_) |refine yD (λhc=>?_) (λhc=>?_))
 all_goals refine qY ⟨?_,rfl⟩
 all_goals grind
theorem qqb {n:Nat} (hn:2≤n) {m:Int} (H:HS g h R):af n 101 [.int .i64 m] h λv h'=>∃q,v=.ptr q 0∧HS g h' (bV q (max 0 (min m 96)).toNat [([],[])]::R):=by
 refine ag rfl omQ λk hk=>?_;unfold S101;try simp only[iZ]
 refine qW (gD omQ omQ) ?_;rintro _ _ ⟨rfl,rfl⟩;refine JG (ln:=1) (cp:=1) H rfl (Nat.le_refl _) omQ λv h3 H3=>?_;have h1:=H3.one .here;refine qy (by simp only[vG,h1.1];rfl)<|qH H3 (by show(true&&(v.one&&true))=true;rw[h1.2];rfl) λq h4 H4=>qY ⟨q,rfl,?_⟩;refine bV.I1 (v:=v) (p:=(.ad,.ad)) (ps:=[]) rfl ?_;rw[show(((max 0 (min m 96)).toNat:Nat):Int)=max ((0:Nat):Int) (min m ((96:Nat):Int)) by omega];have H5:=((HS.allI (A:=[]) H4).ad (e:=3) (sz:=1)).ad (e:=129) (sz:=2);exact H5.pk [3,3,0,0,0] 0
theorem qWd {n q most:Nat} (hn:1≤n) {lv:List ba} (H:HS g h (bV q most lv::R)) (O:dL most lv) :
  af n 305 [.ptr q 0] h λv h'=>v=.int .i64 ((most:Int)-(yl lv:Int))∧h'=h:=by
 refine ag rfl omQ λk hk=>?_;unfold S305;try simp only[iZ]
 obtain⟨v,ps,e,H⟩:=bV.E H;have hh:=O.held;have hl:=O.le;have hd:=O.deep;refine qK (qQ (qZ ‹_› .here rfl ?_));refine jF (λm s h'=>∃(i:Nat),s=(.int .i64 (i:Int),.int .i64 ((most:Int)-(((lv.reverse.take i).map λx=>x.1.length).sum:Nat)),.ptr q 0,())∧i≤lv.length∧m=lv.length-i∧h'=h)
  ?_ (m:=lv.length) omQ ⟨0,by simp,by omega,by rfl,rfl⟩
 rintro m ih s h' aY ⟨i,rfl,h1,rfl,rfl⟩;have oH:∀j,((lv.reverse.take j).map λx=>x.1.length).sum+((lv.reverse.drop j).map λx=>x.1.length).sum=yl lv:=by intro j;rw[← List.sum_append,← List.map_append,List.take_append_drop,List.map_reverse,Cz];rfl
 refine qK (qQ (qZ ‹_› .here rfl ?_));refine qd ‹_› e_1<|zK (λae=>qX ?_) λeL=>qJ (qg (qY ⟨?_,rfl⟩))
 ·have hi:i<lv.length:=by omega
  have ha:ps[ps.length-1-i]? =some (ps[ps.length-1-i]'omQ):=iW _;have hx:lv[ps.length-1-i]? =some (lv[ps.length-1-i]'omQ):=iW _;generalize ps[ps.length-1-i]'omQ=a at ha;have mw:lv.reverse[i]? =some (lv[ps.length-1-i]'omQ):=by grind
  generalize lv[ps.length-1-i]'omQ=x at hx mw;refine qK (qQ (qZ ‹_› .here rfl ?_));refine jU (x:=a.1) (H.sl e_1) omQ omQ (by rw[JS omQ omQ,ha];rfl) ?_;obtain⟨T,s⟩:=Gp ha hx;have H3:=dH.E (HS.fY s (H.ah e_2));refine qd H3 .here ?_;have h2:=oH i;have h3:=oH (i+1);have h4:((lv.reverse.take (i+1)).map λx=>x.1.length).sum=((lv.reverse.take i).map λx=>x.1.length).sum+x.1.length:=by rw[List.take_add_one,mw,Option.toList_some,List.map_append,List.sum_append];simp
  refine jK omQ (qS omQ (aY (lv.length-(i+1)) _ _ omQ ⟨i+1,?_,by omega,rfl,rfl⟩));grind
 grind[List.drop_of_length_le,yl]
theorem qK4 {n q most:Nat} (hn:1≤n) {lv:List ba} (H:HS g h (bV q most lv::R)) (_:dL most lv) :
  af n 254 [.ptr q 0] h λv h'=>v=.int .i64 (gg lv).1∧HS g h' (bV q most (gg lv).2::R):=by
 refine ag rfl omQ λk hk=>?_;unfold S254;try simp only[iZ]
 unfold gg;by_cases h6:6≤lv.length
 ·rw[iJ h6];have hH:=H;obtain⟨v,ps,e,H⟩:=bV.E H;refine qK (qQ (qZ ‹_› .here rfl ?_));refine qd ‹_› e_1<|jA omQ<|qX<|qY ⟨rfl,hH⟩
 ·rw[iQ h6];obtain⟨v,ps,e,H⟩:=bV.E H;refine qK (qQ (qZ ‹_› .here rfl ?_));refine qd ‹_› e_1<|jz omQ<|qJ (qK (qQ (qZ ‹_› .here rfl ?_)));refine qy rfl<|qr H rfl rfl rfl rfl λv3 h3 H3=>?_;refine jh (H3.ah e_2) (H3.sl .here) omQ omQ rfl λv4 h4 H4=>?_;refine qK (qQ (qw H4 e_2 (H4.one .here) aA λh5 H5=>qY ⟨rfl,bV.I1 (v:=v4) (p:=(.ad,.ad)) (ps:=ps) e ?_⟩));have H6:=(H5.ad (e:=3) (sz:=1)).ad (e:=129) (sz:=2);rw[e];exact H6.pk [2,2,0,0] 1
theorem qWu {n q most:Nat} (hn:1≤n) {lv:List ba} (H:HS g h (bV q most lv::R)) (O:dL most lv) :
  af n 255 [.ptr q 0] h λv h'=>v=.int .i64 (wS lv).1∧HS g h' (bV q most (wS lv).2::R):=by
 refine ag rfl omQ λk hk=>?_;unfold S255;try simp only[iZ]
 have hd:=O.deep;unfold wS;by_cases h1:lv.length=1
 ·rw[iJ h1];have hH:=H;obtain⟨v,ps,e,H⟩:=bV.E H;refine qK (qQ (qZ ‹_› .here rfl ?_));refine qd ‹_› e_1<|qj omQ<|qX<|qY ⟨rfl,hH⟩
 ·rw[iQ h1];cases lv with
  |nil=>have:=O.one;simp at this
  |cons x r=>
  simp at h1 hd;obtain⟨v,p,ps,e,H⟩:=bV.E1 H;have tT:r.length≠0:=by grind
  refine qK (qQ (qZ ‹_› .here rfl ?_));refine qd ‹_› e_1<|qV omQ<|qJ (qK (qQ (qZ ‹_› .here rfl ?_)));refine qK (qQ (qZ ‹_› .here rfl ?_));refine qd ‹_› e_1<|jK omQ ?_;rw[show((ps.length+1:Nat):Int)-((1:Nat):Int)=((ps.length:Nat):Int) by omega];refine gM (H.ah e_1) omQ omQ λv' H2=>?_;refine qK (qQ (qw H2 e_1 (H2.one .here) aA λh3 H3=>qY ⟨rfl,bV.I (v:=v') (ps:=ps) e ?_⟩));rw[← JF ps,List.take_left,e]at H3;exact H3.pk [0,0] 2
theorem Ji (l:List AV) (n f:Nat) (a b:AV) (hl:l.length=n*2) (hf:f<2):(l++[a,b])[n*2+f]? =[a,b][f]?:=by
 grind
theorem Vd (l:List AV) (n:Nat) (a b c:AV) (hl:l.length=n*2):(l++[a,b]).set (n*2+0) c=l++[c,b]:=by simp_all
theorem qXB (l:List AV) (n:Nat) (a b c:AV) (hl:l.length=n*2):(l++[a,b]).set (n*2+1) c=l++[a,c]:=by simp_all
theorem qYh {n q most:Nat} (hn:2≤n) {lv:List ba} {p:Int} (H:HS g h (bV q most lv::R)) (O:dL most lv) :
  af n 221 [.ptr q 0,.int .i64 p] h λv h'=>v=.bm [.int .u64 ((Xj p lv).getD 0),.bool (Xj p lv).isSome]∧h'=h:=by
 refine aG (S:=S221) rfl omQ λk hk=>?_;unfold S221;try simp only[iZ]
 obtain⟨v,ps,e,H⟩:=bV.E H;have hd:=O.deep;refine qK (qQ (qZ ‹_› .here rfl ?_));refine qd ‹_› e_1<|jK omQ<|jF (λm s h'=>∃(i:Nat),s=(.int .i64 ((lv.length:Int)-((1:Nat):Int)-(i:Int)),.int .i64 p,.ptr q 0,())∧i≤lv.length∧m=lv.length-i∧h'=h∧∀j,j<i→∀x,lv[j]? =some x→zc p x.1=none)
  ?_ (m:=lv.length) omQ ⟨0,by simp,by omega,by rfl,rfl,λj hj=>by omega⟩
 rintro m ih s h' aY ⟨i,rfl,h1,rfl,rfl,dA⟩;refine xF (λae=>qX ?_) λeL=>qJ (qg (qY ⟨?_,rfl⟩))
 ·have hi:i<lv.length:=by omega
  have ha:ps[i]? =some (ps[i]'omQ):=iW _;have hx:lv[i]? =some (lv[i]'omQ):=iW _;have hm:lv[i]'omQ∈lv:=List.getElem_mem _;generalize ps[i]'omQ=a at ha;generalize lv[i]'omQ=x at hx hm;have mY:=O.len hm;rw[show(lv.length:Int)-((1:Nat):Int)-(i:Int)=((lv.length-1-i:Nat):Int) by omega];have dC:∀f,f<2→(zT ps)[(lv.length-1-i)*2+f]? =[a.1,a.2][f]?:=by intro f hf;rw[JS omQ hf,show ps.length-1-(lv.length-1-i)=i by omega,ha];rfl
  refine qK (qQ (qZ ‹_› .here rfl ?_));refine jU (x:=a.1) (H.sl e_1) omQ omQ (dC 0 omQ) ?_;obtain⟨T,s⟩:=Gp ha hx;have H3:=dH.E (HS.fY s (H.ah e_2));refine qW (Jk omQ (H3.sl .here) omQ) ?_;rintro _ _ ⟨rfl,rfl⟩;cases hi2:JQ p x.1 with
  |none=>
   refine jz (by nofun) (qJ (jK omQ (aY (lv.length-(i+1)) _ _ omQ ⟨i+1,?_,by omega,rfl,rfl,λj hj y hy=>?_⟩)))
   ·grind
   ·by_cases tc:j<i
    ·grind
    ·obtain rfl:j=i:=by omega
     grind[kK]
  |some t=>
   obtain⟨h1,⟨y,h2,pC⟩,_⟩:=kg hi2;refine jA (by show((0:Nat):Int)≤(t:Int);omega) (qX ?_);refine qK (qQ (qZ H .here rfl ?_));refine jU (x:=a.1) (H.sl e_1) omQ omQ (dC 0 omQ)<|jU (x:=.int .u64 y) (H3.sl .here) omQ h1 ?_ (qg (qY ⟨?_,rfl⟩))
   ·rw[xl (sz:=2) jH (λ_=>rfl) _ _ _ omQ,h2];rfl
   grind[Ny]
 grind[MJ,List.getElem?_eq_some_iff]
theorem qQE {n q most:Nat} (hn:3≤n) {lv:List ba} {p v:Int} (H:HS g h (bV q most lv::R)) (O:dL most lv) :
  af n 250 [.ptr q 0,.int .i64 p,.int .u64 v] h λr h'=>r=.int .i64 (vk most lv p v).1∧HS g h' (bV q most (vk most lv p v).2::R):=by
 cases lv with
 |nil=>have:=O.one;grind
 |cons x r=>
 have mY:=O.len (x:=x) (iK ..);have hd:=O.deep;have hh:=O.held;simp at hd;refine b8 (S:=S250) rfl omQ λk hk=>?_;unfold S250;try simp only[iZ]
 unfold vk;by_cases hp:p<1∨256≤p
 ·simp only[iJ hp]
  repeat' (first |with_reducible refine qX ?_ |with_reducible refine qJ ?_ |(with_reducible refine qR ?_;try dsimp only) |(with_reducible refine qf ?_;try dsimp only) |(with_reducible refine qT ?_;try dsimp only) |(with_reducible refine qM ?_;try dsimp only) |(with_reducible refine jT ?_;try dsimp only) |with_reducible refine qC ?_ |with_reducible refine qB ?_ |(with_reducible refine qG ?_;try dsimp only) |with_reducible refine qg ?_ |with_reducible refine jQ ?_ |with_reducible refine jg ?_ |with_reducible refine qS omQ ?_ |with_reducible refine jK omQ ?_ |with_reducible refine xT omQ ?_ |with_reducible refine yT omQ ?_ |with_reducible refine zS ?_ |with_reducible refine zu ?_ |with_reducible refine qj omQ ?_ |with_reducible refine qV omQ ?_ |with_reducible refine jJ omQ ?_ |with_reducible refine q9 omQ ?_ |with_reducible refine jB omQ ?_ |with_reducible refine jk omQ ?_ |with_reducible refine yq omQ ?_ |with_reducible refine yY omQ ?_ |with_reducible refine zv omQ ?_ |with_reducible refine zV omQ ?_ |with_reducible refine jA omQ ?_ |with_reducible refine jz omQ ?_ |with_reducible refine zK (λhc=>?_) (λhc=>?_) |with_reducible refine yb (λhc=>?_) (λhc=>?_) |with_reducible refine yz (λhc=>?_) (λhc=>?_) |with_reducible refine xF (λhc=>?_) (λhc=>?_) |with_reducible refine xR (λhc=>?_) (λhc=>?_) |with_reducible refine xx (λhc=>?_) (λhc=>?_) |with_reducible refine yD (λhc=>?_) (λhc=>?_))
  all_goals exact qY ⟨rfl,H⟩
 simp only[iQ hp];have hH:=H;obtain⟨sv,pr,ps,e,H⟩:=bV.E1 H;have dz:=JF ps;refine jk omQ<|qG<|qM<|jz omQ<|qB (qJ (qK (qQ (qZ ‹_› .here rfl ?_))));refine qd ‹_› e_1<|jK omQ<|qK (qQ (qZ ‹_› .here rfl ?_))
 rw[show((ps.length+1:Nat):Int)-((1:Nat):Int)=((ps.length:Nat):Int) by omega];refine jU (x:=pr.1) (H.sl e_1) omQ omQ (Ji _ _ 0 _ _ dz omQ)<|qW (Jk omQ (H.sl e_2) omQ) ?_;rintro _ _ ⟨rfl,rfl⟩
 have fin:∀(K:AV→AH→Go.Ae.R) (Q:AV→AH→Prop) (h5:AH),h5=h5→HS g h5 (qx q [.int .i64 (most:Int),sv]::qF 177 2 (ps.length+1) sv (zT ps++[pr.1,pr.2])::
  qF 129 2 x.1.length pr.1 (x.1.flatMap jH)::qF 3 1 x.2.length pr.2 (x.2.map (.int .i64)):: .all (List.zipWith dH ps r)::R)→
   (∀v' h6,HS g h6 (qF 129 2 (yn p v x.1).length v' ((yn p v x.1).flatMap jH)::qx q [.int .i64 (most:Int),sv]::qF 177 2 (ps.length+1) sv (zT ps++[pr.1,pr.2])::
    qF 129 2 x.1.length pr.1 (x.1.flatMap jH)::qF 3 1 x.2.length pr.2 (x.2.map (.int .i64)):: .all (List.zipWith dH ps r)::R)→wp (K v' h6) Q)→
   wp (jC (callT tab qv k) (.fn 204 [] []) [pr.1,.int .i64 p,.int .u64 v] h5 K) Q:=by
  intro K Q h5 _ H5 hK;exact qW (qKd omQ H5 (H5.rd e_2) omQ) hK
 have put:∀h5,HS g h5 (qx q [.int .i64 (most:Int),sv]::qF 177 2 (ps.length+1) sv (zT ps++[pr.1,pr.2])::
  qF 129 2 x.1.length pr.1 (x.1.flatMap jH)::qF 3 1 x.2.length pr.2 (x.2.map (.int .i64)):: .all (List.zipWith dH ps r)::R)→True:=λ_ _=>trivial
 cases hi:JQ p x.1 with
 |some t=>
  have hg:¬(zc p x.1=none∧most≤yl (x::r)):=λh=>by
   obtain⟨_,⟨y,_,pC⟩,_⟩:=kg hi;grind
  refine jk (by nofun)<|qG<|qT<|qB (qJ (qG ?_));refine qK (qQ (qZ ‹_› .here rfl ?_));refine qK (qQ (qZ ‹_› .here rfl ?_))
  rw[iQ hg];refine jU (x:=pr.1) (H.sl e_1) omQ omQ (Ji _ _ 0 _ _ dz omQ)<|fin _ _ _ rfl H λv' h6 H6=>?_;refine Vi (H6.ah e_2) omQ omQ (H6.one .here) λh7 H7=>?_;refine qu ‹_› .here rfl ‹_› e_1 rfl (HS.lt ‹_› .here) ?_;rw[Vd _ _ _ _ _ dz]at H7;refine qY ⟨rfl,bV.I1 (v:=sv) (p:=(v',pr.2)) (ps:=ps) e ?_⟩;exact H7.pk [2,0,0,1,1] 1
 |none=>
  refine jB (by trivial)<|qG<|qR ?_;(try dsimp only)
  refine qW (qWd omQ hH O) ?_;rintro _ _ ⟨rfl,rfl⟩;refine yb (λh0=>?_) λh0=>?_
  ·refine qC (qX ?_);rw[iJ ⟨kK.1 hi,by omega⟩];exact qY ⟨rfl,hH⟩
  ·refine qC (qJ (qG ?_));refine qK (qQ (qZ ‹_› .here rfl ?_));refine qK (qQ (qZ ‹_› .here rfl ?_))
   rw[iQ (λh=>h0 omQ)];refine jU (x:=pr.1) (H.sl e_1) omQ omQ (Ji _ _ 0 _ _ dz omQ)<|fin _ _ _ rfl H λv' h6 H6=>?_;refine Vi (H6.ah e_2) omQ omQ (H6.one .here) λh7 H7=>?_;refine qu ‹_› .here rfl ‹_› e_1 rfl (HS.lt ‹_› .here) ?_;rw[Vd _ _ _ _ _ dz]at H7;refine qY ⟨rfl,bV.I1 (v:=sv) (p:=(v',pr.2)) (ps:=ps) e ?_⟩;exact H7.pk [2,0,0,1,1] 1
theorem qWa {n q most:Nat} (hn:1≤n) {lv:List ba} {b:Int} (H:HS g h (bV q most lv::R)) (O:dL most lv) (hf:∀x∈lv,x.2.length<1000000) :
  af n 309 [.ptr q 0,.int .i64 b] h λ_ h'=>HS g h' (bV q most (J3 lv b)::R):=by
 cases lv with
 |nil=>have:=O.one;grind
 |cons x r=>
 have hd:=O.deep;have hx:=hf x (iK ..);simp at hd;refine aG rfl omQ λk hk=>?_;unfold S309;try simp only[iZ]
 obtain⟨sv,pr,ps,e,H⟩:=bV.E1 H;have dz:=JF ps;refine qK (qQ (qZ ‹_› .here rfl ?_));refine qd ‹_› e_1<|jK omQ<|qG<|qK (qQ (qZ ‹_› .here rfl ?_));refine qK (qQ (qZ ‹_› .here rfl ?_))
 rw[show((ps.length+1:Nat):Int)-((1:Nat):Int)=((ps.length:Nat):Int) by omega];refine jU (H.sl e_1) omQ omQ (Ji _ _ 1 _ _ dz omQ)<|X0 H (H.sl e_3) omQ omQ (kH _) λv1 h1 H1=>?_;refine qr H1 rfl rfl rfl rfl λv2 h2 H2=>?_;refine jh (H2.ah e_1) (H2.sl .here) omQ omQ rfl λv3 h3 H3=>?_;refine Vi (H3.ah e_3) omQ omQ (H3.one .here) λh4 H4=>?_;rw[qXB _ _ _ _ _ dz]at H4;refine qu ‹_› e_2 rfl ‹_› e_2 rfl (HS.lt ‹_› .here)<|qu ‹_› .here rfl ‹_› e_1 rfl (HS.lt ‹_› .here)<|qY (bV.I1 (v:=sv) (p:=(pr.1,v3)) (ps:=ps) e ?_);rw[List.map_append,List.length_append];exact H4.pk [3,0,2,0,2] 2
end
section
variable {g h:AH} {L R:List SP}
theorem Nq {n q most:Nat} (hn:1≤n) {lv:List ba} (H:HS g h (bV q most lv::R)) (O:dL most lv) (hf:∀x∈lv,x.2.length<1000000) :
  af n 157 [.ptr q 0] h λr h'=>∃o,r=.ptr o 0∧HS g h' (bV o most lv::bV q most lv::R):=by
 have hd:=O.deep;have ho:=O.one;refine ag (S:=S157) rfl omQ λk hk=>?_;unfold S157;try simp only[iZ]
 obtain⟨v,ps,e,H⟩:=bV.E H;obtain⟨b,cp,oo,rfl⟩:=HS.slv H e_1 omQ;refine qK (qQ (qZ ‹_› .here rfl ?_));refine qy rfl<|qH H rfl λo h1 H1=>?_
 refine jF (λm s h'=>∃(i:Nat) (kv:AV) (qs:List (AV×AV)),s=(.int .i64 (i:Int),.ptr o 0,.ptr q 0,())∧i≤lv.length∧m=lv.length-i∧qs.length=i∧
  HS g h' (qx o [.int .i64 (most:Int),kv]::qF 177 2 i kv (zT qs):: .all (List.zipWith dH qs (lv.drop (lv.length-i)))::
   qx q [.int .i64 (most:Int),.slice b 0 lv.length cp oo]::qF 177 2 lv.length (.slice b 0 lv.length cp oo) (zT ps):: .all (List.zipWith dH ps lv)::R))
  ?_ (m:=lv.length) omQ ⟨0,.ad,[],rfl,by omega,by rfl,rfl,?_⟩
 ·rintro m ih s h' aY ⟨i,kv,qs,rfl,h1,rfl,hq,H⟩;refine qK (qQ (qZ ‹_› e_3 rfl ?_));refine qd ‹_› e_4<|zK (λae=>qX ?_) λeL=>qJ (qg (qY ⟨o,rfl,?_⟩))
  ·have hi:i<lv.length:=by omega
   have ha:ps[lv.length-1-i]? =some (ps[lv.length-1-i]'omQ):=iW _;have hx:lv[lv.length-1-i]? =some (lv[lv.length-1-i]'omQ):=iW _;have nG:lv.drop (lv.length-(i+1))=(lv[lv.length-1-i]'omQ)::lv.drop (lv.length-i):=by rw[show lv.length-(i+1)=lv.length-1-i by omega,List.drop_eq_getElem_cons omQ,show lv.length-1-i+1=lv.length-i by omega]
   have hm:lv[lv.length-1-i]'omQ∈lv:=List.getElem_mem _;generalize ps[lv.length-1-i]'omQ=a at ha;generalize lv[lv.length-1-i]'omQ=x at hx hm nG;have mY:=O.len hm;have hxf:=hf x hm;have dC:∀f,f<2→(zT ps)[i*2+f]? =[a.1,a.2][f]?:=by intro f hf;rw[JS omQ hf,e,ha];rfl
   refine qG<|qK (qQ (qZ ‹_› .here rfl ?_));refine qK (qQ (qZ ‹_› e_3 rfl ?_))
   obtain⟨T,s⟩:=Gp ha hx;have H3:=dH.E (HS.fY s (H.ah e_5));have da:∀(h2:AH) (L2 R2:List SP),HS g h2 L2→aR L2 (qF 177 2 lv.length (.slice b 0 lv.length cp oo) (zT ps)) R2→b<h2.nx∧∀f,f<2→h2.at b (0+i*2+f)=[a.1,a.2][f]?:=by intro h2 L2 R2 H2 s2;obtain⟨b1,b2⟩:=HS.Rv H2 s2;grind
   obtain⟨b0,b1⟩:=da _ _ _ H3 e_7;refine Ju omQ (qc (QO (x:=a.1) (b1 0 omQ) ?_));refine X0 H3 (H3.sl .here) omQ omQ (Xb _) λv4 h4 H4=>?_;refine qK (qQ (qZ ‹_› e_7 rfl ?_));obtain⟨b2,b3⟩:=da _ _ _ H4 e_8;refine Ju omQ (qc (QO (x:=a.2) (b3 1 omQ) ?_));refine X0 H4 (H4.sl e_2) omQ omQ (kH _) λv5 h5 H5=>?_;have o5:=H5.one .here;have o4:=H5.one e_1;refine qy (l:=[v4,v5]) (by simp only[vG,o4.1,o5.1];rfl)<|qr (n:=1) (l:=[v4,v5]) (sz:=2) H5 rfl rfl rfl (by simp[jV,o4.2,o5.2]) λv6 h6 H6=>?_;refine jh (H6.ah e_7) (H6.sl .here) omQ omQ (by simp[jV,o4.2,o5.2]) λv7 h7 H7=>?_;refine qK (qQ (qw H7 (b:=o) e_7 (H7.one .here) aA λh8 H8=>?_));simp only[List.set_cons_zero,List.set_cons_succ]at H8;refine WA (b1 1 omQ) (b3 1 omQ) b0<|qu ‹_› e_6 rfl ‹_› e_7 rfl (HS.lt ‹_› e_6)<|qu ‹_› e_4 rfl ‹_› e_5 rfl (HS.lt ‹_› e_3)<|qu ‹_› e_3 rfl ‹_› e_4 rfl (HS.lt ‹_› e_3)<|qS omQ<|aY (lv.length-(i+1)) _ _ omQ ⟨i+1,v7,(v4,v5)::qs,rfl,by omega,rfl,by grind,?_⟩
   have H9:=dH.I (p:=(v4,v5)) (x:=x) (R:=.all (List.zipWith dH qs (lv.drop (lv.length-i)))::qF 129 2 x.1.length a.1 (x.1.flatMap jH)::qF 3 1 x.2.length a.2 (x.2.map (.int .i64)):: .all T::
    qx o [.int .i64 (most:Int),v7]::qF 177 2 (i+1) v7 (zT qs++[v4,v5])::
    qx q [.int .i64 (most:Int),.slice b 0 lv.length cp oo]::qF 177 2 lv.length (.slice b 0 lv.length cp oo) (zT ps)::R) (H8.pk [4,3,6,3,3,3,0,0,1,1] 1)
   have cC:=HS.pE (A:=dH (v4,v5) x::List.zipWith dH qs (lv.drop (lv.length-i))) .here H9
   have dv:=dH.I (p:=a) (x:=x) (R:=.all T:: .all (dH (v4,v5) x::List.zipWith dH qs (lv.drop (lv.length-i)))::
    qx o [.int .i64 (most:Int),v7]::qF 177 2 (i+1) v7 (zT qs++[v4,v5])::
    qx q [.int .i64 (most:Int),.slice b 0 lv.length cp oo]::qF 177 2 lv.length (.slice b 0 lv.length cp oo) (zT ps)::R) (cC.pk [1,1,1] 0)
   have dU:=HS.pE s dv;rw[Ql,nG];exact dU.pk [2,2,1,1,1,0] 0
  ·obtain rfl:i=lv.length:=by omega
   rw[show lv.length-lv.length=0 by omega,List.drop_zero]at H;have H2:=bV.I (q:=o) (v:=kv) (ps:=qs) hq (H.sub (.cons .here (.cons .here (.cons .here .refl))));have H3:=bV.I (q:=q) (most:=most) (lv:=lv) (v:=.slice b 0 lv.length cp oo) (ps:=ps) (R:=bV o most lv::R) e (H2.sub (.cons e_1 (.cons e_1 (.cons e_1 (.refl)))));exact H3.pk [1] 0
 ·have H2:=(HS.allI (A:=[]) (H1.ad (e:=177) (sz:=2)));exact H2.pk [2,1,0] 0
theorem qGI {n q most:Nat} (hn:4≤n) {lv:List ba} {cs:List Cl} {c:AV} (H:HS g h (bV q most lv::R)) (O:dL most lv) (hf:∀x∈lv,x.2.length<1000000) (S:Rd g R 2 cs.length c (cs.flatMap jH)) (hc:cs.length<100000) :
  af n 222 [.ptr q 0,c] h λr h'=>r=.int .i64 (vW most lv lv cs).1∧HS g h' (bV q most (vW most lv lv cs).2::R):=by
 refine aG (S:=S222) rfl omQ λk hk=>?_;unfold S222;try simp only[iZ]
 refine qW (Nq omQ H O hf) ?_;rintro _ h1 ⟨o,rfl,H1⟩
 refine jF (λk s h'=>∃(i:Nat) (fj:List ba),s=(.int .i64 (i:Int),.ptr o 0,c,.ptr q 0,())∧i≤cs.length∧k=cs.length-i∧dL most fj∧
  HS g h' (bV o most fj::bV q most lv::R)∧vW most lv lv cs=vW most lv fj (cs.drop i)) ?_ (m:=cs.length) omQ ⟨0,lv,rfl,by omega,by rfl,O,H1,rfl⟩
 rintro k2 ih s h2 aY ⟨i,fj,rfl,h1,rfl,O',H,hT⟩;refine zH (S.sl H.drop.drop)<|zK (λae=>qX ?_) λeL=>qJ ?_
 ·have hi:i<cs.length:=by omega
  have fX:cs[i]? =some cs[i]:=iW hi;refine jU (x:=.int .i64 cs[i].1) (S.sl H.drop.drop) omQ hi (by rw[xl (sz:=2) jH (λ_=>rfl) _ _ _ omQ,fX];rfl)<|jU (S.sl H.drop.drop) omQ hi (by rw[xl jH (λ_=>rfl) _ _ _ omQ,fX];rfl)<|qW (qQE omQ H O') ?_;rintro _ h6 ⟨rfl,H6⟩;rw[List.drop_eq_getElem_cons hi,vC]at hT;have O2:=(K9 (p:=cs[i].1) (v:=cs[i].2) O').1;refine xx (λbG=>qX ?_) λhe=>qJ (qS omQ ?_)
  ·have bG:¬(vk most fj cs[i].1 cs[i].2).1=0:=by grind
   rw[iQ bG]at hT;rw[hT];exact qg (qY ⟨rfl,H6.drop⟩)
  ·have F4:(vk most fj cs[i].1 cs[i].2).1=0:=by grind
   rw[iJ F4]at hT;exact aY (cs.length-(i+1)) _ _ omQ ⟨i+1,_,rfl,by omega,rfl,O2,H6,hT⟩
 ·rw[List.drop_of_length_le omQ]at hT;rw[hT];obtain⟨v1,ps1,e1,H3⟩:=bV.E H;obtain⟨v2,mj,e2,H4⟩:=bV.E (H3.ah e_3);refine qK (qQ (qZ ‹_› e_3 rfl ?_));refine qK (qQ (qw H4 .here (H4.one e_4) aA λh8 H8=>?_));simp only[List.set_cons_zero,List.set_cons_succ]at H8;refine qg (qY ⟨rfl,bV.I (ps:=ps1) e1 (H8.sub (.cons .here (.cons e_3 (.cons e_3 ?_))))⟩);exact .drop (.drop (.drop .refl))
def bA (lv:List ba):Nat:=(lv.map λx=>x.2.length).sum
theorem gE (x:ba) (r:List ba):bA (x::r)=x.2.length+bA r:=by rfl
theorem MZ (l:List AV) (n:Nat) (a b:AV) (tl:List AV) (hl:l.length=n*2):((l++[a,b]++tl).drop (n*2)).take 2=[a,b]:=by grind
theorem NE (l:List AV) (n:Nat) (a b c d:AV) (hl:l.length=n*2):wL (l++[a,b]) (n*2) [c,d]=l++[c,d]:=by simp_all[wL,List.drop_of_length_le,aA]
theorem M5 {n q most:Nat} (hn:3≤n) {lv:List ba} (H:HS g h (bV q most lv::R)) (O:dL most lv) (hf:bA lv<1000000) :
  af n 158 [.ptr q 0] h λv h'=>v=.int .i64 (wR lv).1∧HS g h' (bV q most (wR lv).2::R):=by
 have hd:=O.deep;rcases lv with _ |⟨x,_ |⟨y,r⟩⟩
 ·have:=O.one;grind
 ·refine ag (S:=S158) rfl omQ λk hk=>?_;unfold S158;try simp only[iZ]
  have hH:=H;obtain⟨v,ps,e,H⟩:=bV.E H;refine qK (qQ (qZ ‹_› .here rfl ?_));refine qd ‹_› e_1 ?_;exact qY ⟨rfl,hH⟩
 ·rw[gE,gE]at hf;have DA:=O.ins x aA;have mY:=O.len (x:=x) aA;have hS:=O.len (x:=y) aA;simp at hd;refine ag (S:=S158) rfl omQ λk hk=>?_;unfold S158;try simp only[iZ]
  obtain⟨v,p,ps,e,H⟩:=bV.E1 H;cases ps with
  |nil=>simp at e
  |cons p2 ps=>
  have e:ps.length=r.length:=by grind
  have H:=dH.E (HS.fY .here (H.ah e_4));rw[Ql]at H;have dz:=JF ps;have uv:(zT ps++[p2.1,p2.2]).length=(ps.length+1)*2:=by grind
  simp only[List.length_cons]at H;have o1:=H.one .here;have o2:=H.one e_1;have o3:=H.one e_5;have o4:=H.one e_6;refine qK (qQ (qZ ‹_› e_3 rfl ?_));refine qd ‹_› e_4 ?_;refine qV omQ ?_;refine qJ (qK (qQ (qZ ‹_› e_3 rfl ?_)));refine jK omQ ?_;rw[show((ps.length+1+1:Nat):Int)-((1:Nat):Int)=((ps.length+1:Nat):Int) by omega];refine zj (l:=[p.1,p.2]) (H.sl e_4) omQ omQ (by grind) ?_;refine qH H rfl λb1 h1 H=>qh H .here rfl (by simp) (by simp[jV,AV.cells,o3.2,o4.2]) λh2 H=>?_
  have H:HS g h2 (qx b1 [p.1,p.2]::qF 129 2 y.1.length p2.1 (y.1.flatMap jH)::qF 3 1 y.2.length p2.2 (y.2.map (.int .i64)):: .all (List.zipWith dH ps r)::
   qx q [.int .i64 (most:Int),v]::qF 177 2 (ps.length+1+1) v (zT ps++[p2.1,p2.2]++[p.1,p.2])::
   qF 129 2 x.1.length p.1 (x.1.flatMap jH)::qF 3 1 x.2.length p.2 (x.2.map (.int .i64))::R):=H
  refine qK (qQ (qZ ‹_› e_4 rfl ?_));refine jK omQ ?_;rw[show((ps.length+1+1:Nat):Int)-((2:Nat):Int)=((ps.length:Nat):Int) by omega];refine zj (l:=[p2.1,p2.2]) (H.sl e_5) omQ omQ (MZ _ _ p2.1 p2.2 [p.1,p.2] dz) ?_;refine qH H rfl λb2 h3 H=>qh H .here rfl (by simp) (by simp[jV,AV.cells,o1.2,o2.2]) λh4 H=>?_
  have H:HS g h4 (qF 129 2 y.1.length p2.1 (y.1.flatMap jH)::qx b2 [p2.1,p2.2]::qx b1 [p.1,p.2]::qF 3 1 y.2.length p2.2 (y.2.map (.int .i64)):: .all (List.zipWith dH ps r)::
   qx q [.int .i64 (most:Int),v]::qF 177 2 (ps.length+1+1) v (zT ps++[p2.1,p2.2]++[p.1,p.2])::
   qF 129 2 x.1.length p.1 (x.1.flatMap jH)::qF 3 1 x.2.length p.2 (x.2.map (.int .i64))::R):=HS.sub (L:=qx b2 [p2.1,p2.2]::qx b1 [p.1,p.2]::qF 129 2 y.1.length p2.1 (y.1.flatMap jH)::_) H (.cons e_2 (.cons .here (.cons .here .refl)))
  refine jF (λm s h'=>∃(i:Nat) (cv:AV),s=(.int .i64 (i:Int),.ptr b2 0,.ptr b1 0,.int .i64 ((ps.length+1+1:Nat):Int),.ptr q 0,())∧i≤x.1.length∧m=x.1.length-i∧
   HS g h' (qF 129 2 (yN y.1 (x.1.take i)).length cv ((yN y.1 (x.1.take i)).flatMap jH)::qx b2 [cv,p2.2]::qx b1 [p.1,p.2]::qF 3 1 y.2.length p2.2 (y.2.map (.int .i64)):: .all (List.zipWith dH ps r)::
   qx q [.int .i64 (most:Int),v]::qF 177 2 (ps.length+1+1) v (zT ps++[p2.1,p2.2]++[p.1,p.2])::
   qF 129 2 x.1.length p.1 (x.1.flatMap jH)::qF 3 1 x.2.length p.2 (x.2.map (.int .i64))::R))
   ?_ (m:=x.1.length) (by grind) ⟨0,p2.1,rfl,by omega,by rfl,H⟩
  clear H;rintro m ih s h5 aY ⟨i,cv,rfl,h1,rfl,H⟩;refine qQ (qZ ‹_› e_2 rfl ?_);refine qd ‹_› e_7 ?_;have sa:=GG (cs:=x.1.take i) (l:=y.1);rw[List.length_take]at sa;refine zK (λae=>qX ?_) λeL=>qJ ?_
  ·have hi:i<x.1.length:=by omega
   have fX:x.1[i]? =some x.1[i]:=iW hi;refine qQ (qZ ‹_› e_1 rfl ?_);refine qQ (qZ ‹_› e_2 rfl ?_);refine jU (x:=.int .i64 x.1[i].1) (H.sl e_7) omQ hi (by rw[xl (sz:=2) jH (λ_=>rfl) _ _ _ omQ,fX];rfl)<|qQ (qZ ‹_› e_2 rfl ?_);refine jU (x:=.int .u64 x.1[i].2) (H.sl e_7) omQ hi (by rw[xl (sz:=2) jH (λ_=>rfl) _ _ _ omQ,fX];rfl)<|qW (qKd omQ H (H.rd .here) omQ) λv6 h6 H6=>?_;refine qQ (qw H6 (b:=b2) e_2 (H6.one .here) aA λh7 H7=>?_);simp only[List.set_cons_zero]at H7;refine qS omQ (aY (x.1.length-(i+1)) _ _ omQ ⟨i+1,v6,rfl,by omega,rfl,?_⟩);have hp:yN y.1 (x.1.take (i+1))=yn x.1[i].1 x.1[i].2 (yN y.1 (x.1.take i)):=by rw[List.take_succ_eq_append_getElem hi];unfold yN;grind
   rw[hp];exact H7.pk [1,0,1,1,1,1,1,1,1] 1
  ·obtain rfl:i=x.1.length:=by omega
   rw[List.take_length]at H;refine qG<|qQ (qZ ‹_› e_1 rfl ?_)
   refine X0 H (H.sl e_3) omQ omQ (kH _) λv7 h7 H7=>?_;refine qQ (qZ ‹_› e_3 rfl ?_);refine jh H7 (H7.sl e_9) omQ omQ (kH _) λv8 h8 H8=>?_;have o8:=H8.one .here;have o9:=H8.one e_1;refine qQ (qw H8 (b:=b2) e_2 o8 aA λh9 H9=>?_);simp only[List.set_cons_zero,List.set_cons_succ]at H9;refine qu ‹_› e_2 rfl ‹_› e_3 rfl (HS.lt ‹_› e_2)<|qK (qQ (qZ ‹_› e_6 rfl ?_));refine jK omQ ?_;rw[show((ps.length+1+1:Nat):Int)-((1:Nat):Int)=((ps.length+1:Nat):Int) by omega];refine gM (H9.ah e_7) omQ omQ λv10 cC=>?_;rw[← uv,List.take_left]at cC;refine qK (qQ (qw cC (b:=q) e_7 (cC.one .here) aA λbY dv=>?_));simp only[List.set_cons_zero,List.set_cons_succ]at dv;refine qK (qQ (qZ ‹_› .here rfl ?_));refine jK omQ ?_;rw[show((ps.length+1+1:Nat):Int)-((2:Nat):Int)=((ps.length:Nat):Int) by omega];refine qD dv (b:=b2) (l:=[cv,v8]) e_2 rfl omQ rfl<|Yp (dv.ah e_1) omQ rfl (by simp[jV,o8.2,o9.2]) λeY dU=>?_;rw[NE _ _ _ _ _ _ dz]at dU;refine qg (qY ⟨rfl,bV.I1 (v:=v10) (p:=(cv,v8)) (ps:=ps) e ?_⟩);rw[List.map_append,List.length_append];exact dU.pk [1,0,2,1,3] 5
theorem nH {x y:ba} {r:List ba}:jL (wR (x::y::r)).2=jL (x::y::r):=by rfl
theorem nI {x y:ba} {r:List ba}:bA (wR (x::y::r)).2=bA (x::y::r):=by grind[bA,wR]
theorem Vn (lv:List ba):(vw lv).length=bA lv:=by simp[vw,bA,List.length_flatMap,List.map_reverse]
theorem Yl {n q most:Nat} (hn:4≤n) {lv:List ba} (H:HS g h (bV q most lv::R)) (O:dL most lv) (hf:bA lv<1000000) :
  af n 107 [.ptr q 0] h λv h'=>∃cv fv,v=.agg [cv,fv]∧
   HS g h' (qF 129 2 (jL lv).length cv ((jL lv).flatMap jH)::qF 3 1 (vw lv).length fv ((vw lv).map (.int .i64))::bV q most lv::R):=by
 have hfx:∀(l:List ba),∀x∈l,x.2.length≤bA l:=by
  intro l
  induction l with
  |nil=>simp
  |cons y r ih=>
   intro x hx;rw[gE];grind
 have hd:=O.deep;refine ag (S:=S107) rfl omQ λk hk=>?_;unfold S107;try simp only[iZ]
 refine qH H rfl λb0 h1 H=>?_;refine qW (Nq omQ (H.ah e_1) O λx hx=>by grind) ?_;rintro _ h2 ⟨o,rfl,H⟩;refine jF (λm s h'=>∃(fj:List ba),s=(.ptr o 0,.ptr b0 0,.ptr q 0,())∧m=fj.length∧dL most fj∧jL fj=jL lv∧bA fj=bA lv∧HS g h' (bV o most fj::bV q most lv::qx b0 [.ad,.ad]::R))
  ?_ (m:=lv.length) (by grind) ⟨lv,rfl,rfl,O,rfl,rfl,H⟩
 clear H;rintro m ih s h3 aY ⟨fj,rfl,rfl,O',hm,hs,H⟩;have hH:=H;have hd':=O'.deep;obtain⟨v,ps,e,H⟩:=bV.E H;refine qK (qQ (qZ ‹_› .here rfl ?_));refine qd ‹_› e_1<|yz (λDh=>qX ?_) λhle=>qJ ?_
 ·rcases fj with _ |⟨x,_ |⟨y,r⟩⟩
  ·simp at Dh
  ·simp at Dh
  refine qW (M5 omQ hH O' omQ) ?_;rintro _ h4 ⟨rfl,H4⟩;exact aY _ _ _ (by simp[wR]) ⟨_,rfl,rfl,qQa O',nH.trans hm,nI.trans hs,H4⟩
 ·rcases fj with _ |⟨x,_ |⟨y,r⟩⟩
  ·have:=O'.one;simp at this
  ·have Ru:x.1=jL lv:=hm;clear aY;obtain⟨v,p,ps,e,H⟩:=bV.E1 hH;have e:ps=[]:=iA (by grind);subst e;have oC:=H.one e_2;refine qK (qQ (qZ ‹_› .here rfl ?_));refine jU (i:=0) (x:=p.1) (H.sl e_1) omQ aA rfl<|qy (l:=[p.1,.ad]) (by simp only[vG,oC.1];rfl)<|qH H rfl λb1 h4 H=>qh H .here rfl (by simp) (by show(p.1.one&&(true&&true))=true;rw[oC.2];rfl) λh5 H=>?_;rw[Ru]at H;have H:HS g h5 (qx b1 [p.1,.ad]::qF 129 2 (jL lv).length p.1 ((jL lv).flatMap jH)::bV q most lv::qx b0 [.ad,.ad]::R):=H.pk [0,2] 4;obtain⟨v2,mj,e2,H⟩:=bV.E (H.ah e_2)
   refine jF (λm s h'=>∃(i:Nat) (acc:AV),s=(.int .i64 (i:Int),.ptr b1 0,.ptr b0 0,.ptr q 0,())∧i≤lv.length∧m=lv.length-i∧
    HS g h' (qF 3 1 ((lv.reverse.take i).flatMap (·.2)).length acc (((lv.reverse.take i).flatMap (·.2)).map (.int .i64))::qx b1 [p.1,acc]::qx q [.int .i64 (most:Int),v2]::qF 177 2 lv.length v2 (zT mj)::
     .all (List.zipWith dH mj lv)::qF 129 2 (jL lv).length p.1 ((jL lv).flatMap jH)::qx b0 [.ad,.ad]::R))
    ?_ (m:=lv.length) (by grind) ⟨0,.ad,rfl,by omega,by rfl,?_⟩
   ·clear H;rintro m ih s h' aY ⟨i,acc,rfl,h1,rfl,H⟩;refine qK (qQ (qZ ‹_› e_2 rfl ?_));refine qd ‹_› e_3<|zK (λae=>qX ?_) λeL=>qJ ?_
    ·have hi:i<lv.length:=by omega
     have ha:mj[mj.length-1-i]? =some (mj[mj.length-1-i]'omQ):=iW _;have hx:lv[mj.length-1-i]? =some (lv[mj.length-1-i]'omQ):=iW _;generalize mj[mj.length-1-i]'omQ=a at ha;have mw:lv.reverse[i]? =some (lv[mj.length-1-i]'omQ):=by grind
     generalize lv[mj.length-1-i]'omQ=z at hx mw;refine qQ (qZ ‹_› e_1 rfl ?_);refine qK (qQ (qZ ‹_› e_2 rfl ?_));refine jU (x:=a.2) (H.sl e_3) omQ omQ (by rw[JS omQ omQ,ha];rfl) ?_;obtain⟨T,s⟩:=Gp ha hx;have H3:=dH.E (HS.fY s (H.ah e_4));have hlen:((lv.reverse.take i).flatMap (·.2)).length+z.2.length≤(vw lv).length:=by
      have e1:lv.reverse.flatMap (·.2)=(lv.reverse.take (i+1)).flatMap (·.2)++(lv.reverse.drop (i+1)).flatMap (·.2):=by rw[← List.flatMap_append,List.take_append_drop]
      grind[vw,List.take_add_one]
     rw[Vn]at hlen;refine jh (H3.ah e_3) (H3.sl e_1) omQ omQ (kH _) λv4 h4 H4=>?_;refine qQ (qw H4 (b:=b1) e_4 (H4.one .here) aA λh5 H5=>?_);simp only[List.set_cons_zero,List.set_cons_succ]at H5;refine qS omQ (aY (lv.length-(i+1)) _ _ omQ ⟨i+1,v4,rfl,by omega,rfl,?_⟩);rw[List.take_add_one,mw,Option.toList_some,List.flatMap_append,List.map_append,List.length_append,List.flatMap_cons,List.flatMap_nil,List.append_nil];have H6:=HS.pE s (dH.I (p:=a) (x:=z) (H5.sub (.cons e_2 (.cons e_2 (.cons e_2 .refl)))));exact H6.pk [2,1,1,1] 0
    ·obtain rfl:i=lv.length:=by omega
     rw[List.take_of_length_le aA]at H;have oF:=H.one .here;refine qD H (b:=b1) (l:=[p.1,acc]) e_1 rfl omQ rfl<|qh H (b:=b0) e_6 rfl (by simp) (by simp[jV,AV.cells,oC.2,oF.2]) λh6 H6=>?_
     have H7:HS g h6 (qx b0 [p.1,acc]::qF 3 1 (lv.reverse.flatMap (·.2)).length acc ((lv.reverse.flatMap (·.2)).map (.int .i64))::qx b1 [p.1,acc]::qx q [.int .i64 (most:Int),v2]::qF 177 2 lv.length v2 (zT mj)::
      .all (List.zipWith dH mj lv)::qF 129 2 (jL lv).length p.1 ((jL lv).flatMap jH)::R):=H6
     refine qg (qD H7 (b:=b0) (l:=[p.1,acc]) .here rfl omQ rfl (qY ⟨p.1,acc,rfl,?_⟩));have H8:=bV.I (q:=q) (most:=most) (v:=v2) (ps:=mj) e2 (R:=qF 3 1 (vw lv).length acc ((vw lv).map (.int .i64))::qF 129 2 (jL lv).length p.1 ((jL lv).flatMap jH)::R)
      (H7.pk [3,3,3,1,2] 2)
     exact H8.pk [2,1] 0
   ·have H2:=H.ad (e:=3) (sz:=1);exact H2.pk [0,3,0,0,0] 0
  ·simp at hle;omega
def aP (o:Nat) (M:VM):SP:=.ex λkv=>.ex λq=>.all [qx o [.int .i64 (M.sz:Int),kv,.ptr q 0,.int .i64 M.aw],qF 129 2 M.K.length kv (M.K.flatMap jH),bV q M.most M.lv]
theorem aP.E {o:Nat} {M:VM} (H:HS g h (aP o M::R)):∃kv q,HS g h (qx o [.int .i64 (M.sz:Int),kv,.ptr q 0,.int .i64 M.aw]::qF 129 2 M.K.length kv (M.K.flatMap jH)::bV q M.most M.lv::R):=by obtain⟨kv,H⟩:=H.dj;obtain⟨q,H⟩:=H.dj;exact⟨kv,q,H.bS⟩
theorem aP.I {o:Nat} {M:VM} {kv:AV} {q:Nat} (H:HS g h (qx o [.int .i64 (M.sz:Int),kv,.ptr q 0,.int .i64 M.aw]::qF 129 2 M.K.length kv (M.K.flatMap jH)::bV q M.most M.lv::R)):HS g h (aP o M::R) :=
 HS.dE kv (HS.dE q (HS.allI H))
theorem ZK {n:Nat} (hn:3≤n) {w m:Int} (H:HS g h R):af n 43 [.int .i64 w,.int .i64 m] h λr h'=>∃o,r=.ptr o 0∧HS g h' (aP o (Vl w m)::R):=by
 refine aG rfl omQ λk hk=>?_;unfold S43;try simp only[iZ]
 refine qW (gD omQ omQ) ?_;rintro _ _ ⟨rfl,rfl⟩;refine qW (qqb omQ H) ?_;rintro _ h2 ⟨q,rfl,H2⟩;refine qy rfl (qH H2 rfl λo h4 H4=>qY ⟨o,rfl,?_⟩);rw[show max ((32:Nat):Int) (min w ((256:Nat):Int))=((lT w:Nat):Int) by grind[lT]]at H4;have H5:=H4.ad (e:=129) (sz:=2);exact aP.I (kv:=.ad) (H5.pk [1,0,0] 0)
theorem Uz {n:Nat} (hn:1≤n) {o:Nat} {M:VM} {p:Int} (H:HS g h (aP o M::R)):af n 185 [.ptr o 0,.int .i64 p] h λr h'=>r=.bool (decide (1≤p∧p<M.sz))∧h'=h:=by
 refine aG rfl omQ λk hk=>?_;unfold S185;try simp only[iZ]
 obtain⟨kv,q,H⟩:=aP.E H;by_cases h1:1≤p
 ·refine jA omQ<|qG<|qR ?_;(try dsimp only);refine qK (qQ (qZ ‹_› .here rfl ?_))
  refine wX (qC (qY ⟨?_,rfl⟩))
  grind
 ·refine jz omQ<|qG<|qT<|qB ?_
  exact qY ⟨by grind,rfl⟩
theorem qGP {n:Nat} (hn:2≤n) {o:Nat} {M:VM} {p x:Int} (H:HS g h (aP o M::R)) (O:cU M) :
  af n 132 [.ptr o 0,.int .i64 p,.int .u64 x] h λr h'=>r=.int .i64 (yd M p x).1∧HS g h' (aP o (yd M p x).2::R):=by
 refine b8 rfl omQ λk hk=>?_;unfold S132;try simp only[iZ]
 refine qW (Uz omQ H) ?_;rintro _ _ ⟨rfl,rfl⟩;have hO:=O.hi;have mO:=O.td;unfold yd;by_cases hp:1≤p∧p<M.sz
 ·rw[iJ hp,iG hp];have hH:=H;obtain⟨kv,q,H⟩:=aP.E H;refine jQ (qJ (qK (qQ (qZ ‹_› .here rfl ?_))));refine qW (Jk omQ (H.sl e_1) omQ) ?_;rintro _ _ ⟨rfl,rfl⟩;cases hi:JQ p M.K with
  |none=>refine jz (by nofun) ?_;have hg:=kK.1 hi;refine qJ (qK (qQ (qZ ‹_› .here rfl ?_)));refine qy rfl<|qr H rfl rfl rfl rfl λv7 h7 H7=>?_;refine jh (H7.ah e_2) (H7.sl .here) omQ omQ rfl λv8 h8 H8=>?_;refine qK (qQ (qw H8 (b:=o) e_2 (H8.one .here) aA λh9 H9=>?_));rw[hg];refine qY ⟨rfl,aP.I (M:={ M with K:=M.K++[(p,x)] }) (kv:=v8) (q:=q) ?_⟩;rw[List.flatMap_append,List.length_append];exact H9.pk [0,0,1] 1
  |some i=>
   obtain⟨h1,⟨y,h2,pC⟩,h5⟩:=kg hi;refine jA (by show((0:Nat):Int)≤(i:Int);omega)<|qX (qK (qQ (qZ ‹_› .here rfl ?_)));refine jU (x:=.int .u64 y) (H.sl e_1) omQ h1 (by rw[xl (sz:=2) jH (λ_=>rfl) _ _ _ omQ,h2];rfl) ?_;rw[pC];by_cases hy:y=x
   ·refine q9 omQ<|qJ (qY ⟨by grind,hH⟩)
   ·refine jJ omQ<|qX (qY ⟨by grind,hH⟩)
 ·rw[iQ hp,iV hp];refine jg (qX ?_);exact qY ⟨rfl,H⟩
theorem wu {n:Nat} (hn:3≤n) {o:Nat} {M:VM} {p:Int} (H:HS g h (aP o M::R)) (O:cU M) :
  af n 178 [.ptr o 0,.int .i64 p] h λr h'=>r=.bm [.int .u64 (qi M p).1.1,.int .i64 (qi M p).1.2]∧HS g h' (aP o (qi M p).2::R):=by
 refine aG rfl omQ λk hk=>?_;unfold S178;try simp only[iZ]
 refine qW (Uz omQ H) ?_;rintro _ _ ⟨rfl,rfl⟩;have mO:=O.td;unfold qi;by_cases hp:1≤p∧p<M.sz
 ·rw[iJ hp,iG hp];have hH:=H;obtain⟨kv,q,H⟩:=aP.E H;refine jQ (qJ (qK (qQ (qZ ‹_› .here rfl ?_))));refine qW (qYh omQ (H.ah e_2) O.eR) ?_;rintro _ _ ⟨rfl,rfl⟩;refine qA rfl<|qA rfl ?_;cases hl:Xj p M.lv with
  |some y=>simp;refine qX<|qY ⟨rfl,hH⟩
  |none=>
   simp;refine qJ (qK (qQ (qZ ‹_› .here rfl ?_)));refine qW (Jk omQ (H.sl e_1) omQ) ?_;rintro _ _ ⟨rfl,rfl⟩;cases hi:JQ p M.K with
   |none=>refine jz (by nofun) ?_;rw[kK.1 hi];refine qJ (qK (qQ (qw H .here ⟨rfl,rfl⟩ aA λh9 H9=>qY ⟨rfl,aP.I (kv:=kv) (H9.pk [0] 0)⟩)))
   |some i=>obtain⟨h1,⟨y,h2,pC⟩,h5⟩:=kg hi;refine jA (by show((0:Nat):Int)≤(i:Int);omega) ?_;rw[pC];refine qX (qK (qQ (qZ ‹_› .here rfl ?_)));refine jU (H.sl e_1) omQ h1 (by rw[xl jH (λ_=>rfl) _ _ _ omQ,h2];rfl)<|qY ⟨rfl,hH⟩
 ·rw[iQ hp,iV hp];refine jg (qX ?_);exact qY ⟨rfl,H⟩
theorem X6 {n:Nat} (hn:5≤n) {o:Nat} {M:VM} {cs:List Cl} {c:AV} (H:HS g h (aP o M::R)) (O:cU M) (S:Rd g R 2 cs.length c (cs.flatMap jH)) (hc:cs.length<100000) :
  af n 179 [.ptr o 0,c] h λr h'=>r=.int .i64 (zq M cs).1∧HS g h' (aP o (zq M cs).2::R):=by
 refine aG rfl omQ λk hk=>?_;unfold S179;try simp only[iZ]
 refine jF (λk s h'=>∃i:Nat,s=(.int .i64 (i:Int),c,.ptr o 0,())∧i≤cs.length∧k=cs.length-i∧h'=h∧∀j,j<i→∀d,cs[j]? =some d→1≤d.1∧d.1<M.sz)
  ?_ (m:=cs.length) omQ ⟨0,rfl,by omega,by rfl,rfl,λj hj=>by omega⟩
 rintro k2 ih s h2 aY ⟨i,rfl,h1,rfl,rfl,dA⟩;refine zH (S.sl H.drop)<|zK (λae=>qX ?_) λeL=>qJ ?_
 ·have hi:i<cs.length:=by omega
  have fX:cs[i]? =some cs[i]:=iW hi;refine jU (x:=.int .i64 cs[i].1) (S.sl H.drop) omQ hi (by rw[xl jH (λ_=>rfl) _ _ _ omQ,fX];rfl)<|qW (Uz omQ H) ?_;rintro _ _ ⟨rfl,rfl⟩;by_cases cM:1≤cs[i].1∧cs[i].1<M.sz
  ·rw[iG cM];refine jQ (qJ (qS omQ ?_));refine aY (cs.length-(i+1)) _ _ omQ ⟨i+1,rfl,by omega,rfl,rfl,λj hj d hd=>?_⟩;grind
  ·rw[iV cM];refine jg (qX (qg ?_));unfold zq;rw[iQ (λh=>cM (h _ (List.getElem_mem hi)))];exact qY ⟨rfl,H⟩
 ·have cu:∀d∈cs,1≤d.1∧d.1<M.sz:=by
   grind[List.getElem?_of_mem,List.getElem?_eq_some_iff]
  obtain⟨kv,q,H⟩:=aP.E H;refine qK (qQ (qZ ‹_› .here rfl ?_));refine qW (qGI omQ (H.ah e_2) O.eR (λx hx=>Nat.lt_trans (O.fr x hx) omQ) (S.more.more) hc) ?_;rintro _ h4 ⟨rfl,H4⟩;unfold zq;rw[iJ cu];exact qg (qY ⟨rfl,aP.I (kv:=kv) (H4.pk [1,1] 0)⟩)
end
section
variable {g h:AH} {L R:List SP}
def yO (x:Int):Int:=if x=1 then 2 else if x=2 then 4 else if x=3 then 8 else if x=4 then 16 else 0
def zJ (x:Int):Int:=if x<1 then 0 else if x≤2 then 1 else if x≤4 then 2 else if x≤8 then 3 else if x≤16 then 4 else 0
theorem K5 (x:Int):0≤yO x∧yO x≤16:=by grind[yO]
theorem VC (x:Int):0≤zJ x∧zJ x≤4:=by grind[zJ]
structure mP (M:VM):Prop where
  k:∀c∈M.K,0≤c.2∧c.2<18446744073709551616
  l:∀x∈M.lv,∀c∈x.1,0≤c.2∧c.2<18446744073709551616
theorem Mx {P:Int→Prop} {p x:Int}:∀{l:List Cl},(∀c∈l,P c.2)→zc p l=some x→P x:=by
 intro l
 induction l with
 |nil=>nofun
 |cons c l ih=>
  intro h e;unfold zc at e
  grind
theorem qWn {P:Int→Prop} {p x:Int}:∀{lv:List ba},(∀y∈lv,∀c∈y.1,P c.2)→Xj p lv=some x→P x:=by
 intro lv
 induction lv with
 |nil=>nofun
 |cons y r ih=>
  intro h e;unfold Xj at e
  split at e
  ·rename_i v hv;cases e;exact Mx (h y (iK ..)) hv
  ·exact ih (λz hz=>h z (iX _ hz)) e
theorem mP.read {M:VM} {p:Int} (W:mP M):0≤(qi M p).1.1∧(qi M p).1.1<18446744073709551616:=by
 unfold qi
 split
 ·split
  ·rename_i x hx;exact qWn (P:=λx=>0≤x∧x<18446744073709551616) W.l hx
  ·split
   ·rename_i x hx;exact Mx (P:=λx=>0≤x∧x<18446744073709551616) W.k hx
   simp
 simp
theorem mP.mf {M:VM} {p:Int} (W:mP M):mP (qi M p).2:=by
 unfold qi
 repeat' split
 all_goals exact⟨W.k,W.l⟩
def iL (cs:List Cl):Prop:=∀c∈cs,0≤c.2∧c.2<18446744073709551616
theorem iL.put {l:List Cl} {p v:Int} (h:iL l) (hv:0≤v∧v<18446744073709551616):iL (yn p v l):=by
 induction l with
 |nil=>intro c hc;grind[yn]
 |cons a l ih=>
  unfold yn
  split
  ·intro c hc;rcases List.mem_cons.1 hc with rfl |hc
   ·grind
   ·exact h c (iX _ hc)
  ·intro c hc;rcases List.mem_cons.1 hc with rfl |hc
   ·exact h _ (iK ..)
   ·exact ih (λc hc=>h c (iX _ hc)) c hc
theorem iL.rE:∀{cs l:List Cl},iL l→iL cs→iL (yN l cs):=by
 intro cs
 induction cs with
 |nil=>intro l h _;exact h
 |cons c cs ih=>intro l h hc;exact ih (h.put (hc c (iK ..))) λd hd=>hc d (iX _ hd)
theorem qq0 {most:Nat} {az:List ba} (hw:∀x∈az,iL x.1):∀{cs:List Cl} {lv:List ba},iL cs→(∀x∈lv,iL x.1)→∀x∈(vW most az lv cs).2,iL x.1:=by
 intro cs
 induction cs with
 |nil=>intro lv _ h;exact h
 |cons c cs ih=>
  intro lv hc h;rw[vC]
  split
  ·refine ih (λd hd=>hc d (iX _ hd)) ?_;cases lv with
   |nil=>nofun
   |cons y r=>
    unfold vk;dsimp only
    split
    ·grind
    ·split
     ·grind
     ·intro x hx;rcases List.mem_cons.1 hx with rfl |hx
      ·exact(show iL y.1 from h y (iK ..)).put (hc c (iK ..))
      grind
  grind
theorem mP.take {M:VM} {cs:List Cl} (W:mP M) (hc:iL cs):mP (zq M cs).2:=by
 unfold zq
 split
 ·exact⟨W.k,qq0 W.l hc W.l⟩
 grind
def yA (M:VM) (c b:Int):(Int×Int)×VM :=
 if 2147483648≤b then((0,2),M)else
 if(qi M b).1.2=0 then
  (if(zq (qi M b).2 [(c,(qi M b).1.1),(b-1,c+8)]).1=0 then((b,0),(zq (qi M b).2 [(c,(qi M b).1.1),(b-1,c+8)]).2)
   else((0,(zq (qi M b).2 [(c,(qi M b).1.1),(b-1,c+8)]).1),(zq (qi M b).2 [(c,(qi M b).1.1),(b-1,c+8)]).2))
 else((0,(qi M b).1.2),(qi M b).2)
def yg (M:VM) (c:Int):(Int×Int)×VM :=
 if(qi M 5).1.2=0 then
  (if(qi M 5).1.1<14∨2147483648≤(qi M 5).1.1∨(M.sz:Int)<(qi M 5).1.1+1+yO c then((0,4),(qi M 5).2)
   else if(zq (qi M 5).2 [(5,(qi M 5).1.1+1+yO c),((qi M 5).1.1,c+8)]).1=0 then(((qi M 5).1.1+1,0),(zq (qi M 5).2 [(5,(qi M 5).1.1+1+yO c),((qi M 5).1.1,c+8)]).2)
   else((0,(zq (qi M 5).2 [(5,(qi M 5).1.1+1+yO c),((qi M 5).1.1,c+8)]).1),(zq (qi M 5).2 [(5,(qi M 5).1.1+1+yO c),((qi M 5).1.1,c+8)]).2))
 else((0,(qi M 5).1.2),(qi M 5).2)
def zf (M:VM) (n:Int):(Int×Int)×VM :=
 if zJ n=0 then((0,3),M)else
 if(qi M (zJ n)).1.2=0 then
  (if(qi M (zJ n)).1.1=0 then yg (qi M (zJ n)).2 (zJ n)else yA (qi M (zJ n)).2 (zJ n) (qi M (zJ n)).1.1)
 else((0,(qi M (zJ n)).1.2),(qi M (zJ n)).2)
def ym (w:Int):Int×Bool:=if 1≤w∧w≤4 then(w,false)else if 9≤w∧w≤12 then(w-8,true)else(0,false)
def jr (M:VM) (b:Int):(Int×Bool×Int)×VM :=
 if b≤14∨M.sz≤b then((0,false,2),M)else
 if(qi M (b-1)).1.2=0 then
  (if(ym (qi M (b-1)).1.1).1=0 then((0,false,2),(qi M (b-1)).2)else(((ym (qi M (b-1)).1.1).1,(ym (qi M (b-1)).1.1).2,0),(qi M (b-1)).2))
 else((0,false,(qi M (b-1)).1.2),(qi M (b-1)).2)
def vP (M:VM) (b:Int):Int×VM :=
 if(jr M b).1.2.2=0 then
  (if(jr M b).1.2.1=true then
   (if(zq (jr M b).2 [(b-1,(jr M b).1.1)]).1=0 then(0,eZ (zq (jr M b).2 [(b-1,(jr M b).1.1)]).2 b)else zq (jr M b).2 [(b-1,(jr M b).1.1)])
  else(2,(jr M b).2))
 else((jr M b).1.2.2,(jr M b).2)
def xj (M:VM) (b:Int):Int×VM :=
 if(jr M b).1.2.2=0 then
  (if(jr M b).1.2.1=true then(2,(jr M b).2)else
   if(qi (jr M b).2 (jr M b).1.1).1.2=0 then zq (qi (jr M b).2 (jr M b).1.1).2 [(b,(qi (jr M b).2 (jr M b).1.1).1.1),((jr M b).1.1,b)]
   else((qi (jr M b).2 (jr M b).1.1).1.2,(qi (jr M b).2 (jr M b).1.1).2))
 else((jr M b).1.2.2,(jr M b).2)
theorem ZO {M:VM} {p:Int}:(qi M p).2.sz=M.sz:=by
 grind[qi]
theorem qx3 (w:Int):0≤(ym w).1∧(ym w).1≤4:=by
 grind[ym]
theorem KW (M:VM) (b:Int):0≤(jr M b).1.1∧(jr M b).1.1≤4∧((jr M b).1.2.2=0→14<b∧b<M.sz):=by
 unfold jr
 split
 ·simp
 ·split
  ·split
   all_goals simp_all[qx3,qi]
  grind
theorem Qt {M:VM} {b:Int} (O:cU M):cU (jr M b).2:=by
 grind[jr,xH]
theorem qgB {M:VM} {b:Int} (O:mP M):mP (jr M b).2:=by
 unfold jr
 split
 ·grind
 ·split
  ·split<;>exact O.mf
  ·exact O.mf
theorem qjp {M:VM} {b:Int} (O:cU M) (hf:∀x∈M.lv,x.2.length+1<100000):cU (eZ M b):=by
 refine⟨O.lo,O.hi,qqp O.eR,O.ins,O.un,?_⟩;show∀x∈J3 M.lv b,x.2.length<100000;cases hl:M.lv with
 |nil=>nofun
 |cons y r=>
  rw[hl]at hf;intro x hx;rcases List.mem_cons.1 hx with rfl |hx
  all_goals grind
theorem Gs {n:Nat} (hn:1≤n) {x:Int}:af n 385 [.int .i64 x] h λv h'=>v=.int .i64 (yO x)∧h'=h:=by
 refine ag rfl omQ λk hk=>?_;unfold S385;try simp only[iZ]
 repeat' (first |refine qX ?_ |refine qJ ?_ |(refine qR ?_;try dsimp only) |(refine qf ?_;try dsimp only) |(refine qT ?_;try dsimp only) |(refine qM ?_;try dsimp only) |(refine jT ?_;try dsimp only) |refine qC ?_ |refine qB ?_ |(with_reducible refine qG ?_;try dsimp only) |with_reducible refine qg ?_ |with_reducible refine jQ ?_ |with_reducible refine jg ?_ |refine qS omQ ?_ |refine jK omQ ?_ |refine xT omQ ?_ |refine yT omQ ?_ |refine zS ?_ |refine zu ?_ |refine zK (λhc=>?_) (λhc=>?_) |refine yb (λhc=>?_) (λhc=>?_) |refine yz (λhc=>?_) (λhc=>?_) |refine xF (λhc=>?_) (λhc=>?_) |refine xR (λhc=>?_) (λhc=>?_) |refine xx (λhc=>?_) (λhc=>?_) |refine yD (λhc=>?_) (λhc=>?_))
 ·refine qY ⟨?_,rfl⟩;grind[yO]
 ·refine qY ⟨?_,rfl⟩;grind[yO]
 ·refine N7 omQ<|qY ⟨?_,rfl⟩;rcases(show x=1∨x=2∨x=3∨x=4 by omega)with rfl |rfl |rfl |rfl<;>rfl
theorem qGE {n:Nat} (hn:2≤n) {x:Int}:af n 351 [.int .i64 x] h λv h'=>v=.int .i64 (zJ x)∧h'=h:=by
 refine ag rfl omQ λk hk=>?_;unfold S351;try simp only[iZ]
 repeat' (first |with_reducible refine qX ?_ |with_reducible refine qJ ?_ |(with_reducible refine qR ?_;try dsimp only) |(with_reducible refine qf ?_;try dsimp only) |(with_reducible refine qT ?_;try dsimp only) |(with_reducible refine qM ?_;try dsimp only) |(with_reducible refine jT ?_;try dsimp only) |with_reducible refine qC ?_ |with_reducible refine qB ?_ |(with_reducible refine qG ?_;try dsimp only) |with_reducible refine qg ?_ |with_reducible refine jQ ?_ |with_reducible refine jg ?_ |with_reducible refine qS omQ ?_ |with_reducible refine jK omQ ?_ |with_reducible refine xT omQ ?_ |with_reducible refine yT omQ ?_ |with_reducible refine zS ?_ |with_reducible refine zu ?_ |with_reducible refine zK (λhc=>?_) (λhc=>?_) |with_reducible refine yb (λhc=>?_) (λhc=>?_) |with_reducible refine yz (λhc=>?_) (λhc=>?_) |with_reducible refine xF (λhc=>?_) (λhc=>?_) |with_reducible refine xR (λhc=>?_) (λhc=>?_) |with_reducible refine xx (λhc=>?_) (λhc=>?_) |with_reducible refine yD (λhc=>?_) (λhc=>?_))
 ·refine qY ⟨?_,rfl⟩;grind[zJ]
 ·refine jF (λm s g=>∃i:Int,s=(.int .i64 i,.int .i64 x,())∧1≤i∧i≤5∧(m:Int)=5-i∧g=h∧(1<i→2<x)∧(2<i→4<x)∧(3<i→8<x)∧(4<i→16<x)) ?_ (m:=4) od ⟨1,rfl,by omega,by omega,by rfl,rfl,by omega,by omega,by omega,by omega⟩;rintro m ih s g aY ⟨i,rfl,h1,h2,h3,rfl,h4,h5,h6,h7⟩;dsimp only
  repeat' (first |with_reducible refine qX ?_ |with_reducible refine qJ ?_ |(with_reducible refine qR ?_;try dsimp only) |(with_reducible refine qf ?_;try dsimp only) |(with_reducible refine qT ?_;try dsimp only) |(with_reducible refine qM ?_;try dsimp only) |(with_reducible refine jT ?_;try dsimp only) |with_reducible refine qC ?_ |with_reducible refine qB ?_ |(with_reducible refine qG ?_;try dsimp only) |with_reducible refine qg ?_ |with_reducible refine jQ ?_ |with_reducible refine jg ?_ |refine qS omQ ?_ |refine jK omQ ?_ |refine xT omQ ?_ |refine yT omQ ?_ |refine zS ?_ |refine zu ?_ |refine zK (λhc=>?_) (λhc=>?_) |refine yb (λhc=>?_) (λhc=>?_) |refine yz (λhc=>?_) (λhc=>?_) |refine xF (λhc=>?_) (λhc=>?_) |refine xR (λhc=>?_) (λhc=>?_) |refine xx (λhc=>?_) (λhc=>?_) |refine yD (λhc=>?_) (λhc=>?_))
  ·refine qW (Gs omQ) ?_;rintro v g' ⟨rfl,rfl⟩
   repeat' (first |refine qX ?_ |refine qJ ?_ |(refine qR ?_;try dsimp only) |(refine qf ?_;try dsimp only) |(refine qT ?_;try dsimp only) |(refine qM ?_;try dsimp only) |(with_reducible refine jT ?_;try dsimp only) |with_reducible refine qC ?_ |with_reducible refine qB ?_ |(with_reducible refine qG ?_;try dsimp only) |with_reducible refine qg ?_ |with_reducible refine jQ ?_ |with_reducible refine jg ?_ |with_reducible refine qS omQ ?_ |with_reducible refine jK omQ ?_ |with_reducible refine xT omQ ?_ |with_reducible refine yT omQ ?_ |with_reducible refine zS ?_ |with_reducible refine zu ?_ |with_reducible refine zK (λhc=>?_) (λhc=>?_) |with_reducible refine yb (λhc=>?_) (λhc=>?_) |with_reducible refine yz (λhc=>?_) (λhc=>?_) |with_reducible refine xF (λhc=>?_) (λhc=>?_) |with_reducible refine xR (λhc=>?_) (λhc=>?_) |with_reducible refine xx (λhc=>?_) (λhc=>?_) |with_reducible refine yD (λhc=>?_) (λhc=>?_))
   ·refine qY ⟨?_,rfl⟩;grind[yO,zJ]
   ·refine aY (m-1) _ _ omQ ⟨i+1,rfl,by omega,by omega,by omega,rfl,?_,?_,?_,?_⟩<;>(grind[yO])
  ·refine qY ⟨?_,rfl⟩;grind[zJ]
theorem GW {n:Nat} (hn:1≤n) {c:Int} (hc:0≤c∧c≤4):af n 209 [.int .i64 c] h λv h'=>v=.int .i64 c∧h'=h:=by
 refine ag rfl omQ λk hk=>?_;unfold S209;try simp only[iZ]
 refine qS omQ<|qY ⟨by simp,rfl⟩
theorem qJn {n:Nat} (hn:1≤n) {w:Int}:af n 242 [.int .u64 w] h λv h'=>v=.bm [.int .i64 (ym w).1,.bool (ym w).2]∧h'=h:=by
 refine ag rfl omQ λk hk=>?_;unfold S242;try simp only[iZ]
 unfold ym;by_cases h1:1≤w∧w≤4
 ·rw[iJ h1];refine jA omQ<|qG<|qR<|yq omQ<|qC (qX (zx omQ ?_))
  exact qY ⟨rfl,rfl⟩
 ·rw[iQ h1];by_cases h2:9≤w∧w≤12
  ·rw[iJ h2];refine jA omQ<|qG<|qR<|yY omQ<|qC (qJ (jA omQ ?_));refine qG<|qR<|yq omQ<|qC (qX (yT omQ ?_));refine zx omQ ?_
   exact qY ⟨rfl,rfl⟩
  ·rw[iQ h2]
   repeat' (first |refine qX ?_ |refine qJ ?_ |(refine qR ?_;try dsimp only) |(refine qf ?_;try dsimp only) |(refine qT ?_;try dsimp only) |(refine qM ?_;try dsimp only) |(refine jT ?_;try dsimp only) |refine qC ?_ |refine qB ?_ |(with_reducible refine qG ?_;try dsimp only) |with_reducible refine qg ?_ |with_reducible refine jQ ?_ |with_reducible refine jg ?_ |with_reducible refine qS omQ ?_ |refine jK omQ ?_ |refine xT omQ ?_ |refine yT omQ ?_ |refine zS ?_ |refine zu ?_ |refine qj omQ ?_ |refine qV omQ ?_ |refine jJ omQ ?_ |refine q9 omQ ?_ |refine jB omQ ?_ |refine jk omQ ?_ |refine yq omQ ?_ |refine yY omQ ?_ |refine zv omQ ?_ |refine zV omQ ?_ |refine jA omQ ?_ |refine jz omQ ?_ |refine zK (λhc=>?_) (λhc=>?_) |refine yb (λhc=>?_) (λhc=>?_) |refine yz (λhc=>?_) (λhc=>?_) |refine xF (λhc=>?_) (λhc=>?_) |refine xR (λhc=>?_) (λhc=>?_) |refine xx (λhc=>?_) (λhc=>?_) |refine yD (λhc=>?_) (λhc=>?_))
   all_goals exact qY ⟨rfl,rfl⟩
theorem NI {n:Nat} (hn:10≤n) {v:Nat} {M:VM} {b:Int} (H:HS g h (ab v M::R)) (O:cU M) :
  af n 207 [.ptr v 0,.int .i64 b] h λr h'=>r=.bm [.int .i64 (jr M b).1.1,.bool (jr M b).1.2.1,.int .i64 (jr M b).1.2.2]∧HS g h' (ab v (jr M b).2::R):=by
 refine aG rfl omQ λk hk=>?_;unfold S207;try simp only[iZ]
 unfold jr;by_cases h1:b≤14
 ·rw[iJ (.inl h1)];refine yq omQ<|qG<|qf<|qC (qX ?_)
  exact qY ⟨rfl,H⟩
 ·refine yY omQ<|qG<|qM ?_;(try dsimp only)
  refine qW (U5 omQ H) ?_;rintro _ _ ⟨rfl,rfl⟩;by_cases h2:(M.sz:Int)≤b
  ·rw[iJ (.inr h2)];refine jA omQ<|qB (qX ?_);exact qY ⟨rfl,H⟩
  ·rw[iQ omQ];refine jz omQ<|qB (qJ ?_);have:=O.hi;refine jK omQ (qW (Jy omQ H O) ?_);rintro _ h3 ⟨rfl,H3⟩;simp only[show((1:Nat):Int)=1 from rfl]at H3 ⊢;refine qA rfl<|qA rfl ?_;by_cases h4:(qi M (b-1)).1.2=0
   ·rw[iJ h4];refine q9 omQ<|qJ (qW (qJn omQ) ?_);rintro _ _ ⟨rfl,rfl⟩;refine qA rfl<|qA rfl ?_;by_cases h5:(ym (qi M (b-1)).1.1).1=0
    ·rw[iJ h5];refine qj omQ<|qX<|qY ⟨rfl,H3⟩
    ·rw[iQ h5];refine qV omQ<|qJ<|qY ⟨rfl,H3⟩
   ·rw[iQ h4];refine jJ omQ<|qX<|qY ⟨rfl,H3⟩
theorem qYP {n:Nat} (hn:11≤n) {v:Nat} {M:VM} {b:Int} (H:HS g h (ab v M::R)) (O:cU M) :
  af n 284 [.ptr v 0,.int .i64 b] h λr h'=>r=.int .i64 (vP M b).1∧HS g h' (ab v (vP M b).2::R):=by
 refine aG rfl omQ λk hk=>?_;unfold S284;try simp only[iZ]
 refine qW (NI omQ H O) ?_;rintro _ h1 ⟨rfl,H1⟩;have hb:=KW M b;have hO:=Qt (b:=b) O;have:=O.hi;unfold vP;refine qA rfl<|qA rfl<|qA rfl<|qG ?_;(try dsimp only)
 by_cases h2:(jr M b).1.2.2=0
 ·rw[iJ h2];refine qj omQ<|qG<|qR ?_;(try dsimp only)
  cases h3:(jr M b).1.2.1
  ·rw[iQ aA];refine jg (qC (qX (qG ?_)));refine qV omQ<|qJ (qG ?_);refine qV omQ<|qJ (qg ?_)
   exact qY ⟨rfl,H1⟩
  ·rw[iJ rfl];refine jQ (qC (qJ (qG ?_)));refine qj omQ<|qX (jK omQ ?_);refine zt omQ<|qy rfl ?_
   simp;refine(qr (l:=[.int .i64 (b-1),.int .u64 (jr M b).1.1]) (sz:=2) H1 rfl rfl rfl rfl λv3 h3 H3=>?_);refine qW (Gm (cs:=[(b-1,(jr M b).1.1)]) omQ (H3.ah e_1) hO (.own .here) aA) ?_;rintro _ h4 ⟨rfl,H4⟩;by_cases h5:(zq (jr M b).2 [(b-1,(jr M b).1.1)]).1=0
   ·rw[iJ h5];refine qG<|qj omQ<|qX ?_
    refine qW (qqn omQ H4 (Gx hO)) ?_;intro _ h6 H6;refine qg<|qY ⟨by rw[h5],H6.pk [0] 1⟩
   ·rw[iQ h5];refine qG<|qV omQ<|qJ (qg ?_)
    exact qY ⟨rfl,H4.pk [0] 1⟩
 ·rw[iQ h2];refine qV omQ<|qG<|qT<|qB (qJ (qG ?_));refine qV omQ<|qJ (qG ?_);refine qV omQ<|qJ (qg ?_)
  exact qY ⟨rfl,H1⟩
theorem qYU {n:Nat} (hn:11≤n) {v:Nat} {M:VM} {b:Int} (H:HS g h (ab v M::R)) (O:cU M) :
  af n 162 [.ptr v 0,.int .i64 b] h λr h'=>r=.int .i64 (xj M b).1∧HS g h' (ab v (xj M b).2::R):=by
 refine aG rfl omQ λk hk=>?_;unfold S162;try simp only[iZ]
 refine qW (NI omQ H O) ?_;rintro _ h1 ⟨rfl,H1⟩;have hb:=KW M b;have hO:=Qt (b:=b) O;have:=O.hi;unfold xj;refine qA rfl<|qA rfl<|qA rfl<|qG ?_;(try dsimp only)
 by_cases h2:(jr M b).1.2.2=0
 ·rw[iJ h2];refine qj omQ<|qG<|qR<|qC ?_
  cases h3:(jr M b).1.2.1
  ·rw[iQ aA];refine qJ (q9 omQ ?_);refine qJ (qW (GW omQ omQ) ?_);rintro _ _ ⟨rfl,rfl⟩;refine qW (Jy omQ H1 hO) ?_;rintro _ h4 ⟨rfl,H4⟩;refine qA rfl<|qA rfl ?_;by_cases h5:(qi (jr M b).2 (jr M b).1.1).1.2=0
   ·rw[iJ h5];refine q9 omQ<|qJ (qy rfl ?_);refine qW (GW omQ omQ) ?_;rintro _ _ ⟨rfl,rfl⟩;refine zt omQ<|qy rfl (qr (sz:=2) H4 rfl rfl rfl rfl λv5 h5 H5=>?_);refine qW (Gm (cs:=[(b,(qi (jr M b).2 (jr M b).1.1).1.1),((jr M b).1.1,b)]) omQ (H5.ah e_1) (xH hO) (.own .here) aA) ?_;rintro _ h6 ⟨rfl,H6⟩;refine qg<|qY ⟨rfl,H6.pk [0] 1⟩
   ·rw[iQ h5];refine jJ omQ<|qX (qg ?_);exact qY ⟨rfl,H4⟩
  ·rw[iJ rfl];refine qX (jJ omQ ?_);refine qX (qg ?_);exact qY ⟨rfl,H1⟩
 ·rw[iQ h2];refine qV omQ<|qG<|qT<|qB (qJ (jJ omQ ?_));refine qX (qg ?_)
  exact qY ⟨rfl,H1⟩
theorem qVH {n:Nat} (hn:10≤n) {v:Nat} {M:VM} {c b:Int} (H:HS g h (ab v M::R)) (O:cU M) (hc:1≤c∧c≤4) (hb:0≤b) :
  af n 352 [.ptr v 0,.int .i64 c,.int .u64 b] h λr h'=>r=.bm [.int .i64 (yA M c b).1.1,.int .i64 (yA M c b).1.2]∧HS g h' (ab v (yA M c b).2::R):=by
 refine b8 rfl omQ λk hk=>?_;unfold S352;try simp only[iZ]
 unfold yA;by_cases h1:2147483648≤b
 ·rw[iJ h1];refine jA omQ<|qX<|qY ⟨rfl,H⟩
 ·rw[iQ h1];refine jz omQ<|qJ (zx omQ ?_);refine qW (Jy omQ H O) ?_;rintro _ h3 ⟨rfl,H3⟩;refine qA rfl<|qA rfl<|qG ?_;(try dsimp only)
  by_cases h4:(qi M b).1.2=0
  ·rw[iJ h4];refine qj omQ<|qX (qW (GW omQ omQ) ?_);rintro _ _ ⟨rfl,rfl⟩;refine qy rfl (jK omQ (qS omQ (zt omQ (qy rfl ?_))));refine qr H3 rfl rfl rfl rfl λv5 h5 H5=>?_;refine qW (Gm (cs:=[(c,(qi M b).1.1),(b-1,c+8)]) omQ (H5.ah e_1) (xH O) (.own .here) aA) ?_;rintro _ h6 ⟨rfl,H6⟩;by_cases h7:(zq (qi M b).2 [(c,(qi M b).1.1),(b-1,c+8)]).1=0
   ·rw[iJ h7];refine q9 omQ<|qJ (qg ?_);exact qY ⟨rfl,H6.pk [0] 1⟩
   ·rw[iQ h7];refine jJ omQ<|qX (qg ?_);exact qY ⟨rfl,H6.pk [0] 1⟩
  ·rw[iQ h4];refine qV omQ<|qJ (jJ omQ ?_);refine qX (qg ?_);exact qY ⟨rfl,H3⟩
theorem qVM {n:Nat} (hn:10≤n) {v:Nat} {M:VM} {c:Int} (H:HS g h (ab v M::R)) (O:cU M) (_:mP M) (hc:1≤c∧c≤4) :
  af n 353 [.ptr v 0,.int .i64 c] h λr h'=>r=.bm [.int .i64 (yg M c).1.1,.int .i64 (yg M c).1.2]∧HS g h' (ab v (yg M c).2::R):=by
 refine aG rfl omQ λk hk=>?_;unfold S353;try simp only[iZ]
 unfold yg;refine qW (Jy omQ H O) ?_;rintro _ h3 ⟨rfl,H3⟩;simp only[show((5:Nat):Int)=5 from rfl]at H3 ⊢;have hs:=K5 c;have hO:=O.hi;refine qA rfl<|qA rfl ?_;by_cases h4:(qi M 5).1.2=0
 ·rw[iJ h4];refine q9 omQ<|qJ ?_;have bC:(qi M 5).2.sz=M.sz:=ZO;by_cases h5:(qi M 5).1.1<14∨2147483648≤(qi M 5).1.1∨(M.sz:Int)<(qi M 5).1.1+1+yO c
  ·rw[iJ h5];by_cases h6:(qi M 5).1.1<14
   ·refine jB omQ<|qG<|qf<|qC (qG ?_);refine qf<|qC (qX ?_)
    exact qY ⟨rfl,H3⟩
   ·by_cases h7:2147483648≤(qi M 5).1.1
    ·refine jk omQ<|qG<|qM<|jA omQ<|qB (qG ?_);refine qf<|qC (qX ?_)
     exact qY ⟨rfl,H3⟩
    ·refine jk omQ<|qG<|qM<|jz omQ<|qB (qG ?_);refine qM<|zx omQ<|qS omQ ?_
     refine qW (Gs omQ) ?_;rintro _ _ ⟨rfl,rfl⟩;refine qS omQ<|qW (U5 omQ H3) ?_;rintro _ _ ⟨rfl,rfl⟩;rw[bC];refine zv omQ<|qB (qX ?_);exact qY ⟨rfl,H3⟩
  ·rw[iQ h5];refine jk omQ<|qG<|qM<|jz omQ<|qB (qG ?_);refine qM<|zx omQ<|qS omQ ?_
   refine qW (Gs omQ) ?_;rintro _ _ ⟨rfl,rfl⟩;refine qS omQ<|qW (U5 omQ H3) ?_;rintro _ _ ⟨rfl,rfl⟩;rw[bC];refine zV omQ<|qB (qJ (zx omQ ?_));refine qS omQ<|qW (Gs omQ) ?_;rintro _ _ ⟨rfl,rfl⟩;refine qS omQ (zt omQ (qy rfl (qS omQ (zt omQ (qy rfl ?_)))));refine qr (l:=[.int .i64 5,.int .u64 ((qi M 5).1.1+1+yO c),.int .i64 (qi M 5).1.1,.int .u64 (c+8)]) (sz:=2) H3 rfl rfl rfl rfl λv5 h5 H5=>?_;refine qW (Gm (cs:=[(5,(qi M 5).1.1+1+yO c),((qi M 5).1.1,c+8)]) omQ (H5.ah e_1) (xH O) (.own .here) aA) ?_;rintro _ h6 ⟨rfl,H6⟩;by_cases h7:(zq (qi M 5).2 [(5,(qi M 5).1.1+1+yO c),((qi M 5).1.1,c+8)]).1=0
   ·rw[iJ h7];refine q9 omQ<|qJ (qS omQ ?_);exact qY ⟨rfl,H6.pk [0] 1⟩
   ·rw[iQ h7];refine jJ omQ<|qX<|qY ⟨rfl,H6.pk [0] 1⟩
 ·rw[iQ h4];refine jJ omQ<|qX<|qY ⟨rfl,H3⟩
theorem qKs {n:Nat} (hn:11≤n) {v:Nat} {M:VM} {x:Int} (H:HS g h (ab v M::R)) (O:cU M) (W:mP M) :
  af n 283 [.ptr v 0,.int .i64 x] h λr h'=>r=.bm [.int .i64 (zf M x).1.1,.int .i64 (zf M x).1.2]∧HS g h' (ab v (zf M x).2::R):=by
 refine aG rfl omQ λk hk=>?_;unfold S283;try simp only[iZ]
 refine qW (qGE omQ) ?_;rintro _ _ ⟨rfl,rfl⟩;have hc:=VC x;unfold zf;by_cases h1:zJ x=0
 ·rw[iJ h1];refine qj omQ<|qX<|qY ⟨rfl,H⟩
 ·rw[iQ h1];refine qV omQ<|qJ (qW (GW omQ hc) ?_);rintro _ _ ⟨rfl,rfl⟩;refine qW (Jy omQ H O) ?_;rintro _ h3 ⟨rfl,H3⟩;have hw:=W.read (p:=zJ x);refine qA rfl<|qA rfl ?_;by_cases h4:(qi M (zJ x)).1.2=0
  ·rw[iJ h4];by_cases h5:(qi M (zJ x)).1.1=0
   ·rw[iJ h5];refine q9 omQ<|qJ (q9 omQ ?_);refine qJ (qW (qVM omQ H3 (xH O) W.mf omQ) ?_);rintro _ h6 ⟨rfl,H6⟩;refine qA rfl<|qA rfl<|qY ⟨rfl,H6⟩
   ·rw[iQ h5];refine q9 omQ<|qJ (jJ omQ ?_);refine qX (qW (qVH omQ H3 (xH O) omQ hw.1) ?_);rintro _ h6 ⟨rfl,H6⟩;refine qA rfl<|qA rfl<|qY ⟨rfl,H6⟩
  ·rw[iQ h4];refine jJ omQ<|qX<|qY ⟨rfl,H3⟩
end
section
variable {g h:AH} {L R:List SP}
theorem GQ {n:Nat} (hn:1≤n) {x:Int}:af n 308 [.int .i64 x] h λv h'=>v=.int .i64 (yO x)∧h'=h:=by
 refine ag rfl omQ λk hk=>?_;unfold S308;try simp only[iZ]
 repeat' (first |refine qX ?_ |refine qJ ?_ |(refine qR ?_;try dsimp only) |(refine qf ?_;try dsimp only) |(refine qT ?_;try dsimp only) |(refine qM ?_;try dsimp only) |(refine jT ?_;try dsimp only) |refine qC ?_ |refine qB ?_ |(with_reducible refine qG ?_;try dsimp only) |with_reducible refine qg ?_ |refine jQ ?_ |refine jg ?_ |refine qS omQ ?_ |refine jK omQ ?_ |refine xT omQ ?_ |refine yT omQ ?_ |refine zS ?_ |refine zu ?_ |refine zK (λhc=>?_) (λhc=>?_) |refine yb (λhc=>?_) (λhc=>?_) |refine yz (λhc=>?_) (λhc=>?_) |refine xF (λhc=>?_) (λhc=>?_) |refine xR (λhc=>?_) (λhc=>?_) |refine xx (λhc=>?_) (λhc=>?_) |refine yD (λhc=>?_) (λhc=>?_))
 ·refine qY ⟨?_,rfl⟩;grind[yO]
 ·refine qY ⟨?_,rfl⟩;grind[yO]
 ·refine zt omQ (N7 omQ ?_);refine qY ⟨?_,rfl⟩;rcases(show x=1∨x=2∨x=3∨x=4 by omega)with rfl |rfl |rfl |rfl<;>rfl
theorem qWO {n:Nat} (hn:2≤n) {x:Int}:af n 306 [.int .i64 x] h λv h'=>v=.int .i64 (zJ x)∧h'=h:=by
 refine ag rfl omQ λk hk=>?_;unfold S306;try simp only[iZ]
 repeat' (first |with_reducible refine qX ?_ |with_reducible refine qJ ?_ |(with_reducible refine qR ?_;try dsimp only) |(with_reducible refine qf ?_;try dsimp only) |(with_reducible refine qT ?_;try dsimp only) |(with_reducible refine qM ?_;try dsimp only) |(with_reducible refine jT ?_;try dsimp only) |with_reducible refine qC ?_ |with_reducible refine qB ?_ |(with_reducible refine qG ?_;try dsimp only) |with_reducible refine qg ?_ |with_reducible refine jQ ?_ |with_reducible refine jg ?_ |refine qS omQ ?_ |refine jK omQ ?_ |refine xT omQ ?_ |refine yT omQ ?_ |refine zS ?_ |refine zu ?_ |refine zK (λhc=>?_) (λhc=>?_) |refine yb (λhc=>?_) (λhc=>?_) |refine yz (λhc=>?_) (λhc=>?_) |refine xF (λhc=>?_) (λhc=>?_) |refine xR (λhc=>?_) (λhc=>?_) |refine xx (λhc=>?_) (λhc=>?_) |refine yD (λhc=>?_) (λhc=>?_))
 ·refine qY ⟨?_,rfl⟩;grind[zJ]
 ·refine qY ⟨?_,rfl⟩;grind[zJ]
 ·refine jF (λm s g=>∃i:Int,s=(.int .i64 i,.int .i64 x,())∧1≤i∧i≤4∧(m:Int)=4-i∧g=h∧(1<i→2<x)∧(2<i→4<x)∧(3<i→8<x)) ?_ (m:=3) od ⟨1,rfl,by omega,by omega,by rfl,rfl,by omega,by omega,by omega⟩;rintro m ih s g aY ⟨i,rfl,h1,h2,h3,rfl,h4,h5,h6⟩;dsimp only;refine qW (GQ omQ) ?_;rintro v g' ⟨rfl,rfl⟩
  repeat' (first |with_reducible refine qX ?_ |with_reducible refine qJ ?_ |(with_reducible refine qR ?_;try dsimp only) |(with_reducible refine qf ?_;try dsimp only) |(with_reducible refine qT ?_;try dsimp only) |(with_reducible refine qM ?_;try dsimp only) |(with_reducible refine jT ?_;try dsimp only) |with_reducible refine qC ?_ |with_reducible refine qB ?_ |(with_reducible refine qG ?_;try dsimp only) |with_reducible refine qg ?_ |with_reducible refine jQ ?_ |with_reducible refine jg ?_ |with_reducible refine qS omQ ?_ |with_reducible refine jK omQ ?_ |with_reducible refine xT omQ ?_ |with_reducible refine yT omQ ?_ |with_reducible refine zS ?_ |with_reducible refine zu ?_ |with_reducible refine zK (λhc=>?_) (λhc=>?_) |with_reducible refine yb (λhc=>?_) (λhc=>?_) |with_reducible refine yz (λhc=>?_) (λhc=>?_) |with_reducible refine xF (λhc=>?_) (λhc=>?_) |with_reducible refine xR (λhc=>?_) (λhc=>?_) |with_reducible refine xx (λhc=>?_) (λhc=>?_) |with_reducible refine yD (λhc=>?_) (λhc=>?_))
  ·refine aY (m-1) _ _ ?_ ⟨i+1,rfl,by omega,?_,?_,rfl,?_,?_,?_⟩<;>(grind[yO])
  ·refine qY ⟨?_,rfl⟩;grind[yO,zJ]
theorem Vs {n:Nat} (hn:1≤n) {w:Int} (hw:0≤w):af n 307 [.int .u64 w] h λv h'=>v=.int .i64 (if 2147483648≤w then-1 else w)∧h'=h:=by
 refine ag rfl omQ λk hk=>?_;unfold S307;try simp only[iZ]
 by_cases h1:2147483648≤w
 ·rw[iJ h1];refine jA omQ<|qX<|qY ⟨rfl,rfl⟩
 ·rw[iQ h1];refine jz omQ<|qJ (zx omQ ?_);exact qY ⟨rfl,rfl⟩
def Q6 (w m:Int):Int:=if 1+m≤w∧w≤4+m then w-m else 0
def DB (M:VM) (b m:Int):(Int×Int)×VM :=
 if b≤14∨M.sz≤b then((0,2),M)else
 if(qi M (b-1)).1.2=0 then
  (if Q6 (qi M (b-1)).1.1 m=0 then((0,2),(qi M (b-1)).2)else((Q6 (qi M (b-1)).1.1 m,0),(qi M (b-1)).2))
 else((0,(qi M (b-1)).1.2),(qi M (b-1)).2)
theorem Ub {n:Nat} (hn:4≤n) {o:Nat} {M:VM} {b m:Int} (H:HS g h (aP o M::R)) (O:cU M) (W:mP M) (hm:0≤m∧m≤8) :
  af n 177 [.ptr o 0,.int .i64 b,.int .i64 m] h λr h'=>r=.bm [.int .i64 (DB M b m).1.1,.int .i64 (DB M b m).1.2]∧HS g h' (aP o (DB M b m).2::R):=by
 refine b8 rfl omQ λk hk=>?_;unfold S177;try simp only[iZ]
 have hO:=O.hi;unfold DB;by_cases h1:b≤14
 ·rw[iJ (.inl h1)];refine yq omQ<|qG<|qf<|qC (qX ?_)
  exact qY ⟨rfl,H⟩
 ·have hH:=H;obtain⟨kv,q,H⟩:=aP.E H;by_cases h2:(M.sz:Int)≤b
  ·rw[iJ (.inr h2)];refine yY omQ<|qG<|qM<|qK (qQ (qZ ‹_› .here rfl ?_));refine jA omQ<|qB (qX ?_)
   exact qY ⟨rfl,hH⟩
  ·rw[iQ omQ];refine yY omQ<|qG<|qM<|qK (qQ (qZ ‹_› .here rfl ?_));refine jz omQ<|qB (qJ (jK omQ ?_))
   refine qW (wu omQ hH O) ?_;rintro _ h3 ⟨rfl,H3⟩;simp only[show((1:Nat):Int)=1 from rfl]at H3 ⊢;have hw:=W.read (p:=b-1);generalize(qi M (b-1)).1.1=w at*;refine qA rfl<|qA rfl ?_;by_cases h4:(qi M (b-1)).1.2=0
   ·rw[iJ h4];refine q9 omQ<|qJ (jF (λk s g'=>∃i:Int,s=(.int .i64 i,.int .u64 w,.int .i64 m,())∧1≤i∧i≤5∧(k:Int)=5-i∧HS g g' (aP o (qi M (b-1)).2::R)∧(w<1+m∨i+m≤w)) ?_ (m:=4) od ⟨1,rfl,by omega,by omega,by rfl,H3,by omega⟩);clear H3;rintro k2 ih s g' aY ⟨i,rfl,h1,h2,h3,H3,h5⟩;simp;refine yb (λh6=>qX ?_) λh6=>qJ (qg (qY ?_))
    ·refine qS omQ (zt omQ (xR (λh7=>qX (qg (qY ?_))) λh7=>qJ (qS omQ (aY (k2-1) _ _ omQ ⟨i+1,rfl,by omega,by omega,by omega,H3,by omega⟩))));have Rw:Q6 w m=i:=by simp[Q6];omega
     grind
    ·have Rw:Q6 w m=0:=by unfold Q6;grind
     grind
   ·rw[iQ h4];refine jJ omQ<|qX<|qY ⟨rfl,H3⟩
theorem Vz (w:Int):(ym w).1=0∨(ym w).2=true→Q6 w 0=0:=by
 unfold ym Q6;grind
theorem qQL (w:Int):¬(ym w).1=0→(ym w).2=false→Q6 w 0=(ym w).1:=by
 unfold ym Q6;grind
theorem UR (w:Int):(ym w).1=0∨(ym w).2=false→Q6 w 8=0:=by
 unfold ym Q6;grind
theorem OT (w:Int):¬(ym w).1=0→(ym w).2=true→Q6 w 8=(ym w).1:=by
 unfold ym Q6;grind
theorem qKR {M:VM} {b m:Int} (hm:m=0∨m=8):DB M b m=
  (if(jr M b).1.2.2=0 then(if(jr M b).1.2.1=(decide (m=8))then(((jr M b).1.1,0),(jr M b).2)else((0,2),(jr M b).2))else((0,(jr M b).1.2.2),(jr M b).2)):=by
 unfold DB jr
 split
 ·rfl
 ·split
  ·generalize(qi M (b-1)).1.1=w;rcases hm with rfl |rfl
   ·by_cases h1:(ym w).1=0
    ·rw[Vz w (.inl h1),iJ rfl,iJ h1];rfl
    ·cases h2:(ym w).2
     ·simp_all[qQL]
     ·rw[Vz w (.inr h2),iJ rfl,iQ h1];rfl
   ·by_cases h1:(ym w).1=0
    ·rw[UR w (.inl h1),iJ rfl,iJ h1];rfl
    ·cases h2:(ym w).2
     ·rw[UR w (.inr h2),iJ rfl,iQ h1];rfl
     simp_all[OT]
  rfl
theorem qY8 {n:Nat} (hn:6≤n) {o:Nat} {M:VM} {b:Int} (H:HS g h (aP o M::R)) (O:cU M) (W:mP M) :
  af n 253 [.ptr o 0,.int .i64 b] h λr h'=>r=.int .i64 (vP M b).1∧HS g h' (aP o (vP M b).2::R):=by
 refine aG rfl omQ λk hk=>?_;unfold S253;try simp only[iZ]
 refine qW (Ub omQ H O W omQ) ?_;rintro _ h1 ⟨rfl,H1⟩;have hb:=KW M b;have hO:=Qt (b:=b) O;have iC:=O.hi;rw[show((8:Nat):Int)=8 from rfl]at H1 ⊢;rw[qKR (.inr rfl)]at H1 ⊢;unfold vP;refine qA rfl<|qA rfl ?_;by_cases h2:(jr M b).1.2.2=0
 ·rw[iJ h2]at H1 ⊢;rw[iJ h2];cases h3:(jr M b).1.2.1
  ·rw[h3]at H1
   skip
   exact qY ⟨rfl,H1⟩
  ·rw[h3]at H1;simp only[decide_true,if_true]at H1 ⊢;refine q9 omQ<|qJ (jK omQ ?_);refine zt omQ<|qy rfl ?_;simp;refine(qr (sz:=2) H1 rfl rfl rfl rfl λv3 h3 H3=>?_);refine qW (X6 (cs:=[(b-1,(jr M b).1.1)]) omQ (H3.ah e_1) hO (.own .here) aA) ?_;rintro _ h4 ⟨rfl,H4⟩;by_cases h5:(zq (jr M b).2 [(b-1,(jr M b).1.1)]).1=0
   ·rw[iJ h5];obtain⟨kv,q,H5⟩:=aP.E H4;refine q9 omQ<|qJ (qK (qQ (qZ ‹_› .here rfl ?_)));refine qW (qWa omQ (H5.ah e_2) (Gx hO).eR λx hx=>Nat.lt_trans ((Gx hO).fr x hx) omQ) ?_;intro _ h6 H6;exact qY ⟨rfl,aP.I (M:=eZ (zq (jr M b).2 [(b-1,(jr M b).1.1)]).2 b) (kv:=kv) (q:=q) (H6.pk [1,1,0] 1)⟩
   ·rw[iQ h5];refine jJ omQ<|qX<|qY ⟨rfl,H4.pk [0] 1⟩
 ·rw[iQ h2]at H1 ⊢;rw[iQ h2];refine jJ omQ<|qX<|qY ⟨rfl,H1⟩
theorem qYH {n:Nat} (hn:6≤n) {o:Nat} {M:VM} {b:Int} (H:HS g h (aP o M::R)) (O:cU M) (W:mP M) :
  af n 125 [.ptr o 0,.int .i64 b] h λr h'=>r=.int .i64 (xj M b).1∧HS g h' (aP o (xj M b).2::R):=by
 refine aG rfl omQ λk hk=>?_;unfold S125;try simp only[iZ]
 refine qW (Ub omQ H O W omQ) ?_;rintro _ h1 ⟨rfl,H1⟩;have hb:=KW M b;have hO:=Qt (b:=b) O;have iC:=O.hi;rw[show((0:Nat):Int)=0 from rfl]at H1 ⊢;rw[qKR (.inl rfl)]at H1 ⊢;unfold xj;refine qA rfl<|qA rfl ?_;by_cases h2:(jr M b).1.2.2=0
 ·rw[iJ h2]at H1 ⊢;rw[iJ h2];cases h3:(jr M b).1.2.1
  ·rw[h3]at H1;simp only[show(decide ((0:Int)=8))=false from rfl,if_true]at H1 ⊢;refine q9 omQ<|qJ (qS omQ ?_);refine jK omQ ?_;rw[show((1:Nat):Int)+(jr M b).1.1-((1:Nat):Int)=(jr M b).1.1 by omega];refine qW (wu omQ H1 hO) ?_;rintro _ h4 ⟨rfl,H4⟩;refine qA rfl<|qA rfl ?_;by_cases h5:(qi (jr M b).2 (jr M b).1.1).1.2=0
   ·rw[iJ h5];refine q9 omQ<|qJ (qy rfl ?_);refine zt omQ<|qy rfl ?_;refine(qr (sz:=2) H4 rfl rfl rfl rfl λv5 h5 H5=>?_);refine qW (X6 (cs:=[(b,(qi (jr M b).2 (jr M b).1.1).1.1),((jr M b).1.1,b)]) omQ (H5.ah e_1) (xH hO) (.own .here) aA) ?_;rintro _ h6 ⟨rfl,H6⟩
    skip
    exact qY ⟨rfl,H6.pk [0] 1⟩
   ·rw[iQ h5];refine jJ omQ<|qX<|qY ⟨rfl,H4⟩
  ·rw[h3]at H1
   skip
   exact qY ⟨rfl,H1⟩
 ·rw[iQ h2]at H1 ⊢;rw[iQ h2];refine jJ omQ<|qX<|qY ⟨rfl,H1⟩
theorem qVt {n:Nat} (hn:7≤n) {o:Nat} {M:VM} {x:Int} (H:HS g h (aP o M::R)) (O:cU M) (W:mP M) :
  af n 252 [.ptr o 0,.int .i64 x] h λr h'=>r=.bm [.int .i64 (zf M x).1.1,.int .i64 (zf M x).1.2]∧HS g h' (aP o (zf M x).2::R):=by
 refine aG rfl omQ λk hk=>?_;unfold S252;try simp only[iZ]
 refine qW (qWO omQ) ?_;rintro _ _ ⟨rfl,rfl⟩;have hc:=VC x;unfold zf;by_cases h1:zJ x=0
 ·rw[iJ h1];refine qj omQ<|qX<|qY ⟨rfl,H⟩
 ·rw[iQ h1];refine qV omQ<|qJ (qS omQ ?_);refine jK omQ ?_;rw[show((1:Nat):Int)+zJ x-((1:Nat):Int)=zJ x by omega];refine qW (wu omQ H O) ?_;rintro _ h3 ⟨rfl,H3⟩;have hw:=W.read (p:=zJ x);have DC:=xH (p:=zJ x) O;have W1:=W.mf (p:=zJ x);refine qA rfl<|qA rfl ?_;by_cases h4:(qi M (zJ x)).1.2=0
  ·rw[iJ h4];generalize(qi M (zJ x)).2=M1 at*;generalize(qi M (zJ x)).1.1=b at*;refine q9 omQ<|qJ (qS omQ ?_);refine zt omQ ?_;by_cases h5:b=0
   ·rw[iJ h5];refine q9 omQ<|qJ ?_;have iC:=DC.hi;have hs:=K5 (zJ x);have bC:(qi M1 5).2.sz=M1.sz:=ZO;have hw5:=W1.read (p:=5);unfold yg;refine qW (wu omQ H3 DC) ?_;rintro _ h6 ⟨rfl,H6⟩;simp only[show((5:Nat):Int)=5 from rfl]at H6 ⊢;refine qA rfl<|qA rfl ?_;by_cases h6:(qi M1 5).1.2=0
    ·rw[iJ h6];refine q9 omQ<|qJ (qW (Vs omQ hw5.1) ?_);rintro _ _ ⟨rfl,rfl⟩;have hO5:=xH (p:=5) DC;by_cases h7:(qi M1 5).1.1<14∨2147483648≤(qi M1 5).1.1∨(M1.sz:Int)<(qi M1 5).1.1+1+yO (zJ x)
     ·rw[iJ h7];by_cases h8:2147483648≤(qi M1 5).1.1
      ·rw[iJ h8];refine qG<|jB omQ<|qf<|qC (qX ?_)
       exact qY ⟨rfl,H6⟩
      ·rw[iQ h8];by_cases h9:(qi M1 5).1.1<14
       ·refine qG<|jB omQ<|qf<|qC (qX ?_)
        exact qY ⟨rfl,H6⟩
       ·refine qG<|jk omQ<|qM<|qS omQ ?_
        refine qW (GQ omQ) ?_;rintro _ _ ⟨rfl,rfl⟩;have hH:=H6;obtain⟨kv,q,H7⟩:=aP.E H6;rw[bC]at H7;refine qS omQ<|qK (qQ (qZ ‹_› .here rfl ?_));refine zv omQ<|qB (qu ‹_› .here rfl ‹_› .here rfl (HS.lt ‹_› .here) ?_);refine qX<|qY ⟨rfl,hH⟩
     ·rw[iQ h7,iQ omQ];refine qG<|jk omQ<|qM<|qS omQ ?_
      refine qW (GQ omQ) ?_;rintro _ _ ⟨rfl,rfl⟩;obtain⟨kv,q,H7⟩:=aP.E H6;rw[bC]at H7;refine qS omQ<|qK (qQ (qZ ‹_› .here rfl ?_));refine zV omQ<|qB (qu ‹_› .here rfl ‹_› .here rfl (HS.lt ‹_› .here) ?_);refine qJ (qS omQ ?_);refine qW (GQ omQ) ?_;rintro _ _ ⟨rfl,rfl⟩;clear H7;refine qS omQ<|zt omQ<|qy rfl<|qy rfl<|qr H6 rfl rfl rfl rfl λv5 h5 H5=>?_;refine qW (X6 (cs:=[(5,(qi M1 5).1.1+1+yO (zJ x)),((qi M1 5).1.1,zJ x+8)]) omQ (H5.ah e_1) hO5 (.own .here) aA) ?_;rintro _ h6 ⟨rfl,H6⟩;by_cases h7:(zq (qi M1 5).2 [(5,(qi M1 5).1.1+1+yO (zJ x)),((qi M1 5).1.1,zJ x+8)]).1=0
      ·rw[iJ h7];refine q9 omQ<|qJ (qS omQ ?_);exact qY ⟨rfl,H6.pk [0] 1⟩
      ·rw[iQ h7];refine jJ omQ<|qX<|qY ⟨rfl,H6.pk [0] 1⟩
    ·rw[iQ h6];refine jJ omQ<|qX<|qY ⟨rfl,H6⟩
   ·rw[iQ h5];refine jJ omQ<|qX (qW (Vs omQ hw.1) ?_);rintro _ _ ⟨rfl,rfl⟩;unfold yA;by_cases h6:2147483648≤b
    ·rw[iJ h6,iJ h6];refine qW (wu omQ H3 DC) ?_;rintro _ h7 ⟨rfl,H7⟩;have hr:qi M1 (-1)=((0,2),M1):=by rfl
     rw[hr]at H7 ⊢;refine qA rfl<|qA rfl<|qY ⟨rfl,H7⟩
    ·rw[iQ h6,iQ h6];refine qW (wu omQ H3 DC) ?_;rintro _ h7 ⟨rfl,H7⟩;refine qA rfl<|qA rfl ?_;by_cases h8:(qi M1 b).1.2=0
     ·rw[iJ h8];refine q9 omQ<|qJ (qy rfl ?_);refine jK omQ<|qy rfl ?_;simp;refine qr (n:=2) (l:=[.int .i64 (zJ x),.int .u64 (qi M1 b).1.1,.int .i64 (b-1),.int .u64 (zJ x+8)]) (sz:=2) H7 rfl rfl rfl rfl λv5 h5 H5=>?_;refine qW (X6 (cs:=[(zJ x,(qi M1 b).1.1),(b-1,zJ x+8)]) omQ (H5.ah e_1) (xH DC) (.own .here) aA) ?_;rintro _ h6 ⟨rfl,H6⟩;by_cases h7:(zq (qi M1 b).2 [(zJ x,(qi M1 b).1.1),(b-1,zJ x+8)]).1=0
      ·rw[iJ h7];refine q9 omQ<|qJ<|qY ⟨rfl,H6.pk [0] 1⟩
      ·rw[iQ h7];refine jJ omQ<|qX<|qY ⟨rfl,H6.pk [0] 1⟩
     ·rw[iQ h8];refine jJ omQ<|qX<|qY ⟨rfl,H7⟩
  ·rw[iQ h4];refine jJ omQ<|qX<|qY ⟨rfl,H3⟩
end
section
def jt (x lo hi:Int):Int:=lo+(if x.tmod (hi-lo+1)<0 then x.tmod (hi-lo+1)+(hi-lo+1)else x.tmod (hi-lo+1))
theorem XK (x:Int) {m:Int} (hm:0<m):-m<x.tmod m∧x.tmod m<m:=by refine⟨?_,Int.tmod_lt_of_pos x hm⟩;have:=Int.tmod_lt_of_pos (-x) hm;simp at*;omega
theorem zm (x:Int) {lo hi:Int} (h:lo≤hi):lo≤jt x lo hi∧jt x lo hi≤hi:=by
 have:=XK x (show 0<hi-lo+1 by omega);grind[jt]
theorem zr {n:Nat} (hn:1≤n) {x lo hi:Int} {h:AH} (h1:lo≤hi) (h2:-1000000000≤lo) (h3:hi≤1000000000) :
  af n 6 [.int .i64 x,.int .i64 lo,.int .i64 hi] h λv h'=>v=.int .i64 (jt x lo hi)∧h'=h:=by
 refine b8 rfl omQ λk hk=>?_;unfold S6;try simp only[iZ]
 simp;have hb:=XK x (show 0<hi-lo+1 by omega);unfold jt
 repeat' (first |(first |with_reducible refine qX ?_ |with_reducible refine qJ ?_ |(refine qR ?_;try dsimp only) |(refine qf ?_;try dsimp only) |(refine qT ?_;try dsimp only) |(refine qM ?_;try dsimp only) |(refine jT ?_;try dsimp only) |refine qC ?_ |refine qB ?_ |(with_reducible refine qG ?_;try dsimp only) |with_reducible refine qg ?_ |with_reducible refine jQ ?_ |with_reducible refine jg ?_ |refine qS omQ ?_ |refine jK omQ ?_ |refine xT omQ ?_ |refine yT omQ ?_ |refine zS ?_ |refine zu ?_) |refine ga omQ ?_ |(first |refine zK (λhc=>?_) (λhc=>?_) |refine yb (λhc=>?_) (λhc=>?_) |refine yz (λhc=>?_) (λhc=>?_) |refine xF (λhc=>?_) (λhc=>?_) |refine xR (λhc=>?_) (λhc=>?_) |refine xx (λhc=>?_) (λhc=>?_) |refine yD (λhc=>?_) (λhc=>?_)))
 all_goals refine qY ⟨?_,rfl⟩
 all_goals grind
end
section
theorem qjO {D1 D2:Nat→Prop} {n p q:Nat} (hn:1≤n) {a b:AV} {xs ys:List Int} {h:AH} (S1:Sl D1 h 1 p a (xs.map (.int .i64))) (S2:Sl D2 h 1 q b (ys.map (.int .i64))) (hp:p<1000000000) :
  af n 60 [a,b] h λv h'=>v=.bool (decide (xs=ys))∧h'=h:=by
 have mY:xs.length=p:=by simpa using S1.len
 have hS:ys.length=q:=by simpa using S2.len
 refine aG rfl omQ λk hk=>?_;unfold S60;try simp only[iZ]
 refine zH S1 (zH S2 (xx (λbG=>?_) λmK=>?_))
 ·refine qX (qY ⟨?_,rfl⟩);rw[iV];grind
 ·refine qJ (jF (λm s g=>∃i:Nat,s=(.int .i64 (i:Int),b,a,())∧i≤p∧m=p-i∧g=h∧xs.take i=ys.take i) ?_ omQ ⟨0,rfl,by omega,by rfl,rfl,rfl⟩);rintro m ih s g aY ⟨i,rfl,h1,rfl,rfl,h2⟩;refine zH S1 (zK (λae=>qX ?_) λeL=>qJ (qg (qY ⟨?_,rfl⟩)))
  ·have hi:i<p:=by omega
   refine jN S1 (by rw[List.getElem?_map,iW omQ];rfl)<|jN S2 (by rw[List.getElem?_map,iW omQ];rfl)<|xx (λbG=>qX (qg (qY ⟨?_,rfl⟩))) λhe=>qJ (qS omQ ?_)
   ·rw[iV];grind
   ·refine aY (p-(i+1)) _ _ omQ ⟨i+1,rfl,by omega,rfl,rfl,?_⟩;rw[List.take_succ_eq_append_getElem omQ,List.take_succ_eq_append_getElem omQ,h2,he]
  grind
end
section
theorem Od {D1 D2:Nat→Prop} {n p q:Nat} (hn:1≤n) {a b:AV} {xs ys:List Int} {h:AH} (S1:Sl D1 h 1 p a (xs.map (.int .u64))) (S2:Sl D2 h 1 q b (ys.map (.int .u64))) (hp:p<1000000000) :
  af n 20 [a,b] h λv h'=>v=.bool (decide (xs=ys))∧h'=h:=by
 have mY:xs.length=p:=by simpa using S1.len
 have hS:ys.length=q:=by simpa using S2.len
 refine aG rfl omQ λk hk=>?_;unfold S20;try simp only[iZ]
 refine zH S1 (zH S2 (xx (λbG=>?_) λmK=>?_))
 ·refine qX (qY ⟨?_,rfl⟩);rw[iV];grind
 ·refine qJ (jF (λm s g=>∃i:Nat,s=(.int .i64 (i:Int),b,a,())∧i≤p∧m=p-i∧g=h∧xs.take i=ys.take i) ?_ omQ ⟨0,rfl,by omega,by rfl,rfl,rfl⟩);rintro m ih s g aY ⟨i,rfl,h1,rfl,rfl,h2⟩;refine zH S1 (zK (λae=>qX ?_) λeL=>qJ (qg (qY ⟨?_,rfl⟩)))
  ·have hi:i<p:=by omega
   refine jN S1 (by rw[List.getElem?_map,iW omQ];rfl)<|jN S2 (by rw[List.getElem?_map,iW omQ];rfl)<|xx (λbG=>qX (qg (qY ⟨?_,rfl⟩))) λhe=>qJ (qS omQ ?_)
   ·rw[iV];grind
   ·refine aY (p-(i+1)) _ _ omQ ⟨i+1,rfl,by omega,rfl,rfl,?_⟩;rw[List.take_succ_eq_append_getElem omQ,List.take_succ_eq_append_getElem omQ,h2,he]
  grind
end
section
theorem G3 {l:List ES} {a b:List AV} {K:AV→Go.Ae.R} {Q:AV→AH→Prop} {neg:Bool} {p:Prop} [Decidable p] (e:xk l a b=some (decide p)) (h1:p→wp (K (.bool (!neg))) Q) (h2:¬p→wp (K (.bool neg)) Q):wp (kU l neg (.agg a) (.agg b) K) Q:=by
 unfold kU;simp only[e,ob];by_cases h:p
 ·have:=h1 h;simpa[h]using this
 ·have:=h2 h;simpa[h]using this
theorem qkA (x y:Cl):xk [.b6 .int 0,.b6 .int 1] (jH x) (jH y)=some (decide (x=y)):=by obtain⟨a,b⟩:=x;obtain⟨a',b'⟩:=y;show(bif eV a a' then(bif eV b b' then some true else some false)else some false)=_;rw[Q8,Q8];by_cases h1:a=a'<;>by_cases h2:b=b'<;>simp[h1,h2]
theorem ZN {D1 D2:Nat→Prop} {n p q:Nat} (hn:1≤n) {a b:AV} {xs ys:List Cl} {h:AH} (S1:Sl D1 h 2 p a (xs.flatMap jH)) (S2:Sl D2 h 2 q b (ys.flatMap jH)) (hp:p<100000000) :
  af n 56 [a,b] h λv h'=>v=.bool (decide (xs=ys))∧h'=h:=by
 have mY:xs.length=p:=by have:=S1.len;rw[vD (sz:=2) jH (λ_=>rfl)]at this;omega
 have hS:ys.length=q:=by have:=S2.len;rw[vD (sz:=2) jH (λ_=>rfl)]at this;omega
 (refine qE rfl omQ λk hk=>?_;show wp (S56 (callT tab qv k) _ _ _) _;unfold S56;try simp only[iI,iZ])
 refine zH S1 (zH S2 (xx (λbG=>?_) λmK=>?_))
 ·refine qX (qY ⟨?_,rfl⟩);rw[iV];grind
 ·refine qJ (jF (λm s g=>∃i:Nat,s=(.int .i64 (i:Int),b,a,())∧i≤p∧m=p-i∧g=h∧xs.take i=ys.take i) ?_ (by show p<1000000000;omega) ⟨0,rfl,by omega,by rfl,rfl,rfl⟩);rintro m ih s g aY ⟨i,rfl,h1,rfl,rfl,h2⟩;refine zH S1 (zK (λae=>qX ?_) λeL=>qJ (qg (qY ⟨?_,rfl⟩)))
  ·have hi:i<p:=by omega
   refine zj (l:=jH xs[i]) S1 hi omQ ?_ ?_
   ·rw[QW (sz:=2) jH (λ_=>rfl),List.drop_eq_getElem_cons omQ,List.flatMap_cons];rfl
   refine zj (l:=jH ys[i]) S2 omQ omQ ?_ ?_
   ·rw[QW (sz:=2) jH (λ_=>rfl),List.drop_eq_getElem_cons omQ,List.flatMap_cons];rfl
   refine G3 (qkA _ _) (λhe=>qJ (qS omQ ?_)) (λbG=>qX (qg (qY ⟨?_,rfl⟩)))
   ·refine aY (p-(i+1)) _ _ omQ ⟨i+1,rfl,by omega,rfl,rfl,?_⟩;rw[List.take_succ_eq_append_getElem omQ,List.take_succ_eq_append_getElem omQ,h2,he]
   ·rw[iV];grind
  grind
end
section
variable {g h:AH} {L R:List SP}
def uV (M M':VM):Prop:=M'.sz=M.sz∧M'.K=M.K∧M'.most=M.most∧(M'.aw=M.aw∨M'.lv=M.lv∧1≤M'.aw∧M'.aw<M.sz∧zc M'.aw M.K=none)
theorem uV.refl (M:VM):uV M M:=⟨rfl,rfl,rfl,.inl rfl⟩
theorem KF {M:VM} {p:Int} (h:(qi M p).1.2=0):(qi M p).2=M:=by
 unfold qi at h ⊢
 grind
theorem UF (M:VM) (p:Int):uV M (qi M p).2:=by
 unfold qi
 split
 ·rename_i h1
  split
  ·exact .refl M
  ·split
   ·exact .refl M
   ·rename_i h3;exact⟨rfl,rfl,rfl,.inr ⟨rfl,h1.1,h1.2,h3⟩⟩
 ·exact .refl M
theorem qv8 (M:VM) (b:Int):uV M (jr M b).2∧((jr M b).1.2.2=0→(jr M b).2=M):=by
 unfold jr
 split
 ·exact⟨.refl M,λ_=>rfl⟩
 grind[UF,KF,absurd]
theorem uW {most:Nat} {lv:List ba} {p v:Int}:bA (vk most lv p v).2=bA lv:=by
 cases lv with
 |nil=>rfl
 |cons x r=>obtain⟨c,hc⟩:=Kq;rw[hc,gE,gE]
theorem qW6 {most:Nat} {az:List ba}:∀{cs:List Cl} {lv:List ba},bA lv=bA az→bA (vW most az lv cs).2=bA az:=by
 intro cs
 induction cs with
 |nil=>intro lv h;exact h
 |cons c cs ih=>
  intro lv h;rw[vC]
  split
  ·exact ih (uW.trans h)
  rfl
theorem wF {M:VM} {cs:List Cl}:bA (zq M cs).2.lv=bA M.lv:=by
 unfold zq
 split
 ·exact qW6 rfl
 rfl
theorem yF {M:VM} {p:Int}:bA (qi M p).2.lv=bA M.lv:=by
 grind[qi]
theorem QV {M:VM} {b:Int}:bA (jr M b).2.lv=bA M.lv:=by
 grind[jr,yF]
theorem qGO {lv:List ba} {b:Int}:bA (J3 lv b)≤bA lv+1:=by
 cases lv with
 |nil=>simp[J3]
 |cons x r=>show bA ((x.1,x.2++[b])::r)≤_;grind[gE,List.length_append]
theorem qwU:∀{lv:List ba} {x:ba},x∈lv→x.2.length≤bA lv:=by
 intro l
 induction l with
 |nil=>simp
 |cons y r ih=>
  intro x hx;rw[gE];grind
structure ju (M:VM):Prop where
  ok:cU M
  wd:mP M
theorem ju.read {M:VM} {p:Int} (G:ju M):ju (qi M p).2:=⟨xH G.ok,G.wd.mf⟩
theorem ju.take {M:VM} {cs:List Cl} (G:ju M) (h:iL cs):ju (zq M cs).2:=⟨Gx G.ok,G.wd.take h⟩
theorem ju.ask {M:VM} {b:Int} (G:ju M):ju (jr M b).2:=⟨Qt G.ok,qgB G.wd⟩
theorem iL.two {a b:Cl} (ha:0≤a.2∧a.2<18446744073709551616) (hb:0≤b.2∧b.2<18446744073709551616):iL [a,b]:=by
 intro c hc;grind
theorem iL.F5 {a:Cl} (ha:0≤a.2∧a.2<18446744073709551616):iL [a]:=by intro c hc;grind
theorem ju.eZ {M:VM} {b:Int} (G:ju M) (hf:bA M.lv<90000):ju (eZ M b):=by
 refine⟨qjp G.ok λx hx=>by have:=qwU hx;omega,G.wd.k,?_⟩;show∀x∈J3 M.lv b,∀c∈x.1,0≤c.2∧c.2<18446744073709551616;have:=G.wd.l;cases hl:M.lv with
 |nil=>nofun
 |cons y r=>
  rw[hl]at this;intro x hx;rcases List.mem_cons.1 hx with rfl |hx
  all_goals grind
theorem ju.free {M:VM} {b:Int} (G:ju M) (hf:bA M.lv<90000):ju (vP M b).2∧bA (vP M b).2.lv≤bA M.lv+1:=by
 have hb:=KW M b;have hc:iL [(b-1,(jr M b).1.1)]:=.F5 ⟨hb.1,by omega⟩;unfold vP
 repeat' split
 ·refine⟨(G.ask.take hc).eZ (by grind[wF,QV]),?_⟩;have:=qGO (lv:=(zq (jr M b).2 [(b-1,(jr M b).1.1)]).2.lv) (b:=b);rw[wF,QV]at this;trivial
 ·exact⟨G.ask.take hc,by simp[wF,QV]⟩
 ·exact⟨G.ask,by simp[QV]⟩
 ·exact⟨G.ask,by simp[QV]⟩
theorem ju.tg {M:VM} {b:Int} (G:ju M):ju (xj M b).2∧bA (xj M b).2.lv=bA M.lv:=by
 have hb:=KW M b;have hO:=G.ok.hi;unfold xj
 split
 ·rename_i h1;have Aq:=hb.2.2 h1
  split
  ·exact⟨G.ask,QV⟩
  ·split
   ·refine⟨(G.ask.read).take (.two G.ask.wd.read ⟨by omega,by omega⟩),by rw[wF,yF,QV]⟩
   ·exact⟨G.ask.read,by rw[yF,QV]⟩
 ·exact⟨G.ask,QV⟩
theorem ju.again {M:VM} {c b:Int} (G:ju M) (hc:0≤c∧c≤4):ju (yA M c b).2∧bA (yA M c b).2.lv=bA M.lv:=by
 have ht:iL [(c,(qi M b).1.1),(b-1,c+8)]:=.two G.wd.read ⟨by omega,by omega⟩;unfold yA
 repeat' split
 ·grind
 ·exact⟨G.read.take ht,by rw[wF,yF]⟩
 ·exact⟨G.read.take ht,by rw[wF,yF]⟩
 ·exact⟨G.read,yF⟩
theorem ju.grown {M:VM} {c:Int} (G:ju M) (hc:0≤c∧c≤4):ju (yg M c).2∧bA (yg M c).2.lv=bA M.lv:=by
 have hs:=K5 c;unfold yg
 split
 ·split
  ·exact⟨G.read,yF⟩
  ·rename_i h1;have ht:iL [(5,(qi M 5).1.1+1+yO c),((qi M 5).1.1,c+8)]:=.two ⟨by omega,by omega⟩ ⟨by omega,by omega⟩
   split
   ·exact⟨G.read.take ht,by rw[wF,yF]⟩
   ·exact⟨G.read.take ht,by rw[wF,yF]⟩
 ·exact⟨G.read,yF⟩
theorem ju.alloc {M:VM} {x:Int} (G:ju M):ju (zf M x).2∧bA (zf M x).2.lv=bA M.lv:=by
 have hc:=VC x;unfold zf
 repeat' split
 ·grind
 ·exact⟨(G.read.grown hc).1,by rw[(G.read.grown hc).2,yF]⟩
 ·exact⟨(G.read.again hc).1,by rw[(G.read.again hc).2,yF]⟩
 ·exact⟨G.read,yF⟩
theorem ju.th {M:VM} (G:ju M):ju (xN M).2∧bA (xN M).2.lv=bA M.lv:=by
 have e:(gg M.lv).2=M.lv∨(gg M.lv).2=([],[])::M.lv:=by grind[gg]
 refine⟨⟨⟨G.ok.lo,G.ok.hi,qzs G.ok.eR,G.ok.ins,G.ok.un,?_⟩,G.wd.k,?_⟩,?_⟩
 ·show∀x∈(gg M.lv).2,_;rcases e with e |e
  ·rw[e];exact G.ok.fr
  ·rw[e];intro x hx;rcases List.mem_cons.1 hx with rfl |hx
   ·simp
   ·exact G.ok.fr x hx
 ·show∀x∈(gg M.lv).2,_;rcases e with e |e
  ·rw[e];exact G.wd.l
  ·rw[e];intro x hx;rcases List.mem_cons.1 hx with rfl |hx
   ·simp
   ·exact G.wd.l x hx
 ·show bA (gg M.lv).2=_;grind[gE]
theorem ju.dy {M:VM} (G:ju M):ju (zN M).2∧bA (zN M).2.lv≤bA M.lv:=by
 have e:(wS M.lv).2=M.lv∨(wS M.lv).2=M.lv.tail:=by grind[wS]
 have hs:∀x∈(wS M.lv).2,x∈M.lv:=by
  grind[List.mem_of_mem_tail]
 refine⟨⟨⟨G.ok.lo,G.ok.hi,qjo G.ok.eR,G.ok.ins,G.ok.un,λx hx=>G.ok.fr x (hs x hx)⟩,G.wd.k,λx hx=>G.wd.l x (hs x hx)⟩,?_⟩;show bA (wS M.lv).2≤_;rcases e with e |e
 ·grind
 ·rw[e];cases M.lv with
  |nil=>simp
  |cons x r=>simp[bA]
theorem ju.A1 {M:VM} (G:ju M) (hf:bA M.lv<90000):ju (vj M).2∧bA (vj M).2.lv=bA M.lv:=by
 have hd:=qQa G.ok.eR;have A3:=λx (hx:x∈(wR M.lv).2)=>qwU hx;obtain⟨sz,K,most,lv,aw⟩:=M;rcases lv with _ |⟨x,_ |⟨y,r⟩⟩
 ·trivial
 ·trivial
 ·have e:=nI (x:=x) (y:=y) (r:=r);refine⟨⟨⟨G.ok.lo,G.ok.hi,hd,G.ok.ins,G.ok.un,λz hz=>?_⟩,G.wd.k,λz hz=>?_⟩,e⟩
  ·have:=A3 z hz;grind
  ·have hl:=G.wd.l;have hx:iL x.1:=hl x aA;have hy:iL y.1:=hl y aA;have hz:z∈(yN y.1 x.1,y.2++x.2)::r:=hz;rcases List.mem_cons.1 hz with rfl |hz
   ·exact hy.rE hx
   grind
end
section
variable {g h:AH} {L R:List SP}
abbrev lM:Type:=Int×Int
def iq (x:lM):List UInt8:=if x.1=1 then Lib.decDigits x.2.toNat else if x.1=2 then(if x.2=1 then[121,101,115]else[110,111])else[110,111,110,101]
def Qu (x:lM):AV:=if x.1=1 then .iface 22 (.int .u64 x.2)else if x.1=2 then .iface 4 (.bool (decide (x.2=1)))else .iface 398 (.agg [])
def DD (x:lM):Prop:=0≤x.2∧x.2<18446744073709551616
def F6 (l:List lM):List UInt8:=Lib.join (l.map iq) [32]
theorem YV (x:lM):One (Qu x):=by unfold Qu;(repeat' split)<;>exact⟨rfl,rfl⟩
theorem VH (l:List lM):jV (l.map Qu)=true:=by unfold jV;rw[List.all_eq_true];intro v hv;obtain⟨x,_,rfl⟩:=List.mem_map.1 hv;exact(YV x).2
theorem MS {s:List UInt8} {k1 k2:IntKind} {lo hi:Nat} {K:AV→Go.Ae.R} {Q:AV→AH→Prop} (h1:lo≤hi) (h2:hi≤s.length) (w:wp (K (.str ((s.drop lo).take (hi-lo)))) Q):wp (gL (.str s) (some (.int k1 (lo:Int))) (some (.int k2 (hi:Int))) K) Q:=by unfold gL;simp only[vZ h2,vZ h1,ob,kP];rw[wG (by grind)];exact w
theorem qxa {n:Nat} (hn:1≤n) {i:Nat} (hi:i<100):af n 257 [.int .i64 (i:Int)] h λr h'=>r=.str (Lib.decDigits i)∧h'=h:=by
 (refine qE rfl omQ λk hk=>?_;show wp (S257 (callT tab qv k) _ _) _;unfold S257;try simp only[iI,iZ])
 by_cases h1:i<10
 ·refine jB omQ (qX ?_);refine qS omQ ?_;rw[show(i:Int)+((1:Nat):Int)=((i+1:Nat):Int) by rfl];refine MS omQ (by simp;omega) (qY ⟨?_,rfl⟩);rw[← Lib.digits36_piece h1]
  rfl
 ·refine jk omQ (qJ ?_);refine N0 omQ (N0 omQ (qS omQ ?_));rw[show(i:Int)*((2:Nat):Int)+((2:Nat):Int)=((i*2+2:Nat):Int) by rfl,show(i:Int)*((2:Nat):Int)=((i*2:Nat):Int) by rfl];refine MS omQ (by simp;omega) (qY ⟨?_,rfl⟩);rw[← Lib.smalls_piece h1 hi]
  congr 2
theorem F7 {n:Nat} (hn:1≤n) {u:Nat} (h1:1≤u) (h2:u<18446744073709551616):af n 258 [.int .u64 (u:Int)] h λr h'=>r=.int .i64 (Lib.nDigits u:Int)∧h'=h:=by refine qE rfl omQ λk hk=>?_;show wp (FV _ [.int .u64 (.ofNat u)] h) _;unfold FV;dsimp only;rw[iY h1,iY (show u+1≤18446744073709551616 by omega)];exact⟨_,_,rfl,rfl,rfl⟩
theorem qjs:∀(bs:List UInt8),Dy (bs.map λc=>.int .u8 (.ofNat c.toNat))=some bs:=by
 intro bs
 induction bs with
 |nil=>rfl
 |cons b bs ih=>rw[List.map_cons];unfold Dy;rw[ih,iY (show b.toNat+1≤256 from b.toNat_lt)];simp
theorem F8 {n:Nat} (hn:1≤n) {b u nd:Nat} {bs:List UInt8} {ys:List AV} (H:HS g h (qx b ((bs.map λc=>.int .u8 (.ofNat c.toNat))++ys)::R)) (hb:bs.length=nd) (h1:u<10 ^ nd) (h2:u<18446744073709551616) (h3:nd≤100) (_:jV ys=true) :
  af n 259 [.slice b 0 nd 24 false,.int .u64 (u:Int)] h λ_ h'=>HS g h' (qx b (tS nd u++ys)::R):=by
 refine qE rfl omQ λk hk=>?_;show wp (FX _ [.slice b 0 nd 24 false,.int .u64 (.ofNat u)] h) _;obtain⟨D,⟨hD,e,A⟩,eI,kk⟩:=H.act;obtain⟨c,c1,c2,c3⟩:=A.bf;unfold FX;simp only[c1,c2];rw[List.take_append_of_le_length (by grind),List.take_of_length_le (by grind),qjs];simp only[];rw[show Nat.beq bs.length nd=true from by simp_all,iY (show u+1≤10 ^ nd by omega),iY (show u+1≤18446744073709551616 by omega),iY h3];simp;rw[List.drop_append_of_le_length (by grind),List.drop_of_length_le (by grind),List.nil_append];refine⟨_,_,rfl,kk _ (qx b (tS nd u++ys)) D ⟨by simp,λa ha hn=>AH.br h _ λe=>hn ((hD a).2 e.symm)⟩ ⟨hD,e,by simp_all,CT.ofList _,AH.aN ..,CT.aD _,CT.bx _⟩ λa ha=>⟨.inl ha,by simp_all⟩⟩
theorem qXE:∀(xs:List (List UInt8)),KM (xs.map .str)=some xs:=by
 intro xs
 induction xs with
 |nil=>rfl
 |cons x xs ih=>simp_all[List.map_cons,KM]
theorem qgc {n:Nat} (hn:1≤n) {b m:Nat} {e:TypeId} {xs:List (List UInt8)} {sep:List UInt8} (H:HS g h (Cell b (xs.map .str) e false::R)) (hm:xs.length=m) (h1:m≤1000000) (h2:(Lib.join xs sep).length≤1000000) :
  af n 144 [.slice b 0 m m false,.str sep] h λr h'=>r=.str (Lib.join xs sep)∧h'=h:=by
 refine qE rfl omQ λk hk=>?_;show wp (Zi _ [.slice b 0 m m false,.str sep] h) _;obtain⟨D,hD,A⟩:=H.p .here;obtain⟨c,c1,c2,c3⟩:=A.bf;unfold Zi;simp only[c1,c2,List.drop_zero];rw[List.take_of_length_le (by grind),qXE];simp only[];rw[show Nat.beq xs.length m=true from by simp_all,iY (Nat.le_refl m),iY h1,iY h2];exact⟨_,_,rfl,rfl,rfl⟩
theorem qWB (nd u:Nat):kB (tS nd u)=some ((List.range nd).map λt=>Lib.dg u (nd-1-t)):=by
 unfold tS;have key:∀l:List Nat,kB (l.map λt=>AV.int .u8 (.ofNat (Lib.dg u (nd-1-t)).toNat))=some (l.map λt=>Lib.dg u (nd-1-t)):=by
  intro l
  induction l with
  |nil=>rfl
  |cons a l ih=>simp_all[List.map_cons,kB]
 grind
theorem qVF {n:Nat} (hn:2≤n) {u:Nat} (h2:u<18446744073709551616) (H:HS g h R):af n 228 [.int .u64 (u:Int),.int .i64 10] h λr h'=>r=.str (Lib.decDigits u)∧HS g h' R:=by
 refine aG rfl omQ λk hk=>?_;unfold S228;try simp only[iZ]
 refine qj rfl (qX ?_);by_cases h1:u<100
 ·refine jB omQ (qX ?_);refine zx omQ<|qW (qxa omQ h1) ?_;rintro _ _ ⟨rfl,rfl⟩;exact qY ⟨rfl,H⟩
 ·refine jk omQ (qJ ?_);refine qH H rfl λb h3 H3=>?_;have hnd:=Lib.nDigits_le20 u h2;have ae:=Lib.lt_pow_nDigits u;have uX:=Lib.decDigits_eq u;refine qW (F7 omQ omQ h2) ?_;generalize Lib.nDigits u=nd at*;have H4:HS g h3 (qx b (((List.replicate nd (0:UInt8)).map λc=>.int .u8 (.ofNat c.toNat))++List.replicate (24-nd) (.int .u8 (.ofNat 0)))::R):=by
   have e:(List.replicate nd (0:UInt8)).map (λc=>AV.int .u8 (.ofNat c.toNat))++List.replicate (24-nd) (AV.int .u8 (.ofNat 0))=List.replicate 24 (AV.int .u8 (.ofNat 0)):=by grind[List.map_replicate,List.replicate,List.replicate_append_replicate]
   simp_all
  rintro _ _ ⟨rfl,rfl⟩;have nl:∀(K:AV→Go.Ae.R) (Q:AV→AH→Prop),wp (K (.slice b 0 nd 24 false)) Q→wp (gT 24 1 (.ptr b 0) none (some (.int .i64 (nd:Int))) K) Q:=by intro K Q w;unfold gT;simp only[vZ (show nd≤24 by omega),ob,show vO none nd 0=some 0 from rfl];exact w
  refine nl _ _<|qW (F8 omQ H4 aA ae h2 omQ (by unfold jV;rw[List.all_eq_true];intro y hy;rw[List.eq_of_mem_replicate hy];rfl)) ?_;intro _ h5 H5;refine nl _ _ ?_;obtain⟨e,A⟩:=H5.obj .here;unfold Xv;dsimp only;rw[Yo A (by simp[JH]),List.drop_zero,List.take_append_of_le_length (by simp[JH]),List.take_of_length_le (by simp[JH])];simp only[ob,qWB];exact qY ⟨by rw[uX],H5.drop⟩
theorem qZ2 {n:Nat} (hn:3≤n) {u:Int} (h0:0≤u) (h2:u<18446744073709551616) (H:HS g h R):af n 189 [.int .u64 u,.int .i64 10] h λr h'=>r=.str (Lib.decDigits u.toNat)∧HS g h' R:=by
 refine aG rfl omQ λk hk=>?_;unfold S189;try simp only
 obtain⟨m,rfl⟩:∃m:Nat,u=m:=⟨u.toNat,by omega⟩;refine qW (qVF omQ omQ H) ?_;rintro _ h3 ⟨rfl,H3⟩;exact qY ⟨rfl,H3⟩
theorem qXS {t:TypeId} {z x:AV} {K:AV→Go.Ae.R} {Q:AV→AH→Prop} (w:wp (K (.bm [x,.bool true])) Q):wp (yx t z (.iface t x) K) Q:=by show wp (bif Nat.beq t t then _ else _) Q;rw[Nat.beq_refl];exact w
theorem Oq {t u:TypeId} {z x:AV} {K:AV→Go.Ae.R} {Q:AV→AH→Prop} (h:Nat.beq u t=false) (w:wp (K (.bm [z,.bool false])) Q):wp (yx t z (.iface u x) K) Q:=by show wp (bif Nat.beq u t then _ else _) Q;rw[h];exact w
theorem qvE {n:Nat} (hn:4≤n) {x:lM} (hx:DD x) (H:HS g h R):af n 143 [Qu x] h λr h'=>r=.str (iq x)∧HS g h' R:=by
 (refine qE rfl omQ λk hk=>?_;show wp (S143 (callT tab qv k) _ _) _;unfold S143;try simp only[iI,uU,iZ])
 unfold Qu iq;by_cases h1:x.1=1
 ·rw[iJ h1,iJ h1];refine qXS (qA rfl (qA rfl (qX ?_)));refine qW (qZ2 omQ hx.1 hx.2 H) ?_;rintro _ h3 ⟨rfl,H3⟩;exact qY ⟨rfl,H3⟩
 ·rw[iQ h1,iQ h1];by_cases h2:x.1=2
  ·rw[iJ h2,iJ h2];refine Oq rfl<|qA rfl (qA rfl (qJ ?_));refine qXS (qA rfl (qA rfl (qX ?_)));by_cases h3:x.2=1
   ·rw[iG h3,iJ h3];exact qX (qY ⟨rfl,H⟩)
   ·rw[iV h3,iQ h3];exact qJ (qY ⟨rfl,H⟩)
  ·rw[iQ h2,iQ h2];refine Oq rfl<|qA rfl (qA rfl (qJ ?_));refine Oq rfl<|qA rfl (qA rfl (qJ (qY ⟨rfl,H⟩)))
theorem Nf (x:lM) (hx:DD x):(iq x).length≤20:=by
 unfold iq;have h2:=hx.2
 split
 ·simp_all[Lib.decDigits_length,Lib.nDigits_le20,omQ]
 grind
theorem Zm {m:Nat}:∀(xs:List (List UInt8)),(∀x∈xs,x.length≤m)→(Lib.join xs [32]).length≤xs.length*(m+1):=by
 intro xs hx;cases xs with
 |nil=>simp[Lib.join_nil]
 |cons x r=>
  rw[Lib.join_cons,List.length_append];have h1:=hx x (iK ..);have h2:∀r:List (List UInt8),(∀x∈r,x.length≤m)→(Lib.joinTail [32] r).length≤r.length*(m+1):=by
   intro r
   induction r with
   |nil=>simp[Lib.joinTail]
   |cons y r ih=>intro h;have a:=h y (iK ..);have b:=ih λz hz=>h z (iX _ hz);unfold Lib.joinTail at*;simp only[List.map_cons,List.flatten_cons,List.length_append,List.length_cons,List.length_nil,Nat.add_mul];omega
  have h3:=h2 r λz hz=>hx z (iX _ hz);grind[List.length_cons,Nat.add_mul]
theorem qxo {l:List lM} (hl:l.length≤1000) (hi:∀x∈l,DD x):(F6 l).length≤1000000:=by unfold F6;have:=Zm (l.map iq) (λy hy=>by obtain⟨x,hx,rfl⟩:=List.mem_map.1 hy;exact Nf x (hi x hx));grind
theorem qY7 {e:TypeId} {z:AV} {n:Nat} {k1 k2:IntKind} {K2:AV→AH→Go.Ae.R} {Q:AV→AH→Prop} (H:HS g h L) (h2:n≤1073741824)
  (w:∀b h',HS g h' (Cell b (List.replicate n z) e false::L)→wp (K2 (.slice b 0 n n false) h') Q):wp (QC h e [z] (.int k1 (n:Int)) (.int k2 (n:Int)) K2) Q:=by
 refine Og (Nat.le_refl n) h2 λb h' hb A F=>w b h' (H.add (D':=λa=>a=b) F.none ⟨λa=>Iff.rfl,by grind[Uh]⟩ ?_);rintro a rfl;exact⟨hb,A.lt⟩
def bz (o:Nat) (l:List lM):SP:=.ex λsv=>.all [qx o [sv],qF 20 1 l.length sv (l.map Qu)]
theorem bz.E {o:Nat} {l:List lM} (H:HS g h (bz o l::R)):∃sv,HS g h (qx o [sv]::qF 20 1 l.length sv (l.map Qu)::R):=by obtain⟨sv,H⟩:=H.dj;exact⟨sv,H.bS⟩
theorem bz.I {o:Nat} {l:List lM} {sv:AV} (H:HS g h (qx o [sv]::qF 20 1 l.length sv (l.map Qu)::R)):HS g h (bz o l::R):=HS.dE sv H.allI
theorem qgI {n:Nat} (hn:5≤n) {o:Nat} {l:List lM} (H:HS g h (bz o l::R)) (hl:l.length≤1000) (hi:∀x∈l,DD x) :
  af n 90 [.ptr o 0] h λr h'=>r=.str (F6 l)∧HS g h' (bz o l::R):=by
 (refine qE rfl omQ λk hk=>?_;show wp (S90 (callT tab qv k) _ _) _;unfold S90;try simp only[iI,iZ])
 obtain⟨sv,H⟩:=bz.E H;refine qK (qQ (qZ ‹_› .here rfl ?_));refine qd ‹_› e_1<|qY7 H omQ λb h2 H2=>?_;refine qK (qQ (qZ ‹_› e_1 rfl ?_));refine qd ‹_› e_2<|jF (λm s h'=>∃i:Nat,s=(.int .i64 (i:Int),.int .i64 (l.length:Int),sv,.slice b 0 l.length l.length false,())∧i≤l.length∧m=l.length-i∧
  HS g h' (Cell b (((l.take i).map λx=>.str (iq x))++List.replicate (l.length-i) (.str [])) 9 false::qx o [sv]::qF 20 1 l.length sv (l.map Qu)::R))
  ?_ (m:=l.length) (by show _<1000000000;omega) ⟨0,rfl,by omega,by rfl,H2⟩
 clear H H2;rintro m ih s h3 aY ⟨i,rfl,h1,rfl,H⟩;by_cases ae:i<l.length
 ·refine jB omQ (qX ?_);refine jN (H.sl e_2) (x:=Qu l[i]) (by grind)<|qW (qvE omQ (hi _ (List.getElem_mem ae)) H) ?_;rintro _ h4 ⟨rfl,H4⟩;refine Ju (k:=.i64) ae<|WH H4 rfl (by grind) rfl λh5 H5=>?_;refine qS omQ (aY (l.length-(i+1)) _ _ omQ ⟨i+1,rfl,by omega,rfl,?_⟩);have e:wL (((l.take i).map λx=>AV.str (iq x))++List.replicate (l.length-i) (.str [])) (0+i*1) (AV.str (iq l[i])).cells=((l.take (i+1)).map λx=>AV.str (iq x))++List.replicate (l.length-(i+1)) (.str []):=by
   rw[Nat.zero_add,Nat.mul_one];show wL _ i [AV.str (iq l[i])]=_;rw[Gr (by grind),List.take_add_one,iW ae,List.map_append,show l.length-i=(l.length-(i+1))+1 by omega,List.replicate_succ,List.set_append_right _ _ (by grind)];have hz:i-((l.take i).map λx=>AV.str (iq x)).length=0:=by grind
   grind
  grind
 ·obtain rfl:i=l.length:=by omega
  refine jk omQ (qJ ?_);rw[Nat.sub_self,List.take_length,List.replicate_zero,List.append_nil]at H;have H2:HS g h3 (Cell b ((l.map iq).map .str) 9 false::qx o [sv]::qF 20 1 l.length sv (l.map Qu)::R):=by rw[List.map_map];exact H
  refine qW (qgc omQ H2 aA omQ (qxo hl hi)) ?_;rintro _ _ ⟨rfl,rfl⟩;exact qg (qY ⟨rfl,bz.I H.drop⟩)
end
section
structure cy where
  op:Int
  pc:Int
  aa:List Int
  told:Nat
structure IM where
  aa:List Int
  out:List lM
  pc:Int
  ay:List cy
structure SM where
  e:Int
  nx:Int
  bf:Bool
  s:IM
  v:VM
def b9 (s:IM) (i v:Int):IM:={ s with aa:=s.aa.set i.toNat v }
def zF (b off:Int):Int×Int:=if 2147483648≤b∨2147483648≤b+off∨b+off<6 then(0,2)else(b+off,0)
def wa (p:Prop) [Decidable p]:Int:=if p then 1 else 0
def jm (s:IM) (V:VM) (x:qe):Int×IM×VM :=
 if x.1=8 then
  (if(zF (qP s.aa x.2.2.1) x.2.2.2.1).2=0 then
   (if(qi V (zF (qP s.aa x.2.2.1) x.2.2.2.1).1).1.2=0 then(0,b9 s x.2.1 (qi V (zF (qP s.aa x.2.2.1) x.2.2.2.1).1).1.1,(qi V (zF (qP s.aa x.2.2.1) x.2.2.2.1).1).2)
    else((qi V (zF (qP s.aa x.2.2.1) x.2.2.2.1).1).1.2,s,(qi V (zF (qP s.aa x.2.2.1) x.2.2.2.1).1).2))
  else(2,s,V))
 else if x.1=9 then
  (if(zF (qP s.aa x.2.1) x.2.2.2.1).2=0 then((zq V [((zF (qP s.aa x.2.1) x.2.2.2.1).1,qP s.aa x.2.2.1)]).1,s,(zq V [((zF (qP s.aa x.2.1) x.2.2.2.1).1,qP s.aa x.2.2.1)]).2)
  else(2,s,V))
 else if x.1=10 then
  (if 2147483648≤qP s.aa x.2.2.1 then(3,s,V)
  else if(zf V (qP s.aa x.2.2.1)).1.2=0 then(0,b9 s x.2.1 (zf V (qP s.aa x.2.2.1)).1.1,(zf V (qP s.aa x.2.2.1)).2)
  else((zf V (qP s.aa x.2.2.1)).1.2,s,(zf V (qP s.aa x.2.2.1)).2))
 else
  (if 2147483648≤qP s.aa x.2.1 then(2,s,V)else((vP V (qP s.aa x.2.1)).1,s,(vP V (qP s.aa x.2.1)).2))
def zW (op at_ nx:Int) (s:IM) (V:VM):SM :=
 if(xN V).1=0 then⟨0,nx,false,{ s with ay:=⟨op,at_,s.aa,s.out.length⟩::s.ay },(xN V).2⟩else⟨(xN V).1,nx,false,s,(xN V).2⟩
def gr (s:IM) (p:cy):IM:={ s with aa:=p.aa,out:=s.out.take p.told }
def xw (mt:List Int):List cy→IM→VM→SM
 |[],s,V=>⟨0,s.pc,true,{ s with ay:=[] },V⟩
 |p::o,s,V=>
  if(zN V).1=0 then
   (if p.op=17 then zW 18 (qP mt p.pc) (qP mt p.pc+1) { gr s p with ay:=o } (zN V).2
   else xw mt o s (zN V).2)
  else⟨(zN V).1,s.pc+1,false,{ s with ay:=o },(zN V).2⟩
def VJ (o:List cy):cy:=(o.head?).getD ⟨0,0,[0,0,0,0,0,0,0,0],0⟩
def yL (mt:List Int) (s:IM) (V:VM) (op:Int):SM :=
 if op=14∨op=17 then zW op s.pc (s.pc+1) s V
 else if op=15∨op=19 then⟨(vj V).1,s.pc+1,false,{ s with ay:=s.ay.tail },(vj V).2⟩
 else if op=18 then⟨(vj V).1,qP mt s.pc+1,false,{ s with ay:=s.ay.tail },(vj V).2⟩
 else if op=16 then⟨(zN V).1,qP mt s.pc+1,false,{ gr s (VJ s.ay)with ay:=s.ay.tail },(zN V).2⟩
 else xw mt s.ay s V
def aZ (mt:List Int) (s:IM) (V:VM) (x:qe):SM :=
 if x.1=1 then⟨0,s.pc+1,false,b9 s x.2.1 x.2.2.2.2,V⟩
 else if x.1=2 then⟨0,s.pc+1,false,b9 s x.2.1 (qP s.aa x.2.2.1),V⟩
 else if x.1=3 then⟨0,s.pc+1,false,b9 s x.2.1 (zC .u64 (qP s.aa x.2.2.1+qP s.aa x.2.2.2.1)),V⟩
 else if x.1=4 then⟨0,s.pc+1,false,b9 s x.2.1 (zC .u64 (qP s.aa x.2.2.1-qP s.aa x.2.2.2.1)),V⟩
 else if x.1=5 then⟨0,s.pc+1,false,b9 s x.2.1 (zC .u64 (qP s.aa x.2.2.1*qP s.aa x.2.2.2.1)),V⟩
 else if x.1=6 then⟨0,s.pc+1,false,b9 s x.2.1 (wa (qP s.aa x.2.2.1<qP s.aa x.2.2.2.1)),V⟩
 else if x.1=7 then⟨0,s.pc+1,false,b9 s x.2.1 (wa (qP s.aa x.2.2.1=qP s.aa x.2.2.2.1)),V⟩
 else if x.1=12 then⟨0,x.2.2.2.1,false,s,V⟩
 else if x.1=13 then⟨0,if qP s.aa x.2.1=0 then x.2.2.2.1 else s.pc+1,false,s,V⟩
 else if x.1=21 then(if 16≤s.out.length then⟨5,s.pc+1,false,s,V⟩else⟨0,s.pc+1,false,{ s with out:=s.out++[(1,qP s.aa x.2.1)] },V⟩)
 else if x.1=22 then⟨13,s.pc+1,false,s,V⟩
 else if x.1=8∨x.1=9∨x.1=10∨x.1=11 then⟨(jm s V x).1,s.pc+1,false,(jm s V x).2.1,(jm s V x).2.2⟩
 else yL mt s V x.1
structure RM where
  kind:Int
  err:Int
  left:Nat
  s:IM
  v:VM
def zw (l:List qe) (mt:List Int):Nat→IM→VM→RM
 | 0,s,V=>if s.pc=l.length then⟨2,0,0,s,V⟩else⟨4,6,0,s,V⟩
 |n+1,s,V=>
  if s.pc=l.length then⟨2,0,n+1,s,V⟩
  else if(aZ mt s V (qU l s.pc)).e=0 then
   (if(aZ mt s V (qU l s.pc)).bf=true then⟨3,0,n,{ (aZ mt s V (qU l s.pc)).s with pc:=(aZ mt s V (qU l s.pc)).nx },(aZ mt s V (qU l s.pc)).v⟩
   else zw l mt n { (aZ mt s V (qU l s.pc)).s with pc:=(aZ mt s V (qU l s.pc)).nx } (aZ mt s V (qU l s.pc)).v)
  else if(aZ mt s V (qU l s.pc)).e=11 then⟨1,0,n+1,(aZ mt s V (qU l s.pc)).s,(aZ mt s V (qU l s.pc)).v⟩
  else⟨4,(aZ mt s V (qU l s.pc)).e,n+1,(aZ mt s V (qU l s.pc)).s,(aZ mt s V (qU l s.pc)).v⟩
theorem wc {l:List qe} {mt:List Int} {s:IM} {V:VM}:zw l mt 0 s V=if s.pc=l.length then⟨2,0,0,s,V⟩else⟨4,6,0,s,V⟩:=rfl
theorem kw {l:List qe} {mt:List Int} {n:Nat} {s:IM} {V:VM}:zw l mt (n+1) s V=if s.pc=l.length then⟨2,0,n+1,s,V⟩
  else if(aZ mt s V (qU l s.pc)).e=0 then
   (if(aZ mt s V (qU l s.pc)).bf=true then⟨3,0,n,{ (aZ mt s V (qU l s.pc)).s with pc:=(aZ mt s V (qU l s.pc)).nx },(aZ mt s V (qU l s.pc)).v⟩
   else zw l mt n { (aZ mt s V (qU l s.pc)).s with pc:=(aZ mt s V (qU l s.pc)).nx } (aZ mt s V (qU l s.pc)).v)
  else if(aZ mt s V (qU l s.pc)).e=11 then⟨1,0,n+1,(aZ mt s V (qU l s.pc)).s,(aZ mt s V (qU l s.pc)).v⟩
  else⟨4,(aZ mt s V (qU l s.pc)).e,n+1,(aZ mt s V (qU l s.pc)).s,(aZ mt s V (qU l s.pc)).v⟩:=rfl
theorem qQc {l:List qe} {mt:List Int} {s:IM} {V:VM} (h0:s.pc=l.length):∀n,zw l mt n s V=⟨2,0,n,s,V⟩:=by
 intro n;cases n with
 |zero=>rw[wc,iJ h0]
 |succ n=>rw[kw,iJ h0]
def qL (l:List qe):Nat→List Int
 | 0=>[]
 |i+1=>jD (qL l i) i (qU l i).1
theorem xq {l:List qe} {i:Nat} (h:i<l.length):qU l (i:Int)=l[i]:=by simp_all[qU,Int.toNat_natCast]
theorem jb {l:List qe} {i:Nat}:qL l (i+1)=jD (qL l i) i (qU l i).1:=rfl
theorem qjE {l:List qe}:∀(d i:Nat) {st':List Int},i+d=l.length→mc l (l.drop i) i (qL l i)=.inr st'→(∀j,i≤j→j<l.length→xJ l (qL l j) (qU l j)=0)∧qL l l.length=st':=by
 intro d
 induction d with
 |zero=>
  intro i st' hi h;obtain rfl:i=l.length:=by omega
  rw[List.drop_length]at h;cases h;grind
 |succ d ih=>
  intro i st' hi h;have ae:i<l.length:=by omega
  rw[GP ae]at h
  split at h
  ·rename_i hw;obtain⟨a,b⟩:=ih (i+1) (st':=st') omQ (by grind[jb,xq]);refine⟨λj h1 h2=>?_,b⟩;by_cases hj:j=i
   ·grind[xq]
   grind
  grind
theorem Mg {l:List qe}:∀(d i:Nat),i+d=l.length→∀k,i+k<l.length→(xc (l.drop i) i (qL l i))[k]? =some (jW (qL l (i+k))):=by
 intro d
 induction d with
 |zero=>grind
 |succ d ih=>
  intro i hi k hk;have ae:i<l.length:=by omega
  rw[MP ae];cases k with
  |zero=>rfl
  |succ k=>rw[List.getElem?_cons_succ];have:=ih (i+1) omQ k omQ;grind[jb,xq]
structure Fit (l:List qe):Prop where
  pos:0<l.length
  le:l.length≤40
  ok:∀j,j<l.length→xJ l (qL l j) (qU l j)=0
  nil:qL l l.length=[]
  rW:∀j,j<l.length→(xc l 0 [])[j]? =some (jW (qL l j))
  jump:∀j,j<l.length→¬JO l (xc l 0 []) j (qU l j)
theorem qK9 {l:List qe} {a:List Int}:∀(d i:Nat),i+d=l.length→(XC l a (l.drop i) i).2=0→∀j,i≤j→j<l.length→¬JO l a j (qU l j):=by
 intro d
 induction d with
 |zero=>grind
 |succ d ih=>
  intro i hi h j h1 h2;have ae:i<l.length:=by omega
  rw[YU ae]at h
  split at h
  ·grind
  ·rename_i hn;by_cases hj:j=i
   ·grind[xq]
   ·exact ih (i+1) omQ h j omQ h2
theorem Kk {l:List qe} (h:(yu l).2=0):Fit l:=by
 have hg:=Vq h;obtain⟨a,b⟩:=qjE l.length 0 (st':=[]) omQ hg;unfold yu at h
 split at h
 ·grind
 ·rename_i h0;rw[hg]at h;dsimp only at h;rw[iJ rfl]at h
  exact⟨by omega,by omega,λj hj=>a j (Nat.zero_le _) hj,b,λj hj=>by
   have:=Mg (l:=l) l.length 0 omQ j omQ;rw[Nat.zero_add]at this
   trivial,λj hj=>qK9 l.length 0 omQ h j (Nat.zero_le _) hj⟩
def F9 (i:Nat) (st:List Int):Prop:=ch i st∧st.Pairwise (· < ·)
theorem YI {l:List qe}:∀i,F9 i (qL l i):=by
 intro i
 induction i with
 |zero=>exact⟨ch.nil,List.Pairwise.nil⟩
 |succ i ih=>
  refine⟨ih.1.behind,?_⟩;rw[jb];have hd:(qL l i).dropLast.Pairwise (· < ·):=ih.2.sublist (List.dropLast_sublist _);have hp:∀st:List Int,ch i st→st.Pairwise (· < ·)→(st++[(i:Int)]).Pairwise (· < ·):=by intro st h1 h2;rw[List.pairwise_append];refine⟨h2,List.pairwise_singleton ..,λa ha b hb=>?_⟩;rw[List.mem_singleton]at hb;subst hb;exact(h1 a ha).2
  unfold jD
  repeat' split
  ·exact hp _ ih.1.dropLast hd
  ·exact hp _ ih.1 ih.2
  ·grind
  ·exact ih.2
theorem Mt {l:List qe}:∀(i k p:Nat),(qL l i)[k]? =some (p:Int)→qL l (p+1)=(qL l i).take (k+1):=by
 intro i
 induction i with
 |zero=>nofun
 |succ i ih=>
  intro k p h;have key:∀st:List Int,(∀k p:Nat,st[k]? =some (p:Int)→qL l (p+1)=st.take (k+1))→qL l (i+1)=st++[(i:Int)]→qL l (p+1)=(qL l (i+1)).take (k+1):=by
   grind
  have nG:∀k p:Nat,(qL l i).dropLast[k]? =some (p:Int)→qL l (p+1)=(qL l i).dropLast.take (k+1):=by
   intro k p h;have hk:=(List.getElem?_eq_some_iff.1 h).1;have hX:k+1≤(qL l i).length-1:=by grind
   have h2:(qL l i)[k]? =some (p:Int):=by
    grind
   rw[ih k p h2,List.dropLast_eq_take,List.take_take,Nat.min_eq_left hX]
  by_cases hb:ze (qU l i).1=true∨(qU l i).1=18
  ·by_cases he:0<zZ (qU l i).1
   ·exact key _ nG (by simp_all[jb,jD])
   ·exact key _ ih (by rw[jb];simp_all[jD,iQ])
  grind[zZ,qU,qL,jb,jD]
theorem vv {l:List qe} {i:Nat} (h:qL l i≠[]):∃p:Nat,jW (qL l i)=p∧p<i∧(qL l i)[(qL l i).length-1]? =some (p:Int)∧qL l (p+1)=qL l i:=by
 have hb:=(YI (l:=l) i).1.dG h;obtain⟨p,hp⟩:∃p:Nat,jW (qL l i)=p:=⟨(jW (qL l i)).toNat,by omega⟩;have hl:0<(qL l i).length:=List.length_pos_iff.2 h;have hk:(qL l i)[(qL l i).length-1]? =some (p:Int):=by rw[← hp];unfold jW;grind
 refine⟨p,hp,by omega,hk,?_⟩;rw[Mt i _ p hk,List.take_of_length_le omQ]
theorem qqH {l:List qe} {i j:Nat} (h:jW (qL l i)=jW (qL l j)):qL l i=qL l j:=by
 by_cases hi:qL l i=[]
 ·grind[qL,vv,Yc]
 ·obtain⟨p,h1,_,_,h2⟩:=vv hi;by_cases hj:qL l j=[]
  all_goals grind[Yc,vv]
def lU (l:List qe) (A:List Int):Nat→List Int
 | 0=>List.replicate l.length (-1)
 |i+1=>if 0<zZ (qU l i).1 then(lU l A i).set (qP A i).toNat i else lU l A i
def eh (l:List qe) (A:List Int):Nat→List Int
 | 0=>lU l A l.length
 |i+1=>if(qU l i).1=16 then(eh l A i).set i (qP (eh l A i) (qP A i))else eh l A i
def qb (l:List qe):List Int:=eh l (xc l 0 []) l.length
theorem Zu {l:List qe} {A:List Int} {i:Nat}:lU l A (i+1)=if 0<zZ (qU l i).1 then(lU l A i).set (qP A i).toNat i else lU l A i:=rfl
theorem Rx {l:List qe} {A:List Int} {i:Nat}:eh l A (i+1)=if(qU l i).1=16 then(eh l A i).set i (qP (eh l A i) (qP A i))else eh l A i:=rfl
theorem Ja {l:List qe} {A:List Int}:∀i,(lU l A i).length=l.length:=by
 intro i
 induction i with
 |zero=>simp[lU]
 |succ i ih=>grind[Zu]
theorem UX {l:List qe} {A:List Int}:∀i,(eh l A i).length=l.length:=by
 intro i
 induction i with
 |zero=>exact Ja _
 |succ i ih=>grind[Rx]
theorem Mn (l:List qe):(qb l).length=l.length:=UX _
theorem vN {l:List qe} (F:Fit l) {j:Nat} (h:j<l.length):qP (xc l 0 []) (j:Int)=jW (qL l j):=by unfold qP;rw[Int.toNat_natCast,F.rW j h];rfl
theorem qxA {l:List qe} {p:Nat}:∀(d i:Nat),p<i→(p:Int)∉qL l i→(p:Int)∉qL l (i+d):=by
 intro d
 induction d with
 |zero=>simp
 |succ d ih=>
  intro i hp h;have h2:=ih i hp h;rw[show i+(d+1)=i+d+1 by rfl,jb];have hd:(p:Int)∉(qL l (i+d)).dropLast:=λhm=>h2 ((List.dropLast_sublist _).subset hm);unfold jD
  grind
theorem Ku {st:List Int} {p:Int} (h:st.Pairwise (· < ·)) (hn:st≠[]) (hp:jW st=p):p∉st.dropLast:=by
 have e:st=st.dropLast++[p]:=by grind[List.dropLast_concat_getLast,jW,List.getLast?_eq_some_getLast]
 rw[e,List.pairwise_append]at h;grind[List.mem_singleton_self]
theorem qjh {l:List qe} {p j:Nat} (he:0<zZ (qU l j).1) (hn:qL l j≠[]) (hp:jW (qL l j)=p):(p:Int)∉qL l (j+1):=by
 have h1:=Ku (YI (l:=l) j).2 hn hp;have h2:=(YI (l:=l) j).1.dG hn;rw[jb];unfold jD;grind
theorem yZ {l:List qe} {st:List Int} {x:qe} (h:xJ l st x=0):gG x=true∧(0<zZ x.1→cg l st=zZ x.1)∧(x.1=16→cg l st=14)∧(ze x.1=true→st.length<5):=by
 have h0:=zi h;unfold xJ at h;grind
theorem Vh {l:List qe} {i:Nat} {p:Nat} (hn:qL l i≠[]) (hp:jW (qL l i)=p):cg l (qL l i)=(qU l p).1:=by simp_all[cg]
theorem Uj {l:List qe} (F:Fit l) {p:Nat} (hp:p<l.length) (ho:(qU l p).1=14∨(qU l p).1=17∨(qU l p).1=18) :
  ∃e:Nat,p<e∧e<l.length∧zZ (qU l e).1=(qU l p).1∧qL l e≠[]∧jW (qL l e)=p∧
   ∀j,j<l.length→0<zZ (qU l j).1→jW (qL l j)=p→j=e:=by
 have cM:(p:Int)∈qL l (p+1):=by rw[jb];unfold jD;rw[iJ (by grind[ze])];simp
 have key:∀d i,p<i→i+d=l.length→(p:Int)∈qL l i→∃e,i≤e∧e<l.length∧(p:Int)∈qL l e∧(p:Int)∉qL l (e+1):=by
  intro d
  induction d with
  |zero=>
   intro i _ hi hm;obtain rfl:i=l.length:=by omega
   rw[F.nil]at hm;grind
  |succ d ih=>
   grind
 obtain⟨e,h1,h2,h3,h4⟩:=key (l.length-(p+1)) (p+1) omQ omQ cM;have bG:qL l e≠[]:=λh=>by grind
 have fH:0<zZ (qU l e).1:=by
  apply Classical.not_not.1;intro hn;apply h4;rw[jb];unfold jD;grind
 have Ha:jW (qL l e)=p:=by
  apply Classical.not_not.1;intro hn;apply h4;have hd:(p:Int)∈(qL l e).dropLast:=by
   have hd:=List.dropLast_concat_getLast bG;rw[← hd]at h3;rcases List.mem_append.1 h3 with h |h
   all_goals grind[List.mem_singleton,jW,List.getLast?_eq_some_getLast]
  rw[jb];unfold jD;grind
 have hw:=(yZ (F.ok e h2)).2.1 fH;rw[Vh bG Ha]at hw;refine⟨e,by omega,h2,hw.symm,bG,Ha,λj hj hje IZ=>?_⟩;have DE:qL l j≠[]:=(zi (F.ok j hj)).2.1 (.inl hje);have hpj:p<j:=by have:=(YI j).1.dG DE;omega
 rcases Nat.lt_trichotomy j e with h |h |h
 ·exfalso;have:=qxA (e-(j+1)) (j+1) omQ (qjh hje DE IZ);grind
 ·grind
 ·exfalso;have h5:=qxA (l:=l) (j-(e+1)) (e+1) omQ h4;grind[jW,List.getLast?_eq_some_getLast,List.getLast_mem]
theorem qjn {l:List qe} (F:Fit l) {p e:Nat} (hp:p<l.length) (he:e<l.length) (hee:0<zZ (qU l e).1) (hi:jW (qL l e)=p)
  (hu:∀j,j<l.length→0<zZ (qU l j).1→jW (qL l j)=p→j=e):∀i,e<i→i≤l.length→(lU l (xc l 0 []) i)[p]? =some (e:Int):=by
 intro i
 induction i with
 |zero=>simp
 |succ i ih=>
  intro h1 h2;rw[Zu];by_cases hie:i=e
  ·subst hie;simp_all[vN,Int.toNat_natCast,Ja]
  ·split
   ·rename_i hx;rw[vN F omQ,List.getElem?_set_ne]
    ·grind
    ·intro hh;have DE:qL l i≠[]:=(zi (F.ok i omQ)).2.1 (.inl hx);have:=(YI i).1.dG DE;grind
   grind
theorem qxI {l:List qe} (_:Fit l) {p:Nat} (hp:(qU l p).1≠16):∀i,(eh l (xc l 0 []) i)[p]? =(lU l (xc l 0 []) l.length)[p]?:=by
 intro i
 induction i with
 |zero=>rfl
 |succ i ih=>
  rw[Rx]
  grind
theorem qqD {l:List qe} (F:Fit l) {u:Nat} (hu:u<l.length) (ho:(qU l u).1=16):∀i,u<i→(eh l (xc l 0 []) i)[u]? =some (qP (eh l (xc l 0 []) u) (jW (qL l u))):=by
 intro i
 induction i with
 |zero=>simp
 |succ i ih=>
  intro h;rw[Rx];by_cases hi:i=u
  ·simp_all[UX,vN]
  grind
theorem gn {l:List qe} (F:Fit l) {p:Nat} (hp:p<l.length) (ho:(qU l p).1=14∨(qU l p).1=17∨(qU l p).1=18) :
  ∃e:Nat,qP (qb l) (p:Int)=e∧p<e∧e<l.length∧zZ (qU l e).1=(qU l p).1∧qL l e=qL l (p+1):=by
 obtain⟨e,h1,h2,h3,h4,h5,h6⟩:=Uj F hp ho;refine⟨e,?_,h1,h2,h3,?_⟩
 ·unfold qP qb;rw[Int.toNat_natCast,qxI F (by grind),qjn F hp h2 (by grind) h5 h6 l.length h2 (Nat.le_refl _)];rfl
 grind[vv]
theorem QF {l:List qe} (F:Fit l) {u:Nat} (hu:u<l.length) (ho:(qU l u).1=16) :
  ∃e:Nat,qP (qb l) (u:Int)=e∧e<l.length∧(qU l e).1=15∧qL l e=qL l u∧qL l u≠[]:=by
 have hn:qL l u≠[]:=(zi (F.ok u hu)).2.1 (.inr ho);obtain⟨q,g1,g2,_,g3⟩:=vv hn;have hw:=(yZ (F.ok u hu)).2.2.1 ho;rw[Vh hn g1]at hw;obtain⟨e,h1,h2,h3,h4,h5,h6⟩:=Uj F omQ (.inl hw);have e0:qP (eh l (xc l 0 []) u) (q:Int)=e:=by unfold qP;rw[Int.toNat_natCast,qxI F (by grind),qjn F omQ h2 (by grind) h5 h6 l.length h2 (Nat.le_refl _)];rfl
 refine⟨e,?_,h2,?_,?_,hn⟩
 ·grind[qb,qP,Int.toNat_natCast,qqD]
 ·rw[hw]at h3;unfold zZ at h3
  grind
 grind[vv]
end
end Go.Proofs.YtpbpkcdebchbbaaGreatDoor
