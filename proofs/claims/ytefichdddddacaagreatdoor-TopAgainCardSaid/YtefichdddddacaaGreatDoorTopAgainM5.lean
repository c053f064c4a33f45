/- Lemmas for 'quietus/quietustop.TopAgain': What is known of a view: by the program;An attempt: by the program: its form, what it tells;An attempt: by the program: its steps;An attempt: by the ... No condition. -/
import Derived.Test.YtefichdddddacaaGreatDoorTopAgainM1
import Derived.Test.YtefichdddddacaaGreatDoorTopAgainM3
import Derived.Test.YtefichdddddacaaGreatDoorTopAgainM4
import Derived.Test.YtefichdddddacaaGreatDoorTopAgainM2
namespace Go.Proofs.YtefichdddddacaaGreatDoor
open Go Go.Ae
set_option maxRecDepth 100000
section
variable {g h:AH} {L R:List SP}
theorem qKl:∀{l:List Cl} {c:Cl},nk l→c∈l→zW c.1 l=some c.2:=by
 intro l
 induction l with
 |nil=>intro c _ h;cases h
 |cons d l ih=>
  intro c hu hc;unfold nk at hu;rw[List.map_cons,List.nodup_cons]at hu;unfold zW;rcases List.mem_cons.1 hc with rfl |hc
  ·rw[iJ rfl]
  ·rw[iQ (λh=>hu.1 (by rw[h];exact List.mem_map.2 ⟨c,hc,rfl⟩))];exact ih hu.2 hc
theorem qV1 {n:Nat} (hn:1≤n) {v:Nat} {M:VM} (H:HS g h (ae v M::R)) (O:dp M) :
  aA n 115 [.ptr v 0] h λr h'=>HS g h' (qB 164 2 M.K.length r (M.K.flatMap jI)::ae v M::R):=by
 refine ay (S:=S115) rfl omQ λk hk=>?_;unfold S115;try simp only[iZ]
 obtain⟨fv,ov,q,e,H⟩:=ae.E H;have Cd:=O.uq;refine qK (qQ (qZ ‹_› .here rfl ?_));refine qo ‹_› e_2 ?_;refine Yd (ln:=0) (cp:=M.K.length) (sz:=2) H rfl omQ omQ λkv h1 H1=>?_;rw[Nat.zero_mul,List.take_zero]at H1;refine qK (qQ (qZ ‹_› e_1 rfl ?_));refine qo ‹_› e_3 ?_
 refine jL (λm s h'=>∃(i:Nat) (kv:AV),s=(.int .i64 (i:Int),.int .i64 (M.K.length:Int),ov,kv,.ptr v 0,())∧i≤M.K.length∧m=M.K.length-i∧
  HS g h' (qB 164 2 i kv ((M.K.take i).flatMap jI)::qA v [fv,ov,.ptr q 0,.int .i64 M.aK]::qB e 2 M.sz fv ((yx M.sz M.K).flatMap QE)::
   qB 3 1 M.K.length ov (M.K.map λc=>.int .i64 c.1)::bR q M.most M.lv::R))
  ?_ (m:=M.K.length) (by show _<1000000000;omega) ⟨0,kv,rfl,by omega,by omega,by rw[List.take_zero];exact H1⟩
 clear H H1;rintro m ih s h2 bG ⟨i,kv,rfl,hi,rfl,H⟩;dsimp only;by_cases au:i<M.K.length
 ·have pp:M.K[i]? =some M.K[i]:=iW au;have dA:=O.ins M.K[i] (List.getElem_mem au);have hg:=qKl O.un (List.getElem_mem au);have CR:M.K.take (i+1)=M.K.take i++[M.K[i]]:=List.take_succ_eq_append_getElem au;generalize hc:M.K[i]=c at*;obtain⟨p,x⟩:=c;dsimp only at dA hg;obtain⟨p,rfl⟩:∃j:Nat,p=(j:Int):=⟨p.toNat,by omega⟩;refine jF omQ ?_;refine qX (jd (H.sl e_3) (x:=.int .i64 (p:Int)) (by rw[List.getElem?_map,pp];rfl) ?_);refine qK (qQ (qZ ‹_› e_1 rfl ?_));have hf:vu M.K p=(x,true):=by unfold vu;rw[hg]
  refine y4 (x:=.int .u64 x) (H.sl e_2) omQ omQ (by rw[J6 (sz:=2) QE (λ_=>rfl) _ _ _ omQ,kp omQ,hf];rfl) ?_;refine qM rfl ?_;refine qm (n:=1) (l:=[.int .i64 (p:Int),.int .u64 x]) (sz:=2) H rfl rfl rfl rfl λv5 h5 H5=>?_;refine ja (H5.aG e_1) (H5.sl .here) omQ omQ rfl λv6 h6 H6=>?_;refine qb omQ ?_;refine bG (M.K.length-(i+1)) _ _ omQ ⟨i+1,v6,rfl,by omega,rfl,?_⟩;rw[CR,List.flatMap_append];exact H6.sub (.cons .here (.drop .refl))
 ·obtain rfl:i=M.K.length:=by omega
  refine jV omQ ?_;refine qJ (qk ?_);rw[List.take_length]at H
  have H2:HS g h2 (qA v [fv,ov,.ptr q 0,.int .i64 M.aK]::qB e 2 M.sz fv ((yx M.sz M.K).flatMap QE)::qB 3 1 M.K.length ov (M.K.map λc=>.int .i64 c.1)::bR q M.most M.lv::
   qB 164 2 M.K.length kv (M.K.flatMap jI)::R):=H.sub (.cons e_1 (.cons e_1 (.cons e_1 (.cons e_1 .refl))))
  exact qG ((ae.I H2).sub (.cons e_1 .refl))
end
section
variable {g h:AH} {L R:List SP}
theorem w9 {c:CV} {l:List (Nat×Nat)} {t:TypeId} {x:AV} {f:Nat} {a:List AV} {K2:AV→AH→Go.Ae.R} {Q Q':AV→AH→Prop} (hf:KJ l t=some f) (w:wp (c (.fn f [] []) (x::a) h) Q') (hk:∀v h',Q' v h'→wp (K2 v h') Q):wp (yj c l (.iface t x) a h K2) Q:=by show wp (Option.rec (motive:=λ_=>Go.Ae.R) none (λf=>ju c (.fn f [] []) (x::a) h K2) (KJ l t)) Q;rw[hf];exact qV w hk
structure ZK where
  rv:AV
  bv:AV
  iv:AV
  fv:AV
  ev:AV
  cv:AV
  gv:Int
  vb:Nat
  db:Nat
def xQ (x:q8) (q:ZK):List AV:=[.int .i64 x.me,.int .i64 x.set.words,.int .i64 x.set.al,.int .i64 x.set.wide,.int .i64 x.set.aa,.int .u64 x.set.start,.int .i64 x.set.af,.int .i64 x.set.writes,.int .i64 x.set.fuel,
 q.rv,q.bv,.int .i64 q.gv,.ptr q.vb 0,.ptr q.db 0,.int .i64 x.state,q.iv,q.fv,q.ev,q.cv,.bool x.begun,.int .u64 x.bV,.int .u64 x.aj,.int .i64 x.fin,.int .i64 x.dB,.int .i64 x.err,.bool x.cj]
def cg (vb:Nat) (j:JX) (rv bv:AV) (gv:Int):SP:=match j with
 | .prog q=>.ex λz:Nat×Int=>.all [.fg (rv=.ptr z.1 0∧bv=.ak∧gv=0),aH z.1 vb q.l 0 (qP q.l) q.s q.err q.fin q.left z.2]
 | .ao bs k=>.all [.fg (rv=.aO∧gv=(k:Int)),qB 3 1 bs.length bv (bs.map (.int .i64))]
def aL (st:Int) (f:QT) (e:QF) (c:Option zq) (iv fv ev cv:AV):SP:=match c with
 |some c=>.ex λb:Nat=>.all [.fg (cv=.ptr b 0∧(st=6→iv=.iface 150 (.ptr b 0))),aB b c]
 |none=>
  if st=3 then .ex λb:Nat=>.all [.fg (cv=.aO∧fv=.ptr b 0∧iv=.iface 148 (.ptr b 0)),qA b (ge f)]
  else if st=4∨st=5 then .ex λb:Nat=>.all [.fg (cv=.aO∧ev=.ptr b 0∧iv=.iface 149 (.ptr b 0)),bX b e]
  else .fg (cv=.aO)
abbrev uI (a:Nat) (x:q8) (q:ZK) (R:List SP):List SP:=qA a (xQ x q)::cg q.vb x.ax q.rv q.bv q.gv::ae q.vb x.v::bW q.db x.r::aL x.state x.f x.e x.c q.iv q.fv q.ev q.cv::R
def aE (a:Nat) (x:q8):SP:=.ex λq:ZK=>.all (uI a x q [])
section
variable {n a:Nat} {x:q8} {q:ZK}
theorem aE.E (H:HS g h (aE a x::R)):∃q,HS g h (uI a x q R):=by obtain⟨q,H⟩:=H.dU;exact⟨q,H.b9⟩
theorem aE.I (H:HS g h (uI a x q R)):HS g h (aE a x::R):=HS.ei q (HS.allI (A:=uI a x q []) H)
theorem qVN (hn:1≤n) (H:HS g h L) (s:aZ L (qA a (xQ x q)) R):aA n 48 [.ptr a 0] h λr h'=>r=.bM [.int .u64 x.bV,.bool x.begun]∧h'=h:=by
 refine ay (S:=S48) rfl omQ λk hk=>?_;unfold S48;try simp only
 refine qK (qQ (qZ H s rfl ?_));refine qK (qQ (qZ H s rfl ?_))
 skip
 exact qG ⟨rfl,rfl⟩
theorem qX1 (hn:1≤n) (H:HS g h L) (s:aZ L (qA a (xQ x q)) R):aA n 80 [.ptr a 0] h λr h'=>r=.int .u64 x.aj∧h'=h:=by
 refine ay (S:=S80) rfl omQ λk hk=>?_;unfold S80;try simp only
 refine qK (qQ (qZ H s rfl ?_))
 skip
 exact qG ⟨rfl,rfl⟩
theorem RE (hn:1≤n) (H:HS g h L) (s:aZ L (qA a (xQ x q)) R):aA n 50 [.ptr a 0] h λr h'=>r=.int .i64 (jT x)∧h'=h:=by
 refine ay (S:=S50) rfl omQ λk hk=>?_;unfold S50;try simp only[iZ]
 refine qK (qQ (qZ H s rfl ?_));unfold jT;by_cases c:x.state=8
 ·rw[iQ (λh=>h c)];refine qs c ?_;refine qJ (qK (qQ (qZ H s rfl ?_)));exact qG ⟨rfl,rfl⟩
 ·rw[iJ c];refine jQ c ?_;refine qX ?_;exact qG ⟨rfl,rfl⟩
theorem qkH (hn:1≤n) (H:HS g h L) (s:aZ L (qA a (xQ x q)) R):aA n 78 [.ptr a 0] h λr h'=>r=.int .i64 (xF x)∧h'=h:=by
 refine ay (S:=S78) rfl omQ λk hk=>?_;unfold S78;try simp only[iZ]
 refine qK (qQ (qZ H s rfl ?_));unfold xF;by_cases c:x.state=8
 ·rw[iQ (λh=>h c)];refine qs c ?_;refine qJ (qK (qQ (qZ H s rfl ?_)));exact qG ⟨rfl,rfl⟩
 ·rw[iJ c];refine jQ c ?_;refine qX ?_;exact qG ⟨rfl,rfl⟩
theorem qgT (hn:1≤n) (H:HS g h L) (s:aZ L (qA a (xQ x q)) R):aA n 75 [.ptr a 0] h λr h'=>r=.int .i64 (ku x)∧h'=h:=by
 refine ay (S:=S75) rfl omQ λk hk=>?_;unfold S75;try simp only[iZ]
 refine qK (qQ (qZ H s rfl ?_));unfold ku;by_cases c:x.state=8
 ·rw[iQ (λh=>h c)];refine qs c ?_;refine qJ (qK (qQ (qZ H s rfl ?_)));exact qG ⟨rfl,rfl⟩
 ·rw[iJ c];refine jQ c ?_;refine qX ?_;exact qG ⟨rfl,rfl⟩
theorem QW {f e y:Int} (hn:1≤n) (H:HS g h (qA a (xQ x q)::R)):aA n 72 [.ptr a 0,.int .i64 f,.int .i64 e,.int .i64 y] h λ_ h'=>HS g h' (qA a (xQ (xy x f e y) q)::R):=by
 refine nL (S:=S72) rfl omQ λk hk=>?_;unfold S72;try simp only[iZ]
 refine qK (qQ (qw H (b:=a) .here ⟨rfl,rfl⟩ (by simp[xQ]) λh1 H1=>?_));refine qK (qQ (qw H1 (b:=a) .here ⟨rfl,rfl⟩ (by simp[xQ]) λh2 H2=>?_));refine qK (qQ (qw H2 (b:=a) .here ⟨rfl,rfl⟩ (by simp[xQ]) λh3 H3=>?_));refine qK (qQ (qw H3 (b:=a) .here ⟨rfl,rfl⟩ (by simp[xQ]) λh4 H4=>?_));exact qG H4
theorem aL.nil {st:Int} {f:QT} {e:QF} {iv fv ev cv:AV} (H:HS g h (aL st f e none iv fv ev cv::R)):cv=.aO∧HS g h R:=by
 unfold aL at H;dsimp only at H
 split at H
 ·obtain⟨b,H⟩:=H.dU;have H:=H.b9;exact⟨H.dZ.1.1,H.drop.drop⟩
 ·split at H
  ·obtain⟨b,H⟩:=H.dU;have H:=H.b9;exact⟨H.dZ.1.1,H.drop.drop⟩
  ·exact H.dZ
theorem aL.fet {f:QT} {e:QF} {iv fv ev cv:AV} (H:HS g h (aL 3 f e none iv fv ev cv::R)):∃b,(cv=.aO∧fv=.ptr b 0∧iv=.iface 148 (.ptr b 0))∧HS g h (qA b (ge f)::R):=by obtain⟨b,H⟩:=(show HS g h (.ex (λb:Nat=>SP.all [.fg (cv=.aO∧fv=.ptr b 0∧iv=.iface 148 (.ptr b 0)),qA b (ge f)])::R)from H).dU;exact⟨b,H.b9.dZ⟩
end
end
section
variable {g h:AH} {L R:List SP}
section
variable {n a:Nat} {x:q8} {q:ZK}
theorem OV {K:AV→Go.Ae.R} {Q:AV→AH→Prop} (w:wp (K (.bool false)) Q):wp (ml .ptr true .aO .aO K) Q:=w
theorem VV {K:AV→Go.Ae.R} {Q:AV→AH→Prop} (w:wp (K (.bool true)) Q):wp (ml .ptr false .aO .aO K) Q:=w
theorem cg.P {vb:Nat} {p:ux} {rv bv:AV} {gv:Int} (H:HS g h (cg vb (.prog p) rv bv gv::R)):∃ib nx,(rv=.ptr ib 0∧bv=.ak∧gv=0)∧HS g h (aH ib vb p.l 0 (qP p.l) p.s p.err p.fin p.left nx::R):=by obtain⟨z,H⟩:=(show HS g h (.ex (λz:Nat×Int=>SP.all [.fg (rv=.ptr z.1 0∧bv=.ak∧gv=0),aH z.1 vb p.l 0 (qP p.l) p.s p.err p.fin p.left z.2])::R)from H).dU;exact⟨z.1,z.2,H.b9.dZ⟩
theorem cg.PI {vb ib:Nat} {p:ux} {nx:Int} {rv bv:AV} {gv:Int} (e:rv=.ptr ib 0∧bv=.ak∧gv=0) (H:HS g h (aH ib vb p.l 0 (qP p.l) p.s p.err p.fin p.left nx::R)):HS g h (cg vb (.prog p) rv bv gv::R) :=
 show HS g h (.ex (λz:Nat×Int=>SP.all [.fg (rv=.ptr z.1 0∧bv=.ak∧gv=0),aH z.1 vb p.l 0 (qP p.l) p.s p.err p.fin p.left z.2])::R)from
  HS.ei (ib,nx) (HS.allI (A:=[_,_]) (HS.eH e H))
theorem cg.S {vb k:Nat} {bs:List Int} {rv bv:AV} {gv:Int} (H:HS g h (cg vb (.ao bs k) rv bv gv::R)):(rv=.aO∧gv=(k:Int))∧HS g h (qB 3 1 bs.length bv (bs.map (.int .i64))::R) :=
 ((show HS g h (SP.all [.fg (rv=.aO∧gv=(k:Int)),qB 3 1 bs.length bv (bs.map (.int .i64))]::R)from H).b9).dZ
theorem cg.SI {vb k:Nat} {bs:List Int} {rv bv:AV} {gv:Int} (e:rv=.aO∧gv=(k:Int)) (H:HS g h (qB 3 1 bs.length bv (bs.map (.int .i64))::R)):HS g h (cg vb (.ao bs k) rv bv gv::R) :=
 show HS g h (SP.all [.fg (rv=.aO∧gv=(k:Int)),qB 3 1 bs.length bv (bs.map (.int .i64))]::R)from HS.allI (A:=[_,_]) (HS.eH e H)
theorem RF {l:List Int} {k:Nat} (h:k<l.length):(l.map (.int .i64))[k]? =some (AV.int .i64 l[k]):=by rw[List.getElem?_map,iW h];rfl
theorem qg0 (hn:16≤n) (hg:jg x.v) (_:bD x.v.lv<9000) (hj:bu True x.v x.ax) (H:HS g h (qA a (xQ x q)::cg q.vb x.ax q.rv q.bv q.gv::ae q.vb x.v::R)) :
  aA n 97 [.ptr a 0] h λr h'=>r=.bM [.int .i64 (yB x).1.1,.int .i64 (yB x).1.2]∧
   ∃gv,HS g h' (qA a (xQ (yB x).2 { q with gv:=gv })::cg q.vb (yB x).2.ax q.rv q.bv gv::ae q.vb (yB x).2.v::R):=by
 refine ay (S:=S97) rfl omQ λk hk=>?_;unfold S97;try simp only[iZ]
 unfold yB;cases hx:x.ax with
 |prog p=>
  rw[hx]at H hj;obtain⟨F,Q,gb,hr,hl⟩:=hj;obtain⟨G,h0,h1,h2⟩:=hr trivial;obtain⟨ib,nx,⟨e1,e2,e3⟩,H1⟩:=cg.P (H.aG e_1);refine qK (qQ (qZ H (b:=a) .here (x:=.ptr ib 0) (by rw[← e1];rfl) ?_));refine Ky (qX (qW ?_))
  try dsimp only
  refine qK (qQ (qZ H (b:=a) .here (x:=.ptr ib 0) (by rw[← e1];rfl) ?_));rw[h0,h1]at H1;refine qV (qvP omQ F Q G h2 omQ (H1.sub (.cons .here (.cons e_1 (.cons .here .refl))))) ?_;rintro _ h3 ⟨rfl,uv,H3⟩;refine qK (qQ (qZ H3 (b:=a) e_2 (x:=.ptr ib 0) (by rw[← e1];rfl) ?_));refine qV (qxl omQ H3) ?_;rintro _ _ ⟨rfl,rfl⟩;refine qc H .here (by rw[← e1];rfl) H3 e_2 (by rw[← e1];rfl) (HS.lt H .here) ?_;refine qG ⟨rfl,0,?_⟩;have H4:=(cg.PI (p:=⟨p.l,(jM p.l (qP p.l) p.left p.s x.v).s,if(jM p.l (qP p.l) p.left p.s x.v).kind=1 then 0 else(jM p.l (qP p.l) p.left p.s x.v).kind,(jM p.l (qP p.l) p.left p.s x.v).err,(jM p.l (qP p.l) p.left p.s x.v).left⟩) ⟨e1,e2,rfl⟩ H3).sub (.cons e_2 (.cons .here (.cons .here .refl)));have eg:xQ x q=xQ x { q with gv:=0 }:=by unfold xQ;rw[e3]
  rw[eg]at H4;exact H4
 |ao bs k=>
  rw[hx]at H hj;obtain⟨⟨e1,e2⟩,H1⟩:=cg.S (H.aG e_1);refine qK (qQ (qZ H (b:=a) .here (x:=.aO) (by rw[← e1];rfl) ?_));refine OV (qJ ?_);have Cd:=hj.1;have Am:=hj.2;dsimp only;generalize hG:jE x.v (bs.drop k) k=G
  refine jL (λm s h'=>s=(.ptr a 0,())∧∃(i:Nat) (V:VM),i≤bs.length∧m=bs.length-i∧jg V∧jE V (bs.drop i) i=G∧
    HS g h' (qA a (xQ x { q with gv:=(i:Int) })::qB 3 1 bs.length q.bv (bs.map (.int .i64))::ae q.vb V::R))
   ?_ (m:=bs.length-k) (by show _<1000000000;omega) ⟨rfl,k,x.v,Cd,rfl,hg,hG,by
    have:q={ q with gv:=(k:Int) }:=by rw[← e2]
    rw[← this]
    exact H1.sub (.cons e_1 (.cons .here .refl))⟩
  clear H H1 hG;rintro m ih s h1 bG ⟨rfl,i,V,hi,rfl,hV,hG,H⟩;dsimp only;refine qK (qQ (qZ H (b:=a) .here rfl ?_));refine qK (qQ (qZ H (b:=a) .here rfl ?_));refine qo H e_1 ?_;by_cases au:i<bs.length
  ·refine jF (by show(i:Int)<_;omega) (qX ?_);refine qK (qQ (qZ H (b:=a) .here rfl ?_));refine qK (qQ (qZ H (b:=a) .here rfl ?_));refine qK (qQ (qZ H (b:=a) .here rfl ?_));refine jd (H.sl e_1) (RF au) ?_;refine qV (qWI (b:=bs[i]) omQ (H.aG e_2) hV.ok) ?_;rintro _ h2 ⟨rfl,H2⟩;rw[List.drop_eq_getElem_cons au]at hG;by_cases h0:(zY V bs[i]).1=0
   ·refine qg h0 (qX ?_);refine qK (qQ (qZ H2 (b:=a) e_1 (x:=.int .i64 (i:Int)) rfl ?_));refine qb omQ ?_;refine qK (qQ ?_);refine qw H2 (b:=a) e_1 ⟨rfl,rfl⟩ (by simp[xQ]) λh3 H3=>?_;refine bG (bs.length-(i+1)) _ _ omQ ⟨rfl,i+1,(zY V bs[i]).2,by omega,rfl,hV.lg.1,?_,H3.sub (.cons .here (.cons e_1 (.cons .here .refl)))⟩;rw[show jE V (bs[i]::bs.drop (i+1)) i=jE (zY V bs[i]).2 (bs.drop (i+1)) (i+1)from iJ h0]at hG;exact hG
   ·rw[show jE V (bs[i]::bs.drop (i+1)) i=((i,(zY V bs[i]).1),(zY V bs[i]).2)from iQ h0]at hG;subst hG;refine qj h0 (qJ ?_);have H3:=(cg.SI (vb:=q.vb) (k:=i) ⟨e1,rfl⟩ (H2.sub (.cons e_2 (.cons e_1 (.cons .here .refl))))).sub (.cons e_1 (.cons .here (.cons .here .refl)));by_cases cD:(zY V bs[i]).1=11
    ·refine qg cD (qX (qk (qG ⟨?_,(i:Int),?_⟩)))
     ·rw[iJ cD];rfl
     ·exact H3
    ·refine qj cD (qJ (qk (qG ⟨?_,(i:Int),?_⟩)))
     ·rw[iQ cD,iQ h0];rfl
     ·exact H3
  ·obtain rfl:i=bs.length:=by omega
   rw[List.drop_length,show jE V [] bs.length=((bs.length,0),V)from rfl]at hG;subst hG;refine jV (by show¬(bs.length:Int)<_;omega) (qJ (qk (qG ⟨rfl,(bs.length:Int),?_⟩)));have H3:=(cg.SI (vb:=q.vb) (k:=bs.length) ⟨e1,rfl⟩ (H.sub (.cons e_1 (.cons .here (.cons .here .refl))))).sub (.cons e_1 (.cons .here (.cons .here .refl)));exact H3
theorem GR {st:Int} {t b:Nat} (hn:1≤n) (H:HS g h (qA a (xQ x q)::R)):aA n 103 [.ptr a 0,.int .i64 st,.iface t (.ptr b 0)] h λ_ h'=>HS g h' (qA a (xQ { x with state:=st } { q with iv:=.iface t (.ptr b 0) })::R):=by
 refine cL (S:=S103) rfl omQ λk hk=>?_;unfold S103;try simp only
 refine qK (qQ (qw H (b:=a) .here ⟨rfl,rfl⟩ (by simp[xQ]) λh1 H1=>?_));refine qK (qQ (qw H1 (b:=a) .here ⟨rfl,rfl⟩ (by simp[xQ]) λh2 H2=>?_));exact qG H2
theorem RG {p:Int} (hn:3≤n) (hp:p<4611686018427387904) (H:HS g h (qA a (xQ x q)::R)):aA n 98 [.ptr a 0,.int .i64 p] h λ_ h'=>
  ∃b,HS g h' (qA b (ge (JQ x p).f)::qA a (xQ (JQ x p) { q with iv:=.iface 148 (.ptr b 0),fv:=.ptr b 0 })::R):=by
 refine ba (S:=S98) rfl omQ λk hk=>?_;unfold S98;try simp only[iZ]
 refine qW ?_
 try dsimp only
 refine qK (qQ (qZ H (b:=a) .here rfl ?_));refine qK (qQ (qi (qi (qZ H (b:=a) .here rfl ?_))));refine qK (qQ (qi (qi (qZ H (b:=a) .here rfl ?_))));refine qV (PV omQ hp) ?_;rintro _ _ ⟨rfl,rfl⟩;refine qK (qQ (qi (qZ H (b:=a) .here rfl ?_)));refine qK (qQ (qZ H (b:=a) .here rfl ?_));refine qV (qkF omQ H) ?_;rintro _ h1 ⟨b,rfl,H1⟩;refine qK (qQ ?_);refine qw H1 (b:=a) e_1 (x:=.ptr b 0) ⟨rfl,rfl⟩ (by simp[xQ]) λh2 H2=>?_;refine qc H .here rfl H .here rfl (HS.lt H .here) ?_;refine qc H .here rfl H .here rfl (HS.lt H .here) ?_;refine qc H .here rfl H .here rfl (HS.lt H .here) ?_;have H3:HS g h2 (qA a (xQ { x with f:=kP x.me p (ofM p x.set.al x.set.wide) x.set.af x.aj } { q with fv:=.ptr b 0 })::qA b (ge (kP x.me p (ofM p x.set.al x.set.wide) x.set.af x.aj))::R):=H2;refine qK (qQ (qZ H3 (b:=a) .here rfl ?_));refine qV (GR omQ H3) λ_ h4 H4=>qG ⟨b,H4.sub (.cons e_1 (.cons .here .refl))⟩
theorem Vb {st:Int} (hn:4≤n) (hr:x.r.length≤16) (H:HS g h (qA a (xQ x q)::bW q.db x.r::R)):aA n 100 [.ptr a 0,.int .i64 st] h λ_ h'=>
  ∃b,HS g h' (bX b (yA x st).e::qA a (xQ (yA x st) { q with iv:=.iface 149 (.ptr b 0),ev:=.ptr b 0 })::bW q.db x.r::R):=by
 refine ba (S:=S100) rfl omQ λk hk=>?_;unfold S100;try simp only
 refine qW ?_
 try dsimp only
 refine qK (qQ (qZ H (b:=a) .here rfl ?_));refine qK (qQ (qi (qZ H (b:=a) .here rfl ?_)));refine qK (qQ (qZ H (b:=a) .here rfl ?_));refine qV (Nl omQ omQ (H.aG e_1)) λv h1 H1=>?_;refine qV (qz3 (me:=x.me) (sp:=x.set.af) (r:=x.r) omQ omQ H1) ?_;rintro _ h2 ⟨b,rfl,H2⟩;refine qK (qQ ?_);refine qw H2 (b:=a) e_2 (x:=.ptr b 0) ⟨rfl,rfl⟩ (by simp[xQ]) λh3 H3=>?_;refine qc H .here rfl H1 e_2 rfl (HS.lt H .here) ?_;refine qc H .here rfl H1 e_2 rfl (HS.lt H .here) ?_;have H4:HS g h3 (qA a (xQ { x with e:=Uh x.me x.set.af x.r } { q with ev:=.ptr b 0 })::bX b (Uh x.me x.set.af x.r)::bW q.db x.r::R):=H3;refine qK (qQ (qZ H4 (b:=a) .here rfl ?_));refine qV (GR omQ H4) λ_ h5 H5=>qG ⟨b,H5.sub (.cons e_1 (.cons .here .refl))⟩
end
end
section
variable {g h:AH} {L R:List SP}
section
variable {st:Int} {f:QT} {e:QF} {c:Option zq} {iv fv ev cv:AV} {b:Nat}
theorem aL.sa (cC:st=3) (hc:c=none) (q:cv=.aO∧fv=.ptr b 0∧iv=.iface 148 (.ptr b 0)) (H:HS g h (qA b (ge f)::R)):HS g h (aL st f e c iv fv ev cv::R):=by subst cC;subst hc;show HS g h (.ex (λb':Nat=>SP.all [.fg (cv=.aO∧fv=.ptr b' 0∧iv=.iface 148 (.ptr b' 0)),qA b' (ge f)])::R);exact HS.ei b (HS.allI (A:=[_,_]) (HS.eH q H))
theorem aL.pK (cC:st=3) (hc:c=none) (H:HS g h (aL st f e c iv fv ev cv::R)):∃b,(cv=.aO∧fv=.ptr b 0∧iv=.iface 148 (.ptr b 0))∧HS g h (qA b (ge f)::R):=by subst cC;subst hc;exact aL.fet H
theorem aL.sc (cC:st=4∨st=5) (hc:c=none) (q:cv=.aO∧ev=.ptr b 0∧iv=.iface 149 (.ptr b 0)) (H:HS g h (bX b e::R)):HS g h (aL st f e c iv fv ev cv::R):=by subst hc;unfold aL;dsimp only;rw[iQ omQ,iJ cC];exact HS.ei b (HS.allI (A:=[_,_]) (HS.eH q H))
theorem aL.nY (cC:st=4∨st=5) (hc:c=none) (H:HS g h (aL st f e c iv fv ev cv::R)):∃b,(cv=.aO∧ev=.ptr b 0∧iv=.iface 149 (.ptr b 0))∧HS g h (bX b e::R):=by subst hc;unfold aL at H;dsimp only at H;rw[iQ omQ,iJ cC]at H;obtain⟨b,H⟩:=H.dU;exact⟨b,H.b9.dZ⟩
theorem aL.s8 (cC:st≠3∧st≠4∧st≠5) (hc:c=none) (q:cv=.aO) (H:HS g h R):HS g h (aL st f e c iv fv ev cv::R):=by subst hc;unfold aL;dsimp only;rw[iQ omQ,iQ omQ];exact HS.eH q H
theorem aL.CS (hc:c=none) (H:HS g h (aL st f e c iv fv ev cv::R)):cv=.aO∧HS g h R:=by subst hc;exact aL.nil H
theorem aL.pL {d:zq} (hc:c=some d) (q:cv=.ptr b 0∧(st=6→iv=.iface 150 (.ptr b 0))) (H:HS g h (aB b d::R)):HS g h (aL st f e c iv fv ev cv::R):=by subst hc;show HS g h (.ex (λb':Nat=>SP.all [.fg (cv=.ptr b' 0∧(st=6→iv=.iface 150 (.ptr b' 0))),aB b' d])::R);exact HS.ei b (HS.allI (A:=[_,_]) (HS.eH q H))
theorem aL.l8 {d:zq} (hc:c=some d) (H:HS g h (aL st f e c iv fv ev cv::R)):∃b,(cv=.ptr b 0∧(st=6→iv=.iface 150 (.ptr b 0)))∧HS g h (aB b d::R):=by subst hc;obtain⟨b,H⟩:=(show HS g h (.ex (λb':Nat=>SP.all [.fg (cv=.ptr b' 0∧(st=6→iv=.iface 150 (.ptr b' 0))),aB b' d])::R)from H).dU;exact⟨b,H.b9.dZ⟩
end
section
variable {n a:Nat} {x:q8} {q:ZK}
theorem ZD (hn:18≤n) (B:w8 x) (hj:bu True x.v x.ax) (hc:x.c=none) (iN:q.cv=.aO) (H:HS g h (qA a (xQ x q)::cg q.vb x.ax q.rv q.bv q.gv::ae q.vb x.v::bW q.db x.r::R)) :
  aA n 73 [.ptr a 0] h λ_ h'=>HS g h' (aE a (xT x)::R):=by
 refine ay (S:=S73) rfl omQ λk hk=>?_;unfold S73;try simp only[iZ]
 have D:=KO B.aC B.fr hj;unfold xT;refine qV (qg0 omQ B.aC B.fr hj H) ?_;rintro _ h1 ⟨rfl,gv,H1⟩;clear H;generalize(yB x).1.1=kd at*;generalize(yB x).1.2=er at*;generalize(yB x).2=y at*;obtain⟨e1,e2,e3,e4,e5⟩:=D.same;have uz:y.c=none:=by rw[e5,hc]
 have fI:y.r.length≤16:=by rw[e3];exact B.r
 rw[← e3]at H1;generalize hA:vD y kd er=A;refine qD rfl (qD rfl ?_);refine jo [] (λ_ h'=>HS g h' (aE a A::R)) (λj hj=>?_) λ_ h' H'=>qk (qG H');unfold vD at hA;have iM:=D.aC.ok.hi;by_cases c1:kd=1
 ·rw[iJ c1]at hA;subst hA;refine qg c1 (qX ?_);have hnd:=D.aK c1;have hk:=D.kept.1;refine qK (qQ (qZ H1 (b:=a) .here rfl ?_));refine qV (U9 omQ (H1.aG (P:=ae q.vb y.v) e_2)) ?_;rintro _ _ ⟨rfl,rfl⟩;refine qV (RG omQ omQ H1) ?_;rintro _ h2 ⟨b,H2⟩;refine hj _ _ (aE.I (q:={ q with gv:=gv,iv:=.iface 148 (.ptr b 0),fv:=.ptr b 0 }) ?_);have H3:=aL.sa (st:=3) (e:=y.e) (ev:=q.ev) rfl uz ⟨iN,rfl,rfl⟩ H2;exact H3.sub (.cons e_1 (.cons e_1 (.cons e_1 (.cons e_1 (.cons .here .refl)))))
 rw[iQ c1]at hA;refine qj c1 (qJ ?_);by_cases c3:kd=3
 ·rw[iJ c3]at hA;subst hA;refine qg c3 (qX ?_);refine qK (qQ ?_);refine qw H1 (b:=a) .here ⟨rfl,rfl⟩ (by simp[xQ]) λh2 H2=>?_;have H2:HS g h2 (qA a (xQ { y with cj:=true } { q with gv:=gv })::cg q.vb y.ax q.rv q.bv gv::ae q.vb y.v::bW q.db y.r::R):=H2;refine qV (Vb (x:={ y with cj:=true }) (q:={ q with gv:=gv }) omQ fI (H2.sub (.cons .here (.cons e_2 .refl)))) ?_;rintro _ h3 ⟨b,H3⟩;refine hj _ _ (aE.I (q:={ q with gv:=gv,iv:=.iface 149 (.ptr b 0),ev:=.ptr b 0 }) ?_);have H4:=aL.sc (st:=5) (f:=y.f) (fv:=q.fv) (c:=y.c) (cv:=q.cv) (.inr rfl) uz ⟨iN,rfl,rfl⟩ H3;exact H4.sub (.cons e_1 (.cons e_2 (.cons e_2 (.cons e_1 (.cons .here .refl)))))
 rw[iQ c3]at hA;refine qj c3 (qJ ?_);have gone:∀{fin err:Int} {h2:AH},HS g h2 (qA a (xQ (xy y fin err (-1)) { q with gv:=gv })::cg q.vb y.ax q.rv q.bv gv::ae q.vb y.v::bW q.db y.r::R)→HS g h2 (aE a (xy y fin err (-1))::R):=λ{fin err h2} H2=>by
  refine aE.I (q:={ q with gv:=gv }) ?_;have H3:=aL.s8 (st:=7) (f:=y.f) (e:=y.e) (c:=y.c) (iv:=q.iv) (fv:=q.fv) (ev:=q.ev) (cv:=q.cv) od uz iN H2;exact H3.sub (.cons e_1 (.cons e_1 (.cons e_1 (.cons e_1 (.cons .here .refl)))))
 by_cases c4:kd=4
 ·rw[iJ c4]at hA;subst hA;refine qg c4 (qX ?_);refine qV (QW omQ H1) λ_ h2 H2=>?_;exact hj _ _ (gone H2)
 rw[iQ c4]at hA;refine qj c4 (qJ ?_);refine qK (qQ (qZ H1 (b:=a) .here rfl ?_));refine qV (V3 omQ (H1.aG (P:=ae q.vb y.v) e_2) D.aC.ok) λv h2 H2=>?_;have tP:=Ym D.aC.ok;refine qo H2 .here ?_;by_cases c5:jA y.v.lv=[]
 ·rw[iJ c5]at hA;subst hA;refine qg (by rw[c5];rfl) (qX ?_);refine qV (QW omQ (H2.sub (.cons e_2 (.cons e_2 (.cons e_1 (.cons e_1 (.drop .refl))))))) λ_ h3 H3=>?_;exact qG (gone H3)
 ·rw[iQ c5]at hA;have mf:0<(jA y.v.lv).length:=List.length_pos_iff.2 c5;refine qj omQ (qJ ?_);refine qW ?_
  try dsimp only
  refine qK (qQ (qZ H2 (b:=a) e_2 rfl ?_));refine qK (qQ (qi (qZ H2 (b:=a) e_2 rfl ?_)));refine qK (qQ (qZ H2 (b:=a) e_2 rfl ?_));refine qK (qQ (qZ H2 (b:=a) e_2 rfl ?_));refine qV (Nl omQ omQ (H2.aG (P:=bW q.db y.r) e_4)) λv2 h3 H3=>?_;refine qK (qQ (qi (qi (qZ H3 (b:=a) e_4 rfl ?_))));refine qK (qQ (qi (qi (qZ H3 (b:=a) e_4 rfl ?_))));refine qV (qxA (me:=y.me) (sp:=y.set.af) (st:=y.aj) (a:=y.set.al) (w:=y.set.wide) (r:=y.r) (cs:=jA y.v.lv) omQ omQ mf omQ (λc h=>by have:=tP.2 c h;omega) (H3.sub (.cons .here (.cons e_1 .refl)))) ?_;rintro _ h4 ⟨b,rfl,H4⟩;refine qK (qQ ?_);refine qw H4 (b:=a) e_3 (x:=.ptr b 0) ⟨rfl,rfl⟩ (by simp[xQ]) λh5 H5=>?_;refine qc H2 e_2 rfl H3 e_4 rfl (HS.lt H2 e_2) ?_;refine qc H2 e_2 rfl H3 e_4 rfl (HS.lt H2 e_2) ?_;refine qc H2 e_2 rfl H3 e_4 rfl (HS.lt H2 e_2) ?_;refine qc H2 e_2 rfl H3 e_4 rfl (HS.lt H2 e_2) ?_;refine qc H2 e_2 rfl H3 e_4 rfl (HS.lt H2 e_2) ?_;have H6:HS g h5 (qA a (xQ { y with c:=some (Js y.me y.set.af y.aj y.r (jA y.v.lv) y.set.al y.set.wide) } { q with gv:=gv,cv:=.ptr b 0 })::aB b (Js y.me y.set.af y.aj y.r (jA y.v.lv) y.set.al y.set.wide)::bW q.db y.r::ae q.vb y.v::cg q.vb y.ax q.rv q.bv gv::R):=H5;refine qK (qQ (qZ H6 (b:=a) .here rfl ?_));refine qV (GR omQ H6) λ_ h6 H7=>?_;subst hA;refine hj _ _ (aE.I (q:={ q with gv:=gv,cv:=.ptr b 0,iv:=.iface 150 (.ptr b 0) }) ?_);have H8:=aL.pL (st:=6) (f:=y.f) (e:=y.e) (fv:=q.fv) (ev:=q.ev) rfl ⟨rfl,λ_=>rfl⟩ (H7.aG e_1);exact H8.sub (.cons e_1 (.cons e_3 (.cons e_2 (.cons e_1 (.cons .here .refl)))))
theorem qVm (r:List xj) (x:xj):(wU r x).1=0∨(wU r x).2=r:=by
 unfold wU
 split
 ·exact .inr rfl
 ·split
  ·split<;>exact .inr rfl
  ·split
   ·exact .inr rfl
   ·exact .inl rfl
theorem OC (hn:20≤n) (B:w8 x) (hj:bu True x.v x.ax) (hw:0≤x.f.word∧x.f.word<18446744073709551616) (hc:x.c=none) {b:Nat} (hq:q.cv=.aO∧q.fv=.ptr b 0) (H:HS g h (qA a (xQ x q)::cg q.vb x.ax q.rv q.bv q.gv::ae q.vb x.v::bW q.db x.r::qA b (ge x.f)::R)) :
  aA n 132 [.ptr a 0] h λ_ h'=>HS g h' (aE a (x6 x)::R):=by
 refine ay (S:=S132) rfl omQ λk hk=>?_;unfold S132;try simp only[iZ]
 generalize hA:x6 x=A;unfold x6 at hA;refine qK (qQ (qZ H (b:=a) .here (x:=.ptr b 0) (by rw[← hq.2];rfl) ?_));refine qV (Kx omQ H (s:=e_4)) ?_;rintro _ _ ⟨rfl,rfl⟩;by_cases c6:x.f.p.fin=6
 ·rw[iJ c6]at hA;subst hA;refine qg c6 (qX ?_);refine qV (Vb (q:=q) omQ B.r (H.sub (.cons .here (.cons e_2 .refl)))) ?_;rintro _ h3 ⟨b',H3⟩;refine qG (aE.I (q:={ q with iv:=.iface 149 (.ptr b' 0),ev:=.ptr b' 0 }) ?_);have H4:=aL.sc (st:=4) (f:=x.f) (fv:=q.fv) (c:=x.c) (cv:=q.cv) (.inl rfl) hc ⟨hq.1,rfl,rfl⟩ H3;exact H4.sub (.cons e_1 (.cons e_2 (.cons e_2 (.cons e_1 (.cons .here (.drop .refl))))))
 rw[iQ c6]at hA;refine qj c6 (qJ ?_);refine qW ?_
 try dsimp only
 refine qK (qQ (qZ H (b:=a) .here rfl ?_));refine qK (qQ (qZ H (b:=a) .here (x:=.ptr b 0) (by rw[← hq.2];rfl) ?_));refine qV (qWt omQ H e_4) ?_;rintro _ h1 ⟨rfl,H1⟩;refine qV (qki (x:=ya x.f) omQ B.r (H1.aG (P:=bW q.db x.r) e_3)) ?_;rintro _ h2 ⟨rfl,H2⟩;refine qc H .here rfl H1 .here rfl (HS.lt H .here) ?_;refine jo [] (λ_ h'=>HS g h' (aE a A::R)) (λj rQ=>?_) λ_ h' H'=>qk (qG H');have hx:=GP hw;by_cases c0:(wU x.r (ya x.f)).1=0
 ·rw[iJ c0]at hA;subst hA;refine qg c0 (qX ?_);refine qW ?_
  try dsimp only
  refine qK (qQ (qZ H2 (b:=a) e_1 rfl ?_));refine qK (qQ (qZ H2 (b:=a) e_1 rfl ?_));refine qV (U9 omQ (H2.aG (P:=ae q.vb x.v) e_3)) ?_;rintro _ _ ⟨rfl,rfl⟩;refine qK (qQ (qZ H2 (b:=a) e_1 (x:=.ptr b 0) (by rw[← hq.2];rfl) ?_));refine qV (qYm omQ H2 e_4) ?_;rintro _ _ ⟨rfl,rfl⟩;refine qV (qqh (p:=x.v.aK) (x:=x9 x.f) omQ (H2.aG (P:=ae q.vb x.v) e_3) B.aC.ok) ?_;rintro _ h3 ⟨rfl,H3⟩;refine qc H2 e_1 (x:=.ptr b 0) (by rw[← hq.2];rfl) H2 e_1 (by rw[← hq.2];rfl) (HS.lt H2 e_1) ?_;refine qc H2 e_1 rfl H2 e_1 rfl (HS.lt H2 e_1) ?_;refine qc H2 e_1 rfl H2 e_1 rfl (HS.lt H2 e_1) ?_;refine qV (ZD (x:={ x with r:=(wU x.r (ya x.f)).2,v:=(zu x.v x.v.aK (x9 x.f)).2 }) (q:=q) (R:=R) omQ ?_ (hj.mL hx) hc hq.1 (H3.sub (.cons e_2 (.cons e_2 (.cons .here (.cons .here (.drop .refl))))))) λ_ h4 H4=>rQ _ _ H4;exact⟨B.set,Xq B.aC hx,by show((zu x.v x.v.aK (x9 x.f)).2.sz:Int)=x.set.words;rw[wB.2];exact B.sz,by show bD (zu x.v x.v.aK (x9 x.f)).2.lv<9000;rw[wB.1];exact B.fr,Y3 B.r,(hj.mL hx).same λh=>h.elim,B.c⟩
 rw[iQ c0]at hA;refine qj c0 (qJ ?_);have sZ:(wU x.r (ya x.f)).2=x.r:=(qVm x.r (ya x.f)).resolve_left c0;rw[sZ]at H2;have gone:∀{fin err:Int} {h2:AH},HS g h2 (qA a (xQ (xy x fin err (-1)) q)::bW q.db x.r::cg q.vb x.ax q.rv q.bv q.gv::ae q.vb x.v::qA b (ge x.f)::R)→HS g h2 (aE a (xy x fin err (-1))::R):=λ{fin err h2} H2=>by
  refine aE.I (q:=q) ?_;have H3:=aL.s8 (st:=7) (f:=x.f) (e:=x.e) (c:=x.c) (iv:=q.iv) (fv:=q.fv) (ev:=q.ev) (cv:=q.cv) od hc hq.1 H2;exact H3.sub (.cons e_1 (.cons e_2 (.cons e_2 (.cons e_1 (.cons .here (.drop .refl))))))
 by_cases D7:(wU x.r (ya x.f)).1=14
 ·rw[iJ D7]at hA;subst hA;refine qg D7 (qX ?_);refine qV (QW omQ (H2.aG e_1)) λ_ h3 H3=>?_;exact rQ _ _ (gone H3)
 ·rw[iQ D7]at hA;subst hA;refine qj D7 (qJ ?_);refine qV (QW omQ (H2.aG e_1)) λ_ h3 H3=>?_;exact rQ _ _ (gone H3)
theorem J0 (hn:4≤n) (_:∀c,x.c=some c→zt c) (H:HS g h (aE a x::R)):aA n 88 [.ptr a 0] h λr h'=>r=.bool (zC x)∧HS g h' (aE a x::R):=by
 refine ay (S:=S88) rfl omQ λk hk=>?_;unfold S88;try simp only[iZ]
 obtain⟨q,H1⟩:=aE.E H;refine qK (qQ (qZ H1 (b:=a) .here rfl ?_));unfold zC;by_cases c8:x.state=8
 ·rw[iV (λh=>h c8),Bool.false_and];refine qs c8 ?_;refine qW ?_;(try dsimp only);refine qU ?_;(try dsimp only);refine qI (qW ?_);(try dsimp only);refine qU ?_;(try dsimp only);refine qW ?_;(try dsimp only);refine zF ?_;(try dsimp only);refine qW ?_;(try dsimp only);refine qU ?_;(try dsimp only);refine qI ?_
  exact qG ⟨rfl,H⟩
 rw[iG (show x.state≠8 from c8),Bool.true_and];refine jQ c8 ?_;cases hc:x.c with
 |none=>
  obtain⟨e,H2⟩:=aL.CS hc (H1.aG e_4);refine qW ?_;(try dsimp only);refine qa ?_;(try dsimp only);refine qK (qQ (qZ ‹_› .here rfl ?_))
  rw[e];refine OV (qH (qW ?_));(try dsimp only);refine qU ?_;(try dsimp only);refine qW ?_;(try dsimp only);refine zF ?_;(try dsimp only);refine qW ?_;(try dsimp only);refine qU ?_;(try dsimp only);refine qI ?_
  exact qG ⟨rfl,H⟩
 |some c=>
  obtain⟨b,e,H2⟩:=aL.l8 hc (H1.aG e_4);refine qW ?_;(try dsimp only);refine qa ?_;(try dsimp only);refine qK (qQ (qZ ‹_› e_1 rfl ?_))
  rw[e.1];refine Ky (qH (qW ?_));(try dsimp only);refine qa ?_;(try dsimp only);refine qK (qQ (qZ ‹_› e_1 rfl ?_))
  rw[e.1];refine qV (O4 omQ H2) ?_;rintro _ _ ⟨rfl,rfl⟩;cases hw:wq c with
  |true=>
   refine qW ?_;(try dsimp only);refine jJ ?_;(try dsimp only);refine qW ?_;(try dsimp only);refine qa ?_;(try dsimp only);refine qH (qH ?_)
   exact qG ⟨rfl,H⟩
  |false=>
   refine qW ?_;(try dsimp only);refine qd ?_;(try dsimp only);refine qK (qQ (qZ ‹_› e_1 rfl ?_))
   rw[e.1];refine qV (Kg omQ H2) ?_;rintro _ _ ⟨rfl,rfl⟩;by_cases c2:c.p.fin=2
   ·refine qg c2 ?_;rw[iG c2];refine qW ?_;(try dsimp only);refine qa ?_;(try dsimp only);refine qI (qH ?_)
    exact qG ⟨rfl,H⟩
   ·refine qj c2 ?_;rw[iV c2];refine qW ?_;(try dsimp only);refine qa ?_;(try dsimp only);refine qI (qH ?_)
    exact qG ⟨rfl,H⟩
theorem qGT (hn:22≤n) (O:zE x) (h3:3≤x.state) (h6:x.state≤6) (H:HS g h (aE a x::R)):aA n 104 [.ptr a 0] h λ_ h'=>HS g h' (aE a (xm x)::R):=by
 refine ay (S:=S104) rfl omQ λk hk=>?_;unfold S104;try simp only[iZ]
 obtain⟨q,H1⟩:=aE.E H;clear H;generalize hA:xm x=A;unfold xm at hA;refine qK (qQ (qZ H1 (b:=a) .here rfl ?_));refine jo [] (λ_ h'=>HS g h' (aE a A::R)) (λj hj=>?_) λ_ h' H'=>qk (qG H');by_cases c3:x.state=3
 ·rw[iJ c3]at hA;subst hA;refine qg c3 (qX ?_);obtain⟨b,e,H2⟩:=aL.pK c3 (O.c0 omQ) (H1.aG e_4);refine qV (OC (q:=q) (R:=R) omQ O.b (O.ax.same λ_=>by omega) (O.f c3).2 (O.c0 omQ) ⟨e.1,e.2.1⟩ (H2.sub (.cons e_1 (.cons e_1 (.cons e_1 (.cons e_1 (.cons .here .refl))))))) λ_ h3 H3=>hj _ _ H3
 rw[iQ c3]at hA;refine qj c3 (qJ ?_);by_cases c4:x.state=4
 ·rw[iJ c4]at hA;subst hA;refine qg c4 (qX ?_);have hnd:=O.aK omQ omQ;have iM:=O.aC.ok.hi;obtain⟨b,e,H2⟩:=aL.nY (.inl c4) (O.c0 omQ) (H1.aG e_4);obtain⟨sv,H3⟩:=bX.E H2;refine qK (qQ (qZ H1 (b:=a) .here (x:=.ptr b 0) (by rw[← e.2.1];rfl) ?_));refine qV (VI omQ H3 .here) ?_;rintro _ _ ⟨rfl,rfl⟩;refine qK (qQ ?_);refine qw H2 (b:=a) e_1 ⟨rfl,rfl⟩ (by simp[xQ]) λh4 H4=>?_;have H4:HS g h4 (qA a (xQ { x with aj:=gF x.e } q)::bX b x.e::cg q.vb x.ax q.rv q.bv q.gv::ae q.vb x.v::bW q.db x.r::R):=H4;refine qK (qQ (qZ H4 (b:=a) .here rfl ?_));refine qV (U9 omQ (H4.aG (P:=ae q.vb x.v) e_3)) ?_;rintro _ _ ⟨rfl,rfl⟩;refine qV (RG omQ omQ H4) ?_;rintro _ h5 ⟨b',H5⟩;refine hj _ _ (aE.I (q:={ q with iv:=.iface 148 (.ptr b' 0),fv:=.ptr b' 0 }) ?_);have H6:=aL.sa (st:=3) (e:=x.e) (ev:=q.ev) (c:=x.c) (cv:=q.cv) rfl (O.c0 omQ) ⟨e.1,rfl,rfl⟩ H5;exact H6.sub (.cons e_1 (.cons e_2 (.cons e_2 (.cons e_2 (.cons .here (.drop .refl))))))
 rw[iQ c4]at hA;refine qj c4 (qJ ?_);by_cases c5:x.state=5
 ·rw[iJ c5]at hA;subst hA;refine qg c5 (qX ?_);obtain⟨b,e,H2⟩:=aL.nY (.inr c5) (O.c0 omQ) (H1.aG e_4);obtain⟨sv,H3⟩:=bX.E H2;refine qK (qQ (qZ H1 (b:=a) .here (x:=.ptr b 0) (by rw[← e.2.1];rfl) ?_));refine qV (VI omQ H3 .here) ?_;rintro _ _ ⟨rfl,rfl⟩;refine qK (qQ ?_);refine qw H2 (b:=a) e_1 ⟨rfl,rfl⟩ (by simp[xQ]) λh4 H4=>?_;have H4:HS g h4 (qA a (xQ { x with aj:=gF x.e } q)::bX b x.e::cg q.vb x.ax q.rv q.bv q.gv::ae q.vb x.v::bW q.db x.r::R):=H4;refine qV (QW omQ H4) λ_ h5 H5=>?_;refine hj _ _ (aE.I (q:=q) ?_);have H6:=aL.s8 (st:=7) (f:=x.f) (e:=x.e) (c:=x.c) (iv:=q.iv) (fv:=q.fv) (ev:=q.ev) (cv:=q.cv) od (O.c0 omQ) e.1 H5;exact H6.sub (.cons e_1 (.cons e_2 (.cons e_2 (.cons e_2 (.cons .here (.drop .refl))))))
 rw[iQ c5]at hA;refine qj c5 (qJ ?_);have c6:x.state=6:=by omega
 refine qg c6 (qX ?_)
 split at hA
 ·rename_i c hc;subst hA;obtain⟨b,e,H2⟩:=aL.l8 hc (H1.aG e_4);refine qW ?_
  try dsimp only
  refine qK (qQ (qZ H1 (b:=a) .here (x:=.ptr b 0) (by rw[← e.1];rfl) ?_));refine qV (Kg omQ H2) ?_;rintro _ _ ⟨rfl,rfl⟩;refine qK (qQ (qZ H1 (b:=a) .here (x:=.ptr b 0) (by rw[← e.1];rfl) ?_));refine qV (qzp omQ H2) ?_;rintro _ _ ⟨rfl,rfl⟩;refine qV (QW omQ (H2.aG e_1)) λ_ h5 H5=>?_;refine qc H1 .here (x:=.ptr b 0) (by rw[← e.1];rfl) H1 .here (by rw[← e.1];rfl) (HS.lt H1 .here) ?_;refine hj _ _ (aE.I (q:=q) ?_);have H6:=aL.pL (st:=7) (f:=x.f) (e:=x.e) (iv:=q.iv) (fv:=q.fv) (ev:=q.ev) (b:=b) hc ⟨e.1,λh=>by cases h⟩ (H5.aG (P:=aB b c) e_1);exact H6.sub (.cons e_1 (.cons e_1 (.cons e_1 (.cons e_1 (.cons .here .refl)))))
 ·rename_i hc;exact absurd hc (O.c6 c6)
end
end
section
variable {g h:AH} {L R:List SP}
section
variable {n a:Nat} {x:q8} {q:ZK}
theorem aL.out {st st':Int} {f:QT} {e:QF} {c:Option zq} {iv fv ev cv:AV} (h7:st'=7∨st'=8) (H:HS g h (aL st f e c iv fv ev cv::R)):HS g h (aL st' f e c iv fv ev cv::R):=by
 cases c with
 |none=>obtain⟨q,H⟩:=aL.CS rfl H;exact aL.s8 omQ rfl q H
 |some d=>obtain⟨b,q,H⟩:=aL.l8 rfl H;exact aL.pL rfl ⟨q.1,λh=>by omega⟩ H
theorem UZ (hn:24≤n) (O:zE x) (h3:3≤x.state) (h6:x.state≤6) (H:HS g h (aE a x::R)):aA n 74 [.ptr a 0] h λ_ h'=>HS g h' (aE a (xH x)::R):=by
 (refine qy (g:=W74) rfl omQ λk hk=>?_;show wp (S74 (callT tab qx k) _ _) _;unfold S74;try simp only[iI,iZ])
 obtain⟨q,H1⟩:=aE.E H;have fin:∀{K2:AV→AH→Go.Ae.R} {Q:AV→AH→Prop},wp (K2 (.int .i64 (xV x).1) h) Q→wp (yj (callT tab qx k) [(96,50),(148,161),(149,166),(150,114),(249,140)] q.iv [] h K2) Q:=λ{K2 Q} w=>by
  unfold xV at w;by_cases c3:x.state=3
  ·rw[iJ c3]at w;obtain⟨b,e,H2⟩:=aL.pK c3 (O.c0 omQ) (H1.aG e_4);rw[e.2.2];refine w9 rfl (Kx omQ H2 .here) ?_;rintro _ _ ⟨rfl,rfl⟩;exact w
  ·rw[iQ c3]at w;by_cases c6:x.state=6
   ·rw[iJ c6]at w
    split at w
    ·rename_i c hc;obtain⟨b,e,H2⟩:=aL.l8 hc (H1.aG e_4);rw[e.2 c6];refine w9 rfl (Kg omQ H2) ?_;rintro _ _ ⟨rfl,rfl⟩;exact w
    ·rename_i hc;exact absurd hc (O.c6 c6)
   ·rw[iQ c6]at w;obtain⟨b,e,H2⟩:=aL.nY omQ (O.c0 omQ) (H1.aG e_4);obtain⟨sv,H3⟩:=bX.E H2;rw[e.2.2];refine w9 rfl (PW omQ H3 .here) ?_;rintro _ _ ⟨rfl,rfl⟩;exact w
 have dB:∀{K2:AV→AH→Go.Ae.R} {Q:AV→AH→Prop},wp (K2 (.int .i64 (xV x).2) h) Q→wp (yj (callT tab qx k) [(96,75),(148,351),(149,359),(150,362),(249,354)] q.iv [] h K2) Q:=λ{K2 Q} w=>by
  unfold xV at w;by_cases c3:x.state=3
  ·rw[iJ c3]at w;obtain⟨b,e,H2⟩:=aL.pK c3 (O.c0 omQ) (H1.aG e_4);rw[e.2.2];refine w9 rfl (qg1 omQ H2 .here) ?_;rintro _ _ ⟨rfl,rfl⟩;exact w
  ·rw[iQ c3]at w;by_cases c6:x.state=6
   ·rw[iJ c6]at w
    split at w
    ·rename_i c hc;obtain⟨b,e,H2⟩:=aL.l8 hc (H1.aG e_4);rw[e.2 c6];refine w9 rfl (qwT omQ H2) ?_;rintro _ _ ⟨rfl,rfl⟩;exact w
    ·rename_i hc;exact absurd hc (O.c6 c6)
   ·rw[iQ c6]at w;obtain⟨b,e,H2⟩:=aL.nY omQ (O.c0 omQ) (H1.aG e_4);obtain⟨sv,H3⟩:=bX.E H2;rw[e.2.2];refine w9 rfl (qwE omQ H3 .here) ?_;rintro _ _ ⟨rfl,rfl⟩;exact w
 refine qK (qQ (qZ H1 (b:=a) .here rfl (fin ?_)));have OL:=MT O h3 h6;show wp _ λ_ h'=>HS g h' (aE a (zo (ye x))::R);refine jo [] (λs h'=>s=(.ptr a 0,())∧HS g h' (aE a (ye x)::R)) (λj hj=>?_) ?_
 rotate_left
 ·rintro _ h2 ⟨rfl,H2⟩;dsimp only;refine qV (J0 omQ OL.c H2) ?_;rintro _ h3 ⟨rfl,H3⟩;unfold zo;cases hw:zC (ye x)with
  |false=>exact qJ (qk (qG H3))
  |true=>
   refine qX ?_;have ff:∃c,(ye x).c=some c:=by
    unfold zC at hw;cases hc:(ye x).c with
    |none=>rw[hc]at hw;simp at hw
    |some c=>exact⟨c,rfl⟩
   obtain⟨c,hc⟩:=ff;obtain⟨q2,H4⟩:=aE.E H3;obtain⟨b,e,H5⟩:=aL.l8 hc (H4.aG e_4);refine qK (qQ (qZ H4 (b:=a) .here (x:=.ptr b 0) (by rw[← e.1];rfl) ?_));refine qV (qK0 omQ (OL.c c hc).now H5) ?_;rintro _ _ ⟨rfl,rfl⟩;refine qK (qQ ?_);refine qw H4 (b:=a) .here ⟨rfl,rfl⟩ (by simp[xQ]) λh5 H6=>qk (qG ?_);rw[iJ rfl];have H7:HS g h5 (qA a (xQ { ye x with aj:=ga c } q2)::cg q2.vb (ye x).ax q2.rv q2.bv q2.gv::ae q2.vb (ye x).v::bW q2.db (ye x).r::aL (ye x).state (ye x).f (ye x).e (ye x).c q2.iv q2.fv q2.ev q2.cv::R):=H6;rw[hc]at H7 ⊢;exact aE.I (q:=q2) H7
 generalize hL:ye x=Y at*;unfold ye at hL;by_cases c0:(xV x).1=0
 ·rw[iJ c0]at hL;subst hL;exact qg c0 (qX (hj _ _ ⟨rfl,H⟩))
 rw[iQ c0]at hL;refine qj c0 (qJ ?_);by_cases c5:(xV x).1=5
 ·rw[iJ c5]at hL;subst hL;refine qg c5 (qX ?_);refine qK (qQ (qZ H1 (b:=a) .here rfl (dB ?_)));refine qV (QW omQ H1) λ_ h2 H2=>hj _ _ ⟨rfl,aE.I (q:=q) ?_⟩;have H3:=aL.out (st':=7) (.inl rfl) (H2.aG e_4);exact H3.sub (.cons e_1 (.cons e_1 (.cons e_1 (.cons e_1 (.cons .here .refl)))))
 ·rw[iQ c5]at hL;subst hL;refine qj c5 (qJ ?_);exact qV (qGT omQ O h3 h6 H) λ_ h2 H2=>hj _ _ ⟨rfl,H2⟩
theorem qjN {an:cO} (hn:26≤n) (O:zE x) (ha:J1 an) (H:HS g h (aE a x::R)):aA n 49 [.ptr a 0,.agg (z6 an)] h λ_ h'=>HS g h' (aE a (jS x an)::R):=by
 (refine qy (g:=W49) rfl omQ λk hk=>?_;show wp (S49 (callT tab qx k) _ _ _) _;unfold S49;try simp only[iI,iZ])
 have cC:=O.st;obtain⟨q,H0⟩:=aE.E H;refine qO H0 rfl λb0 h1 H1=>?_;have H1:HS g h1 (qA b0 (z6 an)::uI a x q R):=H1;clear H H0;generalize hA:jS x an=A;unfold jS at hA;refine qK (qQ (qZ H1 (b:=a) e_1 rfl ?_));by_cases c8:x.state=8
 ·rw[iJ c8]at hA;subst hA;exact qg c8 (qX (qG (aE.I (q:=q) H1.drop)))
 rw[iQ c8]at hA;refine qj c8 (qJ ?_);refine qQ (qZ H1 (b:=b0) .here (x:=.int .i64 an.err) rfl ?_);by_cases ce:an.err=0
 rotate_left
 ·rw[iJ ce]at hA;subst hA;refine jQ ce (qX ?_);refine qQ (qZ H1 (b:=b0) .here (x:=.int .i64 an.err) rfl ?_);refine qV (QW omQ (H1.aG e_1)) λ_ h2 H2=>?_;refine qK (qQ ?_);refine qw H2 (b:=a) .here ⟨rfl,rfl⟩ (by simp[xQ]) λh3 H3=>qG (aE.I (q:=q) ?_);have H4:=aL.out (st':=8) (.inr rfl) (H3.aG e_5);exact H4.sub (.cons e_1 (.cons e_2 (.cons e_2 (.cons e_2 (.cons .here (.drop .refl))))))
 rw[iQ (λh=>h ce)]at hA;refine qs ce (qJ ?_);refine qK (qQ (qZ H1 (b:=a) e_1 rfl ?_));refine jo [] (λ_ h'=>HS g h' (aE a A::R)) (λj hj=>?_) λ_ h' H'=>qk (qG H');by_cases c0:x.state=0
 ·rw[iJ c0]at hA;subst hA;refine qg c0 (qX ?_);refine qK (qQ ?_);refine qw H1 (b:=a) e_1 ⟨rfl,rfl⟩ (by simp[xQ]) λh2 H2=>hj _ _ (aE.I (q:=q) ?_);obtain⟨e,H3⟩:=aL.CS (O.c0 omQ) (H2.aG e_5);have H4:=aL.s8 (st:=1) (f:=x.f) (e:=x.e) (c:=x.c) (iv:=q.iv) (fv:=q.fv) (ev:=q.ev) od (O.c0 omQ) e H3;exact H4.sub (.cons e_1 (.cons e_2 (.cons e_2 (.cons e_2 (.cons .here (.drop .refl))))))
 rw[iQ c0]at hA;refine qj c0 (qJ ?_);by_cases c1:x.state=1
 ·rw[iJ c1]at hA;subst hA;refine qg c1 (qX ?_);refine qW ?_
  try dsimp only
  refine qQ (qZ H1 (b:=b0) .here (x:=.int .u64 an.word) rfl ?_);refine qQ (qZ H1 (b:=b0) .here (x:=.int .u64 an.word) rfl ?_);refine qK (qQ ?_);refine qw H1 (b:=a) e_1 ⟨rfl,rfl⟩ (by simp[xQ]) λh2 H2=>?_;refine qK (qQ ?_);refine qw H2 (b:=a) .here ⟨rfl,rfl⟩ (by simp[xQ]) λh3 H3=>?_;refine qK (qQ ?_);refine qw H3 (b:=a) .here ⟨rfl,rfl⟩ (by simp[xQ]) λh4 H4=>?_;refine qc H2 e_1 rfl H3 e_1 rfl (HS.lt H1 .here) ?_;refine qc H1 .here rfl H2 e_1 rfl (HS.lt H1 .here) ?_;refine qc H1 .here rfl H2 e_1 rfl (HS.lt H1 .here) ?_;refine qK (qQ ?_);refine qw H4 (b:=a) .here ⟨rfl,rfl⟩ (by simp[xQ]) λh5 H5=>hj _ _ (aE.I (q:=q) ?_);obtain⟨e,H6⟩:=aL.CS (O.c0 omQ) (H5.aG e_5);have H7:=aL.s8 (st:=2) (f:=x.f) (e:=x.e) (c:=x.c) (iv:=q.iv) (fv:=q.fv) (ev:=q.ev) od (O.c0 omQ) e H6;exact H7.sub (.cons e_1 (.cons e_2 (.cons e_2 (.cons e_2 (.cons .here (.drop .refl))))))
 rw[iQ c1]at hA;refine qj c1 (qJ ?_);by_cases c2:x.state=2
 ·rw[iJ c2]at hA;subst hA;refine qg c2 (qX ?_);obtain⟨e,H3⟩:=aL.CS (O.c0 omQ) (H1.aG e_5);exact qV (ZD (q:=q) (R:=R) omQ O.b (O.ax.same λ_=>by omega) (O.c0 omQ) e (H3.sub (.cons e_1 (.cons e_1 (.cons e_1 (.cons e_1 (.drop .refl))))))) λ_ h4 H4=>hj _ _ H4
 rw[iQ c2]at hA;refine qj c2 (qJ ?_);by_cases c7:x.state=7
 ·rw[iJ c7]at hA;subst hA;refine qg c7 (qX ?_);refine qK (qQ ?_);refine qw H1 (b:=a) e_1 ⟨rfl,rfl⟩ (by simp[xQ]) λh2 H2=>hj _ _ (aE.I (q:=q) ?_);have H3:=aL.out (st':=8) (.inr rfl) (H2.aG e_5);exact H3.sub (.cons e_1 (.cons e_2 (.cons e_2 (.cons e_2 (.cons .here (.drop .refl))))))
 rw[iQ c7]at hA;refine qj c7 (qJ ?_);refine qK (qQ (qZ H1 (b:=a) e_1 rfl ?_));refine qF H1 (b:=b0) (off:=0) .here rfl omQ (l:=z6 an) rfl ?_;have AA:∀{y:q8},y.state=x.state→3≤y.state∧y.state≤6:=λh=>by omega
 by_cases c3:x.state=3
 ·rw[iJ c3]at hA;subst hA;obtain⟨b,e,H2⟩:=aL.pK c3 (O.c0 omQ) (H1.aG e_5);rw[e.2.2];refine w9 rfl (qYE (a:=an) omQ (O.f c3).1 H2) λ_ h3 H3=>?_;have H4:=aL.sa (st:=x.state) (e:=x.e) (ev:=q.ev) c3 (O.c0 omQ) e H3;have O':zE { x with f:=xC x.f an }:=⟨O.set,O.aC,O.sz,O.fr,O.r,O.ax,O.st,λh=>⟨YG (O.f h).1,Gi (O.f h).2 ha⟩,O.aK,O.e,O.c,O.c0,O.c6⟩;exact qV (UZ (x:={ x with f:=xC x.f an }) omQ O' (AA rfl).1 (AA rfl).2 (aE.I (q:=q) (H4.sub (.cons e_2 (.cons e_2 (.cons e_2 (.cons e_2 (.cons .here (.drop .refl))))))))) λ_ h5 H5=>hj _ _ H5
 rw[iQ c3]at hA;by_cases c6:x.state=6
 ·rw[iJ c6]at hA;subst hA;cases hc:x.c with
  |none=>exact absurd hc (O.c6 c6)
  |some c=>obtain⟨b,e,H2⟩:=aL.l8 hc (H1.aG e_5);rw[e.2 c6];have Oc:=O.c c hc;refine w9 rfl (qzU (a:=an) omQ Oc H2) λ_ h3 H3=>?_;have H4:=aL.pL (st:=x.state) (f:=x.f) (e:=x.e) (fv:=q.fv) (ev:=q.ev) (c:=some (zj c an)) rfl e H3;have O':zE { x with c:=some (zj c an) }:=⟨O.set,O.aC,O.sz,O.fr,O.r,O.ax,O.st,O.f,O.aK,O.e,λc' h=>by cases h;exact Gn Oc ha,λh=>absurd h (by show¬x.state≤5;omega),λ_ h=>by cases h⟩;rw[hc]at hj;exact qV (UZ (x:={ x with c:=some (zj c an) }) omQ O' (AA rfl).1 (AA rfl).2 (aE.I (q:=q) (H4.sub (.cons e_2 (.cons e_2 (.cons e_2 (.cons e_2 (.cons .here (.drop .refl))))))))) λ_ h5 H5=>hj _ _ H5
 rw[iQ c6]at hA;subst hA;obtain⟨b,e,H2⟩:=aL.nY omQ (O.c0 omQ) (H1.aG e_5);rw[e.2.2];refine w9 rfl (qYN (a:=an) omQ (O.e omQ omQ) H2) λ_ h3 H3=>?_;have H4:=aL.sc (st:=x.state) (f:=x.f) (fv:=q.fv) omQ (O.c0 omQ) e H3;have O':zE { x with e:=xU x.e an }:=⟨O.set,O.aC,O.sz,O.fr,O.r,O.ax,O.st,O.f,O.aK,λh1 h2=>Yg (O.e h1 h2),O.c,O.c0,O.c6⟩;exact qV (UZ (x:={ x with e:=xU x.e an }) omQ O' (AA rfl).1 (AA rfl).2 (aE.I (q:=q) (H4.sub (.cons e_2 (.cons e_2 (.cons e_2 (.cons e_2 (.cons .here (.drop .refl))))))))) λ_ h5 H5=>hj _ _ H5
theorem qY9 (hn:4≤n) (O:zE x) (H:HS g h (aE a x::R)):aA n 46 [.ptr a 0] h λr h'=>r=ri (xZ x)∧HS g h' (aE a x::R):=by
 (refine qy (g:=W46) rfl omQ λk hk=>?_;show wp (S46 (callT tab qx k) _ _) _;unfold S46;try simp only[iI,uU,iZ])
 have cC:=O.st;obtain⟨q,H0⟩:=aE.E H;refine qO H0 rfl λb0 h1 H1=>?_;clear H H0;refine qK (qQ (qZ H1 (b:=a) e_1 rfl ?_));unfold xZ;have uJ:∀{o:dz} {h':AH},HS g h' (qA b0 (x8 o)::uI a x q R)→wp (zi h' (.ptr b0 0) 10 λv=>some (.bM [v,.bool true],h')) λr h'=>r=ri (some o)∧HS g h' (aE a x::R):=λ{o h'} H'=>by
  refine qF H' (b:=b0) (off:=0) .here rfl omQ (l:=x8 o) rfl ?_;exact qG ⟨rfl,aE.I (q:=q) H'.drop⟩
 by_cases c0:x.state=0
 ·rw[iJ c0];refine qg c0 (qX ?_);refine qK (qQ (qZ H1 (b:=a) e_1 rfl ?_));refine qM (l:=x8 (bg 9 x.me 1)) rfl ?_;exact qh H1 (b:=b0) .here rfl (by show 0+10≤10;omega) rfl λh3 H3=>uJ H3
 rw[iQ c0];refine qj c0 (qJ ?_);by_cases c1:x.state=1
 ·rw[iJ c1];refine qg c1 (qX ?_);refine qM (l:=x8 (bg 6 0 0)) rfl ?_;exact qh H1 (b:=b0) .here rfl (by show 0+10≤10;omega) rfl λh3 H3=>uJ H3
 rw[iQ c1];refine qj c1 (qJ ?_);by_cases c2:x.state=2
 ·rw[iJ c2];refine qg c2 (qX ?_);refine qK (qQ (qZ H1 (b:=a) e_1 rfl ?_));refine qK (qQ (qZ H1 (b:=a) e_1 rfl ?_));refine OJ (qM (l:=x8 (bg 9 x.me (zv .u64 (x.aj+1)))) rfl ?_);exact qh H1 (b:=b0) .here rfl (by show 0+10≤10;omega) rfl λh3 H3=>uJ H3
 rw[iQ c2];refine qj c2 (qJ ?_);by_cases c7:x.state=7
 ·rw[iJ c7];refine qg c7 (qX ?_);refine qK (qQ (qZ H1 (b:=a) e_1 rfl ?_));refine qM (l:=x8 (bg 9 x.me 0)) rfl ?_;exact qh H1 (b:=b0) .here rfl (by show 0+10≤10;omega) rfl λh3 H3=>uJ H3
 rw[iQ c7];refine qj c7 (qJ ?_);by_cases c8:x.state=8
 ·rw[iJ c8];refine qg c8 (qX ?_);refine qM (l:=x8 (bg 0 0 0)) rfl ?_;refine qh H1 (b:=b0) .here rfl (by show 0+10≤10;omega) rfl λh3 H3=>?_;refine qF H3 (b:=b0) (off:=0) .here rfl omQ (l:=x8 (bg 0 0 0)) rfl ?_;exact qG ⟨rfl,aE.I (q:=q) H3.drop⟩
 rw[iQ c8];refine qj c8 (qJ ?_);refine qK (qQ (qZ H1 (b:=a) e_1 rfl ?_));have Iw:∀{o:Option dz} {h':AH},HS g h' (qA b0 (x8 (bg 0 0 0))::uI a x q R)→wp (xq (ri o) 0 λv=>xq (ri o) 1 λv2=>jP h' (.ptr b0 0) v 10 λh2=>zi h2 (.ptr b0 0) 10 λv3=>some (.bM [v3,v2],h2)) λr h'=>r=ri o∧HS g h' (aE a x::R):=λ{o h'} H'=>by
  refine qD rfl (qD rfl ?_);refine qh H' (b:=b0) .here rfl (by show 0+10≤10;omega) rfl λh3 H3=>?_;refine qF H3 (b:=b0) (off:=0) .here rfl omQ (l:=x8 (o.getD (bg 0 0 0))) rfl ?_;exact qG ⟨rfl,aE.I (q:=q) H3.drop⟩
 by_cases c3:x.state=3
 ·rw[iJ c3];obtain⟨b,e,H2⟩:=aL.pK c3 (O.c0 omQ) (H1.aG e_5);rw[e.2.2];refine w9 rfl (qWO omQ H2) ?_;rintro _ h3 ⟨rfl,H3⟩;have H4:=aL.sa (st:=x.state) (e:=x.e) (ev:=q.ev) c3 (O.c0 omQ) e H3;exact Iw (H4.sub (.cons e_1 (.cons e_1 (.cons e_1 (.cons e_1 (.cons e_1 (.cons .here .refl)))))))
 rw[iQ c3];by_cases c6:x.state=6
 ·rw[iJ c6];cases hc:x.c with
  |none=>exact absurd hc (O.c6 c6)
  |some c=>obtain⟨b,e,H2⟩:=aL.l8 hc (H1.aG e_5);rw[e.2 c6];refine w9 rfl (qWo omQ (O.c c hc) H2) ?_;rintro _ h3 ⟨rfl,H3⟩;have H4:=aL.pL (st:=x.state) (f:=x.f) (e:=x.e) (fv:=q.fv) (ev:=q.ev) hc e H3;exact Iw (H4.sub (.cons e_1 (.cons e_1 (.cons e_1 (.cons e_1 (.cons e_1 (.cons .here .refl)))))))
 rw[iQ c6];obtain⟨b,e,H2⟩:=aL.nY omQ (O.c0 omQ) (H1.aG e_5);rw[e.2.2];refine w9 rfl (qWd omQ (O.e omQ omQ) H2) ?_;rintro _ h3 ⟨rfl,H3⟩;have H4:=aL.sc (st:=x.state) (f:=x.f) (fv:=q.fv) omQ (O.c0 omQ) e H3;exact Iw (H4.sub (.cons e_1 (.cons e_1 (.cons e_1 (.cons e_1 (.cons e_1 (.cons .here .refl)))))))
end
end
section
variable {g h:AH} {L R:List SP}
section
variable {n:Nat} {s S:zR}
abbrev QO (S:zR):List AV:=[.int .i64 S.words,.int .i64 S.al,.int .i64 S.wide,.int .i64 S.aa,.int .u64 S.start]
abbrev yd (S:zR):List AV:=[.int .i64 S.words,.int .i64 S.al,.int .i64 S.wide,.int .i64 S.aa,.int .u64 S.start,.int .i64 S.af,.int .i64 S.writes,.int .i64 S.fuel]
theorem OM (hn:1≤n) (H:HS g h R):aA n 34 [.agg (QO s)] h λr h'=>r=.agg (QO (jK s))∧HS g h' R:=by
 refine ay (S:=S34) rfl omQ λk hk=>?_;unfold S34;try simp only[iZ]
 refine qO H rfl λb0 h1 H1=>?_;refine qO H1 rfl λb1 h2 H2=>?_;refine qQ (qZ H2 (b:=b0) e_1 rfl (zk (zn ?_)));refine qQ (qZ H2 (b:=b0) e_1 rfl (zk (zn ?_)));refine qQ (qZ H2 (b:=b0) e_1 rfl (zk (zn ?_)));refine qQ (qZ H2 (b:=b0) e_1 rfl (zk (zn ?_)));refine qQ (qZ H2 (b:=b0) e_1 rfl (zk ?_));refine qM (l:=QO (jK s)) rfl ?_;refine qh H2 (b:=b1) .here rfl (by show 0+5≤5;omega) rfl λh3 H3=>?_;refine qF H3 (b:=b1) (off:=0) .here rfl omQ (l:=QO (jK s)) rfl ?_;exact qG ⟨rfl,H3.drop.drop⟩
theorem UU (hn:2≤n) (H:HS g h R):aA n 18 [.agg (yd s)] h λr h'=>r=.agg (yd (jK s))∧HS g h' R:=by
 refine ay (S:=S18) rfl omQ λk hk=>?_;unfold S18;try simp only[iZ]
 refine qO H rfl λb0 h1 H1=>?_;refine qO H1 rfl λb1 h2 H2=>?_;refine qW ?_
 try dsimp only
 refine qQ (qF H2 (b:=b0) (off:=0) e_1 rfl omQ (l:=QO s) rfl ?_);refine qV (OM omQ H2) ?_;rintro _ h3 ⟨rfl,H3⟩;refine qQ (qZ H3 (b:=b0) e_1 rfl (zk (zn ?_)));refine qQ (qZ H3 (b:=b0) e_1 rfl (zk (zn ?_)));refine qQ (qZ H3 (b:=b0) e_1 rfl (zk (zn ?_)));refine qM (l:=yd (jK s)) rfl ?_;refine qh H3 (b:=b1) .here rfl (by show 0+8≤8;omega) rfl λh4 H4=>?_;refine qc H2 e_1 rfl H3 e_1 rfl (HS.lt H2 e_1) ?_;refine qc H2 e_1 rfl H3 e_1 rfl (HS.lt H2 e_1) ?_;refine qc H2 e_1 rfl H3 e_1 rfl (HS.lt H2 e_1) ?_;refine qF H4 (b:=b1) (off:=0) .here rfl omQ (l:=yd (jK s)) rfl ?_;exact qG ⟨rfl,H4.drop.drop⟩
theorem qkp {w:Int} (hn:1≤n) (hw:32≤w∧w≤256) (H:HS g h R):aA n 35 [.int .i64 w] h λr h'=>∃b v,r=.ptr b 0∧HS g h' (qA b [v]::qB 31 1 w.toNat v ((List.replicate w.toNat (0:Int)).map (.int .u64))::R):=by
 refine ay (S:=S35) rfl omQ λk hk=>?_;unfold S35;try simp only[iZ]
 refine zk (zn ?_);rw[show max ((32:Nat):Int) (min w ((256:Nat):Int))=((w.toNat:Nat):Int) by omega];refine J5 H omQ λv h1 H1=>?_;rw[show List.replicate w.toNat (AV.int .u64 ((0:Nat):Int))=(List.replicate w.toNat (0:Int)).map (.int .u64) by rw[List.map_replicate];rfl]at H1;have o1:=H1.one .here;refine qM (l:=[v]) (by simp only[yV,o1.1];rfl) ?_;refine qO H1 (by simp only[qn,List.all_cons,o1.2];rfl) λb h2 H2=>qG ⟨b,v,rfl,H2⟩
theorem qxO {w:Int} (hn:1≤n) (hw:1≤w∧w≤4) (H:HS g h R):aA n 38 [.int .i64 w] h λr h'=>∃b v,r=.ptr b 0∧HS g h' (qA b [v]::qB 31 1 w.toNat v ((List.replicate w.toNat (0:Int)).map (.int .u64))::R):=by
 refine ay (S:=S38) rfl omQ λk hk=>?_;unfold S38;try simp only[iZ]
 refine zk (zn ?_);rw[show max ((1:Nat):Int) (min w ((4:Nat):Int))=((w.toNat:Nat):Int) by omega];refine J5 H omQ λv h1 H1=>?_;rw[show List.replicate w.toNat (AV.int .u64 ((0:Nat):Int))=(List.replicate w.toNat (0:Int)).map (.int .u64) by rw[List.map_replicate];rfl]at H1;have o1:=H1.one .here;refine qM (l:=[v]) (by simp only[yV,o1.1];rfl) ?_;refine qO H1 (by simp only[qn,List.all_cons,o1.2];rfl) λb h2 H2=>qG ⟨b,v,rfl,H2⟩
theorem qJA:∀k:Nat,yr [AV.int .u64 ((0:Nat):Int),.bool false,.int .i64 ((0:Nat):Int)] k=(List.replicate k b8).flatMap zG:=by
 intro k
 induction k with
 |zero=>rfl
 |succ k ih=>rw[List.replicate_succ,List.flatMap_cons,← ih];rfl
theorem qvt {w z:Int} (hn:2≤n) (hw:1≤w∧w≤16) (hz:1≤z∧z≤16) (H:HS g h R):aA n 36 [.int .i64 w,.int .i64 z] h λr h'=>∃b v,r=.ptr b 0∧HS g h' (qA b [v,.int .i64 z]::qB 62 3 w.toNat v ((List.replicate w.toNat b8).flatMap zG)::R):=by
 refine ba (S:=S36) rfl omQ λk hk=>?_;unfold S36;try simp only[iZ]
 refine qV (KP omQ) ?_;rintro _ _ ⟨rfl,rfl⟩;rw[show max 1 (min w ((16:Nat):Int))=((w.toNat:Nat):Int) by omega];refine Yd (sz:=3) (ln:=w.toNat) (cp:=w.toNat) H rfl (Nat.le_refl _) omQ λv h1 H1=>?_;rw[List.take_of_length_le (by rw[wb];exact Nat.le_refl _),qJA]at H1;refine qV (KP omQ) ?_;rintro _ _ ⟨rfl,rfl⟩;rw[show max 1 (min z ((16:Nat):Int))=z by omega];have o1:=H1.one .here;refine qM (l:=[v,.int .i64 z]) (by simp only[yV,o1.1];rfl) ?_;refine qO H1 (by simp only[qn,List.all_cons,o1.2];rfl) λb h2 H2=>qG ⟨b,v,rfl,H2⟩
theorem qxo {w:Int} (hn:1≤n) (hw:w≤4611686018427387903) (H:HS g h R):aA n 37 [.int .u64 w] h λr h'=>∃b,r=.ptr b 0∧HS g h' (qA b [.int .u64 w]::R):=by
 refine ay (S:=S37) rfl omQ λk hk=>?_;unfold S37;try simp only[iZ]
 refine zk ?_;rw[show min w ((4611686018427387903:Nat):Int)=w by omega];refine qM (l:=[.int .u64 w]) rfl ?_;refine qO H rfl λb h2 H2=>qG ⟨b,rfl,H2⟩
theorem qku (hn:4≤n) (hs:0≤s.start) (H:HS g h R):aA n 19 [.agg (QO s)] h λr h'=>∃p,r=.ptr p 0∧HS g h' (bS p (jK s) (gU (jK s))::R):=by
 refine ay (S:=S19) rfl omQ λk hk=>?_;unfold S19;try simp only[iZ]
 have O:=yq hs;refine qO H rfl λb0 h1 H1=>?_;refine qF H1 (b:=b0) (off:=0) .here rfl omQ (l:=QO s) rfl ?_;refine qV (OM omQ H1) ?_;rintro _ h2 ⟨rfl,H2⟩;clear H H1;refine qh H2 (b:=b0) .here rfl (by show 0+5≤5;omega) rfl λh3 H3=>?_;have H3:HS g h3 (qA b0 (QO (jK s))::R):=H3;generalize jK s=S at*;clear H2;refine qW ?_
 try dsimp only
 refine qF H3 (b:=b0) (off:=0) .here rfl omQ (l:=QO S) rfl ?_;refine qQ (qZ H3 (b:=b0) .here rfl ?_);refine qV (qkp omQ O.words H3) ?_;rintro _ h4 ⟨hb,wv,rfl,H4⟩;refine qQ (qZ H4 (b:=b0) e_2 rfl ?_);refine qQ (qZ H4 (b:=b0) e_2 rfl ?_);refine qV (qvt omQ O.al O.wide H4) ?_;rintro _ h5 ⟨tb,lv,rfl,H5⟩;refine qQ (qZ H5 (b:=b0) e_4 rfl ?_);refine qV (qxo omQ O.start.2 H5) ?_;rintro _ h6 ⟨cb,rfl,H6⟩;refine qQ (qZ H6 (b:=b0) e_5 rfl ?_);refine qV (qxO omQ O.aa H6) ?_;rintro _ h7 ⟨sb,sv,rfl,H7⟩;refine qM (l:=[.int .i64 S.words,.int .i64 S.al,.int .i64 S.wide,.int .i64 S.aa,.int .u64 S.start,.ptr hb 0,.ptr tb 0,.ptr cb 0,.ptr sb 0,.int .i64 0]) rfl ?_;refine qO H7 rfl λp h8 H8=>?_;refine qc H5 e_4 rfl H6 e_5 rfl (HS.lt H3 .here) ?_;refine qc H4 e_2 rfl H5 e_4 rfl (HS.lt H3 .here) ?_;refine qc H3 .here rfl H4 e_2 rfl (HS.lt H3 .here) ?_;refine qc H4 e_2 rfl H5 e_4 rfl (HS.lt H3 .here) ?_;refine qc H3 .here rfl H4 e_2 rfl (HS.lt H3 .here) ?_;refine qc H3 .here rfl H4 e_2 rfl (HS.lt H3 .here) ?_;refine qc H3 .here rfl H4 e_2 rfl (HS.lt H3 .here) ?_;refine zU H6 e_5 rfl H7 e_7 rfl rfl omQ (HS.lt H3 .here) ?_;refine zU H5 e_4 rfl H6 e_5 rfl rfl omQ (HS.lt H3 .here) ?_;refine zU H4 e_2 rfl H5 e_4 rfl rfl omQ (HS.lt H3 .here) ?_;refine zU H3 .here rfl H4 e_2 rfl rfl omQ (HS.lt H3 .here) ?_;refine qG ⟨p,rfl,bS.I (hb:=hb) (tb:=tb) (cb:=cb) (sb:=sb) (wv:=wv) (lv:=lv) (sv:=sv) ?_⟩;unfold uy gU;dsimp only;simp only[List.length_replicate];exact H8.sub (.cons .here (.cons e_5 (.cons e_5 (.cons e_3 (.cons e_3 (.cons e_2 (.cons .here (.cons .here (.drop .refl)))))))))
theorem VA {m:Nat} {e:TypeId} {v:AV} {xs:List AV} {R2:List SP} (hn:1≤n) (H:HS g h L) (s:aZ L (qB e 1 m v xs) R2) (ha:qn xs=true) (hm:m≤1000000) :
  aA n 87 [v] h λr h'=>HS g h' (qB 3 1 m r xs::L):=by
 refine ay (S:=S87) rfl omQ λk hk=>?_;unfold S87;try simp only[iZ]
 refine QY H s (λh1 h2=>?_) (qJ ?_)
 ·subst h1 h2;obtain rfl:xs=[]:=iA (by simpa using H.cT s);exact qX (qG H.ak)
 ·refine qm (n:=0) (l:=[]) (sz:=1) H rfl rfl rfl rfl λv2 h2 H2=>?_;refine ja H2 (H2.sl (.there s)) omQ omQ ha λv3 h3 H3=>?_;rw[Nat.zero_add,List.nil_append]at H3;exact qG H3
theorem Uf {me:Int} (hn:6≤n) (_:0≤s.start) (H:HS g h R):aA n 95 [.int .i64 me,.agg (yd s)] h λr h'=>∃a vb db,r=.ptr a 0∧
  HS g h' (qA a (xQ (GN me (jK s) (.ao [] 0)) ⟨.aO,.ak,.cH,.aO,.aO,.aO,0,vb,db⟩)::bW db []::ae vb (QN (jK s).words (jK s).writes)::R):=by
 refine ba (S:=S95) rfl omQ λk hk=>?_;unfold S95;try simp only[iZ]
 refine qO H rfl λb0 h1 H1=>?_;refine qF H1 (b:=b0) (off:=0) .here rfl omQ (l:=yd s) rfl ?_;refine qV (UU omQ H1) ?_;rintro _ h2 ⟨rfl,H2⟩;clear H H1;refine qh H2 (b:=b0) .here rfl (by show 0+8≤8;omega) rfl λh3 H3=>?_;have H3:HS g h3 (qA b0 (yd (jK s))::R):=H3;generalize jK s=S at*;clear H2;refine qW ?_
 try dsimp only
 refine qF H3 (b:=b0) (off:=0) .here rfl omQ (l:=yd S) rfl ?_;refine qQ (qi (qZ H3 (b:=b0) .here rfl ?_));refine qQ (qZ H3 (b:=b0) .here rfl ?_);refine qV (qvl omQ H3) ?_;rintro _ h4 ⟨vb,rfl,H4⟩;refine qV (qkT omQ H4) ?_;rintro _ h5 ⟨db,rfl,H5⟩;refine qM (l:=xQ (GN me S (.ao [] 0)) ⟨.aO,.ak,.cH,.aO,.aO,.aO,0,vb,db⟩) rfl ?_;refine qO H5 rfl λa h6 H6=>?_;refine zU H4 e_1 rfl H5 e_2 rfl rfl omQ (HS.lt H3 .here) ?_;refine zU H3 .here rfl H4 e_1 rfl rfl omQ (HS.lt H3 .here) ?_;exact qG ⟨a,vb,db,rfl,H6.sub (.cons .here (.cons .here (.cons .here (.drop .refl))))⟩
theorem qxP {me:Int} {l:List qT} {sv:AV} (hn:10≤n) (hs:0≤s.start) (hc:(zf l).2=0) (S:Rd g R 5 l.length sv (l.flatMap zM)) (H:HS g h R) :
  aA n 71 [.int .i64 me,.agg (yd s),.agg [sv]] h λr h'=>∃a,r=.ptr a 0∧HS g h' (aE a (y5 me s l)::R):=by
 refine cL (S:=S71) rfl omQ λk hk=>?_;unfold S71;try simp only
 have hle:=(Jn hc).le;refine qO H rfl λb0 h1 H1=>?_;refine qO H1 (yn (Qj (S.sl H))) λb1 h2 H2=>?_;refine qF H2 (b:=b0) (off:=0) e_1 rfl omQ (l:=yd s) rfl ?_;refine qV (Uf omQ hs H2) ?_;rintro _ h3 ⟨a,vb,db,rfl,H3⟩;refine qF H3 (b:=b1) (off:=0) e_3 rfl omQ (l:=[sv]) rfl ?_;refine qK (qQ (qZ H3 (b:=a) .here rfl ?_));refine qK (qQ (qi (qZ H3 (b:=a) .here rfl ?_)));refine qV (qvH omQ H3 S.more.more.more.more.more omQ) ?_;rintro _ h4 ⟨ib,rfl,H4⟩;refine qK (qQ ?_);refine qw H4 (b:=a) e_1 (x:=.ptr ib 0) ⟨rfl,rfl⟩ (by simp[xQ]) λh5 H5=>qG ⟨a,rfl,?_⟩;have hm:Ko l=qP l:=by unfold Ko;rw[iJ hc]
 rw[hm,hc]at H5;refine aE.I (q:=⟨.ptr ib 0,.ak,.cH,.aO,.aO,.aO,0,vb,db⟩) ?_;have H6:=cg.PI (p:=⟨l,YU,0,0,zc (jK s).fuel⟩) ⟨rfl,rfl,rfl⟩ (H5.aG e_1);have H7:=aL.s8 (st:=0) (f:=kP 0 0 0 0 0) (e:=Uh 0 0 []) (c:=none) (iv:=.cH) (fv:=.aO) (ev:=.aO) od rfl rfl H6;exact H7.sub (.cons e_2 (.cons e_1 (.cons e_2 (.cons e_1 (.cons .here (.drop (.drop .refl)))))))
theorem qVA {me:Int} {bs:List Int} {e:TypeId} {sv:AV} {R2:List SP} (hn:8≤n) (hs:0≤s.start) (hb:bs.length≤1000000) (H:HS g h L) (S:aZ L (qB e 1 bs.length sv (bs.map (.int .i64))) R2) :
  aA n 70 [.int .i64 me,.agg (yd s),sv] h λr h'=>∃a,r=.ptr a 0∧HS g h' (aE a (gZ me s bs)::L):=by
 refine cL (S:=S70) rfl omQ λk hk=>?_;unfold S70;try simp only
 refine qO H rfl λb0 h1 H1=>?_;refine qF H1 (b:=b0) (off:=0) .here rfl omQ (l:=yd s) rfl ?_;refine qV (Uf omQ hs H1) ?_;rintro _ h3 ⟨a,vb,db,rfl,H3⟩;refine qV (VA omQ H3 (.there (.there (.there (.there S)))) (Na (λ_=>rfl) _) hb) λbv h4 H4=>?_;have o4:=H4.one .here;refine qK (qQ ?_);refine qw H4 (b:=a) e_1 o4 (by simp[xQ]) λh5 H5=>qG ⟨a,rfl,?_⟩;refine aE.I (q:=⟨.aO,bv,.cH,.aO,.aO,.aO,0,vb,db⟩) ?_;have H6:=cg.SI (vb:=vb) (k:=0) (rv:=.aO) (gv:=0) ⟨rfl,rfl⟩ (H5.aG e_1);have H7:=aL.s8 (st:=0) (f:=kP 0 0 0 0 0) (e:=Uh 0 0 []) (c:=none) (iv:=.cH) (fv:=.aO) (ev:=.aO) od rfl rfl H6;exact H7.sub (.cons e_2 (.cons e_1 (.cons e_2 (.cons e_1 (.cons .here (.drop .refl))))))
section
variable {a:Nat} {x:q8} {q:ZK}
theorem qjS (hn:3≤n) (O:zE x) (H:HS g h (aE a x::R)):aA n 54 [.ptr a 0] h λr h'=>HS g h' (qB 110 2 x.r.length r (x.r.flatMap yi)::aE a x::R):=by
 refine ay (S:=S54) rfl omQ λk hk=>?_;unfold S54;try simp only
 obtain⟨q,H1⟩:=aE.E H;have hr:=O.r;refine qK (qQ (qZ H1 (b:=a) .here rfl ?_));refine qV (Nl omQ omQ (H1.aG (P:=bW q.db x.r) e_3)) λv h2 H2=>qG ?_;exact HS.bZ e_1 (aE.I (q:=q) (H2.sub (.cons e_2 (.cons e_2 (.cons e_2 (.cons e_1 (.cons e_1 (.cons .here .refl))))))))
theorem qVa (hn:2≤n) (O:zE x) (H:HS g h (aE a x::R)):aA n 89 [.ptr a 0] h λr h'=>HS g h' (qB 164 2 x.v.K.length r (x.v.K.flatMap jI)::aE a x::R):=by
 refine ay (S:=S89) rfl omQ λk hk=>?_;unfold S89;try simp only
 obtain⟨q,H1⟩:=aE.E H;refine qK (qQ (qZ H1 (b:=a) .here rfl ?_));refine qV (qV1 omQ (H1.aG (P:=ae q.vb x.v) e_2) O.aC.ok) λv h2 H2=>qG ?_;exact HS.bZ e_1 (aE.I (q:=q) (H2.sub (.cons e_2 (.cons e_2 (.cons e_1 (.cons e_1 (.cons e_1 (.cons .here .refl))))))))
theorem QL (hn:5≤n) (O:zE x) (H:HS g h (aE a x::R)):aA n 106 [.ptr a 0] h λr h'=>r=.bool (xW x)∧HS g h' (aE a x::R):=by
 refine ay (S:=S106) rfl omQ λk hk=>?_;unfold S106;try simp only[iZ]
 obtain⟨q,H1⟩:=aE.E H;refine qV (RE omQ H1 .here) ?_;rintro _ _ ⟨rfl,rfl⟩;unfold xW;by_cases c:jT x=2
 ·refine qg c ?_;rw[iG c];refine qW ?_;(try dsimp only);refine jJ ?_;(try dsimp only);refine qH ?_
  exact qG ⟨rfl,H⟩
 ·refine qj c ?_;rw[iV c];refine qW ?_;(try dsimp only);refine qd ?_;(try dsimp only)
  refine qV (J0 omQ O.c H) ?_;rintro _ h2 ⟨rfl,H2⟩;refine qI ?_;exact qG ⟨rfl,H2⟩
theorem M4 (hn:1≤n) (H:HS g h L) (s:aZ L (qA a (xQ x q)) R):aA n 55 [.ptr a 0] h λr h'=>r=.bool (ym x)∧h'=h:=by
 refine ay (S:=S55) rfl omQ λk hk=>?_;unfold S55;try simp only[iZ]
 refine qK (qQ (qZ H s rfl ?_));unfold ym;by_cases c:x.state=8
 ·rw[iV (λh=>h c)];refine qs c ?_;refine qW ?_;(try dsimp only);refine qU ?_;(try dsimp only);refine qI ?_
  exact qG ⟨rfl,rfl⟩
 ·rw[iG (show x.state≠8 from c)];refine jQ c ?_;refine qW ?_;(try dsimp only);refine qa ?_;(try dsimp only);refine qK (qQ ?_)
  refine qZ H s rfl ?_;refine qH ?_;exact qG ⟨rfl,rfl⟩
theorem qKF (hn:11≤n) (O:zE x) (H:HS g h (aE a x::R)):aA n 90 [.ptr a 0] h λr h'=>HS g h' (qB 164 2 (Qb x).length r ((Qb x).flatMap jI)::aE a x::R):=by
 refine ay (S:=S90) rfl omQ λk hk=>?_;unfold S90;try simp only
 refine qV (QL omQ O H) ?_;rintro _ h1 ⟨rfl,H1⟩;unfold Qb;cases hc:xW x with
 |false=>exact jB (qX (qG H1.ak))
 |true=>refine jY (qJ ?_);obtain⟨q,H2⟩:=aE.E H1;refine qK (qQ (qZ H2 (b:=a) .here rfl ?_));refine qV (V3 omQ (H2.aG (P:=ae q.vb x.v) e_2) O.aC.ok) λv h3 H3=>qG ?_;exact HS.bZ e_1 (aE.I (q:=q) (H3.sub (.cons e_2 (.cons e_2 (.cons e_1 (.cons e_1 (.cons e_1 (.cons .here .refl))))))))
theorem MV (hn:6≤n) (O:zE x) (H:HS g h (aE a x::R)):aA n 82 [.ptr a 0] h λr h'=>∃e,HS g h' (qB e 1 (zZ x).length r ((zZ x).map (.int .i64))::aE a x::R):=by
 refine ay (S:=S82) rfl omQ λk hk=>?_;unfold S82;try simp only
 refine qV (QL omQ O H) ?_;rintro _ h1 ⟨rfl,H1⟩;unfold zZ;cases hc:xW x with
 |false=>exact jB (qX (qG ⟨3,H1.ak⟩))
 |true=>
  refine jY (qJ ?_);rw[iJ rfl];obtain⟨q,H2⟩:=aE.E H1;have hj:=O.ax;cases hx:x.ax with
  |ao bs k=>rw[hx]at hj;obtain⟨e,H3⟩:=cg.S (by rw[← hx];exact H2.aG e_1);have Am:=hj.2;refine qK (qQ (qZ H2 (b:=a) .here (x:=.aO) (by rw[← e.1];rfl) ?_));refine VV (qX ?_);refine qK (qQ (qZ H2 (b:=a) .here rfl ?_));refine qV (VA omQ H3 .here (Na (λ_=>rfl) _) omQ) λv h4 H4=>qG ⟨3,?_⟩;have H5:=cg.SI (vb:=q.vb) (k:=k) e (H4.aG e_1);rw[← hx]at H5;exact HS.bZ e_1 (aE.I (q:=q) (H5.sub (.cons e_2 (.cons .here (.cons e_1 (.cons e_1 (.cons e_1 (.cons .here .refl))))))))
  |prog p=>obtain⟨ib,nx,e,H3⟩:=cg.P (by rw[← hx];exact H2.aG e_1);refine qK (qQ (qZ H2 (b:=a) .here (x:=.ptr ib 0) (by rw[← e.1];rfl) ?_));refine Kj (qJ ?_);refine qK (qQ (qZ H2 (b:=a) .here rfl ?_));refine qV (qKn omQ (H2.aG (P:=ae q.vb x.v) e_2) O.aC.ok) λv h4 H4=>qG ⟨3,?_⟩;exact HS.bZ e_1 (aE.I (q:=q) (H4.sub (.cons e_2 (.cons e_2 (.cons e_1 (.cons e_1 (.cons e_1 (.cons .here .refl))))))))
theorem Va (hn:8≤n) (O:zE x) (H:HS g h (aE a x::R)):aA n 79 [.ptr a 0] h λr h'=>r=.str (zg x)∧HS g h' (aE a x::R):=by
 refine ay (S:=S79) rfl omQ λk hk=>?_;unfold S79;try simp only
 refine qV (QL omQ O H) ?_;rintro _ h1 ⟨rfl,H1⟩;unfold zg;cases hc:xW x with
 |false=>
  refine jB (qW ?_);(try dsimp only);refine jJ ?_;(try dsimp only);refine qH (qX ?_)
  exact qG ⟨rfl,H1⟩
 |true=>
  refine jY ?_;rw[iJ rfl];obtain⟨q,H2⟩:=aE.E H1;have hj:=O.ax;cases hx:x.ax with
  |ao bs k=>
   obtain⟨e,H3⟩:=cg.S (by rw[← hx];exact H2.aG e_1);refine qW ?_;(try dsimp only);refine qd ?_;(try dsimp only);refine qK (qQ (qZ ‹_› e_1 rfl ?_))
   rw[e.1];refine VV (qI (qX ?_));exact qG ⟨rfl,H1⟩
  |prog p=>
   rw[hx]at hj;obtain⟨ib,nx,e,H3⟩:=cg.P (by rw[← hx];exact H2.aG e_1);refine qW ?_;(try dsimp only);refine qd ?_;(try dsimp only);refine qK (qQ (qZ ‹_› e_1 rfl ?_))
   rw[e.1];refine Kj (qI (qJ (qK (qQ (qZ ‹_› e_1 rfl ?_)))));rw[e.1];have ho:=hj.2.2.1.out;refine qV (qVp omQ H3 ho) ?_;rintro _ h4 ⟨o,rfl,H4⟩;refine qV (qk8 omQ H4 omQ hj.2.2.1.its) ?_;rintro _ h5 ⟨rfl,H5⟩;refine qG ⟨rfl,aE.I (q:=q) ?_⟩;have H6:=cg.PI (p:=p) e H5.drop;rw[← hx]at H6;exact H6.sub (.cons e_1 (.cons .here (.cons .here (.cons .here (.cons .here .refl)))))
end
end
end
section
variable {g h:AH} {L R:List SP}
def cA (b:Nat) (r:List YN):SP:=.ex λsv=>.all [qA b [sv],qB 142 2 r.length sv (r.flatMap jI)]
section
variable {n b:Nat} {r:List YN}
theorem cA.E (H:HS g h (cA b r::R)):∃sv,HS g h (qA b [sv]::qB 142 2 r.length sv (r.flatMap jI)::R):=by obtain⟨sv,H⟩:=H.dU;exact⟨sv,H.b9⟩
theorem cA.I {sv:AV} (H:HS g h (qA b [sv]::qB 142 2 r.length sv (r.flatMap jI)::R)):HS g h (cA b r::R):=HS.ei sv H.allI
theorem qVE (hn:1≤n) (H:HS g h R):aA n 40 [] h λv h'=>∃b,v=.ptr b 0∧HS g h' (cA b []::R):=by
 refine ub (S:=S40) rfl omQ λk hk=>?_;unfold S40;try simp only
 refine qM (l:=[.ak]) rfl ?_;refine qO H rfl λb h1 H1=>?_;refine qG ⟨b,rfl,cA.I (sv:=.ak) ?_⟩;exact H1.ak.sub (.cons e_1 (.cons .here .refl))
theorem qGD (hn:1≤n) (H:HS g h (cA b r::R)):aA n 110 [.ptr b 0] h λv h'=>v=.int .i64 (r.length:Int)∧h'=h:=by
 refine ay (S:=S110) rfl omQ λk hk=>?_;unfold S110;try simp only
 obtain⟨sv,H1⟩:=cA.E H;refine qK (qQ (qZ H1 (b:=b) .here rfl ?_));refine qo H1 e_1 ?_;exact qG ⟨rfl,rfl⟩
theorem qVc {m:Nat} {v:AV} {xs:List AV} {e:TypeId} {R2:List SP} (hn:1≤n) (H:HS g h L) (s:aZ L (qB e 2 m v xs) R2) (ha:qn xs=true) (hm:m≤1000000) :
  aA n 69 [v] h λr h'=>HS g h' (qB 142 2 m r xs::L):=by
 refine ay (S:=S69) rfl omQ λk hk=>?_;unfold S69;try simp only[iZ]
 refine QY H s (λh1 h2=>?_) (qJ ?_)
 ·subst h1 h2;obtain rfl:xs=[]:=iA (by simpa using H.cT s);exact qX (qG H.ak)
 ·refine qm (n:=0) (l:=[]) (sz:=2) H rfl rfl rfl rfl λv2 h2 H2=>?_;refine ja H2 (H2.sl (.there s)) omQ omQ ha λv3 h3 H3=>?_;rw[Nat.zero_add,List.nil_append]at H3;exact qG H3
theorem qVf (hn:2≤n) (hr:r.length≤1000000) (H:HS g h (cA b r::R)):aA n 45 [.ptr b 0] h λv h'=>HS g h' (qB 142 2 r.length v (r.flatMap jI)::cA b r::R):=by
 refine ay (S:=S45) rfl omQ λk hk=>?_;unfold S45;try simp only
 obtain⟨sv,H1⟩:=cA.E H;refine qK (qQ (qZ H1 (b:=b) .here rfl ?_));refine qV (qVc omQ H1 e_1 (ke (λ_=>rfl) _) omQ) λv h2 H2=>qG ?_;exact HS.bZ e_1 (cA.I (sv:=sv) (H2.sub (.cons e_1 (.cons e_1 (.cons .here .refl)))))
theorem VR {z:Int} {bs:List Int} {bv:AV} (hn:1≤n) (hr:r.length+bs.length≤1000000) (H:HS g h (cA b r::R)) (S:Rd g R 1 bs.length bv (bs.map (.int .i64))) :
  aA n 81 [.ptr b 0,.int .u64 z,bv] h λ_ h'=>HS g h' (cA b (r++bs.map λq=>(q,z))::R):=by
 refine cL (S:=S81) rfl omQ λk hk=>?_;unfold S81;try simp only[iZ]
 refine x5 (S.more.sl H) ?_;refine jL (λc s h'=>∃i:Nat,s=(.int .i64 (i:Int),.int .i64 (bs.length:Int),bv,.int .u64 z,.ptr b 0,())∧i≤bs.length∧c=bs.length-i∧HS g h' (cA b (r++(bs.take i).map λq=>(q,z))::R))
  ?_ (m:=bs.length) (by show _<1000000000;omega) ⟨0,rfl,Nat.zero_le _,rfl,by rw[List.take_zero,List.map_nil,List.append_nil];exact H⟩
 clear H;rintro c ih s h1 bG ⟨i,rfl,hi,rfl,H⟩;dsimp only;by_cases au:i<bs.length
 ·refine jF omQ (qX ?_);refine jd (S.more.sl H) (RF au) ?_;obtain⟨sv,H1⟩:=cA.E H;refine qK (qQ (qZ H1 (b:=b) .here rfl ?_));refine qM (l:=jI (bs[i],z)) rfl ?_;refine qm (n:=1) (l:=jI (bs[i],z)) (sz:=2) H1 rfl rfl rfl rfl λv2 h2 H2=>?_;refine ja (H2.aG e_2) (H2.sl .here) omQ (by rw[List.length_append,List.length_map,List.length_take];omega) rfl λv3 h3 H3=>?_;have o3:=H3.one .here;refine qK (qQ ?_);refine qw H3 (b:=b) e_2 o3 aN λh4 H4=>?_;refine qb omQ ?_;refine bG (bs.length-(i+1)) _ _ omQ ⟨i+1,rfl,by omega,rfl,cA.I (sv:=v3) ?_⟩;have er:r++(bs.take (i+1)).map (λq=>(q,z))=(r++(bs.take i).map λq=>(q,z))++[(bs[i],z)]:=by rw[List.take_add_one,iW au,List.append_assoc,List.map_append];rfl
  rw[er,List.length_append,List.flatMap_append];exact H4.sub (.cons .here (.cons .here (.drop .refl)))
 ·obtain rfl:i=bs.length:=by omega
  refine jV omQ (qJ (qk (qG ?_)));rw[List.take_length]at H;exact H
theorem qXn {sl:List Int} {v:AV} {z:Int} (hn:1≤n) (hl:sl.length≤1000) (S:Sl (λ_=>True) h 1 sl.length v (sl.map (.int .u64))) :
  aA n 139 [v,.int .u64 z] h λr h'=>r=.bool (q9 sl z)∧h'=h:=by
 refine ba (S:=S139) rfl omQ λk hk=>?_;unfold S139;try simp only[iZ]
 refine x5 S ?_;refine jL (λc s h'=>∃i:Nat,s=(.int .i64 (i:Int),.int .i64 (sl.length:Int),v,.int .u64 z,())∧i≤sl.length∧c=sl.length-i∧h'=h∧q9 sl z=q9 (sl.drop i) z)
  ?_ (m:=sl.length) (by show _<1000000000;omega) ⟨0,rfl,Nat.zero_le _,rfl,rfl,rfl⟩
 rintro c ih s _ bG ⟨i,rfl,hi,rfl,rfl,hp⟩;dsimp only;by_cases au:i<sl.length
 ·refine jF omQ (qX ?_);refine jd S (x:=.int .u64 sl[i]) (by rw[List.getElem?_map,iW au];rfl) ?_;have hd:sl.drop i=sl[i]::sl.drop (i+1):=List.drop_eq_getElem_cons au;have CW:q9 (sl[i]::sl.drop (i+1)) z=(decide (sl[i]=0∨z<sl[i])&&q9 (sl.drop (i+1)) z):=rfl;rw[hd,CW]at hp;refine qW ?_
  try dsimp only
  by_cases c0:sl[i]=0
  ·refine qs c0 (qU ?_);refine qI (qJ ?_);refine qb omQ ?_;refine bG (sl.length-(i+1)) _ _ omQ ⟨i+1,rfl,by omega,rfl,rfl,?_⟩;rw[hp,iG (.inl c0),Bool.true_and]
  ·refine jQ c0 (qa ?_);by_cases c1:z<sl[i]
   ·refine Xw omQ (qH (qJ ?_));refine qb omQ ?_;refine bG (sl.length-(i+1)) _ _ omQ ⟨i+1,rfl,by omega,rfl,rfl,?_⟩;rw[hp,iG (.inr c1),Bool.true_and]
   ·refine JK omQ (qH (qX (qk (qG ⟨?_,rfl⟩))));rw[hp,iV (λh=>h.elim c0 c1),Bool.false_and]
 ·obtain rfl:i=sl.length:=by omega
  refine jV omQ (qJ (qk (qG ⟨?_,rfl⟩)));rw[hp,List.drop_length];rfl
theorem qx3 {sl:List Int} {v:AV} (hn:2≤n) (hl:sl.length≤1000) (hr:r.length≤1000000) (H:HS g h (cA b r::R)) (S:Rd g R 1 sl.length v (sl.map (.int .u64))) :
  aA n 111 [.ptr b 0,v] h λq h'=>
   HS g h' (qB 142 2 (r.filter λx=>q9 sl x.2).length q ((r.filter λx=>q9 sl x.2).flatMap jI)::cA b (r.filter λx=>!q9 sl x.2)::R):=by
 refine ba (S:=S111) rfl omQ λk hk=>?_;unfold S111;try simp only[iZ]
 obtain⟨sv,H1⟩:=cA.E H;clear H;refine qK (qQ (qZ H1 (b:=b) .here rfl ?_));refine qo H1 e_1 ?_;have fl:∀(p:YN→Bool) (i:Nat),((r.take i).filter p).length≤r.length:=λp i=>Nat.le_trans (List.length_filter_le ..) (by rw[List.length_take];omega)
 refine jL (λc s h'=>∃(i:Nat) (qv wv:AV),s=(.int .i64 (i:Int),.int .i64 (r.length:Int),sv,wv,qv,v,.ptr b 0,())∧i≤r.length∧c=r.length-i∧
   HS g h' (qB 142 2 ((r.take i).filter λx=>q9 sl x.2).length qv (((r.take i).filter λx=>q9 sl x.2).flatMap jI)::qB 142 2 ((r.take i).filter λx=>!q9 sl x.2).length wv (((r.take i).filter λx=>!q9 sl x.2).flatMap jI)::
    qA b [sv]::qB 142 2 r.length sv (r.flatMap jI)::R))
  ?_ (m:=r.length) (by show _<1000000000;omega) ⟨0,.ak,.ak,rfl,Nat.zero_le _,rfl,H1.ak.ak⟩
 clear H1;rintro c ih s h1 bG ⟨i,qv,wv,rfl,hi,rfl,H⟩;dsimp only;by_cases au:i<r.length
 ·refine jF omQ (qX ?_)
  refine jo [] (λs h'=>∃(qv wv:AV),s=(.int .i64 (i:Int),.int .i64 (r.length:Int),sv,wv,qv,v,.ptr b 0,())∧
   HS g h' (qB 142 2 ((r.take (i+1)).filter λx=>q9 sl x.2).length qv (((r.take (i+1)).filter λx=>q9 sl x.2).flatMap jI)::qB 142 2 ((r.take (i+1)).filter λx=>!q9 sl x.2).length wv (((r.take (i+1)).filter λx=>!q9 sl x.2).flatMap jI)::
    qA b [sv]::qB 142 2 r.length sv (r.flatMap jI)::R)) (λj hj=>?_) ?_
  rotate_left
  ·rintro _ h2 ⟨qv,wv,rfl,H2⟩;dsimp only;refine qb omQ ?_;exact bG (r.length-(i+1)) _ _ omQ ⟨i+1,qv,wv,rfl,by omega,rfl,H2⟩
  refine zd (l:=jI r[i]) (H.sl e_3) au omQ (vw (sz:=2) (enc:=jI) (λ_=>rfl) (iW au)) ?_;refine qO H rfl λb2 h2 H2=>?_;refine qh H2 (b:=b2) .here rfl (by show 0+2≤2;omega) rfl λh3 H3=>?_;refine qQ (qZ H3 (b:=b2) .here (x:=.int .u64 r[i].2) rfl ?_);refine qV (qXn (sl:=sl) omQ hl (S.more.more.more.more.more.sl H3)) ?_;rintro _ _ ⟨rfl,rfl⟩;have et:r.take (i+1)=r.take i++[r[i]]:=by rw[List.take_add_one,iW au];rfl
  have f1:=fl (λx=>q9 sl x.2) i;have f2:=fl (λx=>!q9 sl x.2) i;cases hp:q9 sl r[i].2 with
  |true=>refine qX (qF H3 (b:=b2) (off:=0) .here rfl omQ (l:=jI r[i]) rfl ?_);refine qm (n:=1) (l:=jI r[i]) (sz:=2) H3 rfl rfl rfl rfl λv2 h4 H4=>?_;refine ja (H4.aG e_2) (H4.sl .here) omQ omQ rfl λv3 h5 H5=>hj _ _ ⟨v3,wv,rfl,?_⟩;rw[et,List.filter_append,List.filter_append,show[r[i]].filter (λx=>q9 sl x.2)=[r[i]] by simp[hp],show[r[i]].filter (λx=>!q9 sl x.2)=[] by simp[hp],List.append_nil,List.length_append,List.flatMap_append];exact H5.sub (.cons .here (.cons e_2 (.cons e_2 (.cons e_2 (.drop (.drop .refl))))))
  |false=>refine qJ (qF H3 (b:=b2) (off:=0) .here rfl omQ (l:=jI r[i]) rfl ?_);refine qm (n:=1) (l:=jI r[i]) (sz:=2) H3 rfl rfl rfl rfl λv2 h4 H4=>?_;refine ja (H4.aG e_3) (H4.sl .here) omQ omQ rfl λv3 h5 H5=>hj _ _ ⟨qv,v3,rfl,?_⟩;rw[et,List.filter_append,List.filter_append,show[r[i]].filter (λx=>q9 sl x.2)=[] by simp[hp],show[r[i]].filter (λx=>!q9 sl x.2)=[r[i]] by simp[hp],List.append_nil,List.length_append,List.flatMap_append];exact H5.sub (.cons e_3 (.cons .here (.cons e_2 (.cons e_2 (.drop (.drop .refl))))))
 ·obtain rfl:i=r.length:=by omega
  rw[List.take_length]at H;refine jV omQ (qJ ?_);have o1:=H.one e_1;refine qK (qQ ?_);refine qw H (b:=b) e_2 o1 aN λh2 H2=>qk (qG ?_);have H3:=cA.I (r:=r.filter λx=>!q9 sl x.2) (sv:=wv) (H2.sub (.cons .here (.cons e_1 .refl)));exact H3.sub (.cons e_1 (.cons .here (.drop .refl)))
end
end
section
variable {g h:AH} {L R:List SP}
theorem KA {R:List SP} {P:SP}:∀{A:List SP} {i:Nat},A[i]? =some P→aZ (A++R) P (A.eraseIdx i++R):=by
 intro A
 induction A with
 |nil=>intro i h;cases h
 |cons x r ih=>
  intro i h;cases i with
  |zero=>cases h;exact .here
  |succ i=>exact .there (ih (by simpa using h))
def aT (js:List (List qT)) (v:AV):SP:=.ex λvs:List AV=>.all [.fg (vs.length=js.length),qB 29 1 js.length v vs,.all (List.zipWith gI vs js)]
structure Gg where
  rv:AV
  cv:AV
  fe:TypeId
  fv:AV
def QP (r:kY) (z:Gg):List AV:=[.int .i64 r.uA,.int .i64 r.ax,.int .i64 r.Ht,.bool r.ao,.int .i64 r.kind,.int .i64 r.err,.int .u64 r.bV,.int .u64 r.aj,.int .i64 r.born,.int .i64 r.ended,z.rv,z.cv,z.fv,.str r.hX]
def Y0 (r:kY) (z:Gg):List SP:=[qB 164 2 r.reads.length z.rv (r.reads.flatMap jI),qB 164 2 r.cells.length z.cv (r.cells.flatMap jI),qB z.fe 1 r.eO.length z.fv (r.eO.map (.int .i64))]
def dr (r:List kY) (v:AV):SP:=.ex λzs:List (kY×Gg)=>.all [.fg (zs.map (·.1)=r),qB 114 14 zs.length v (zs.flatMap λz=>QP z.1 z.2),.all (zs.flatMap λz=>Y0 z.1 z.2)]
def Qr (r:GS):List AV:=[.int .i64 r.kind,.int .i64 r.err,.str r.hX,.int .u64 r.aj]
def hY (x:Option q8) (v:AV):SP:=match x with
 |none=>.fg (v=.aO)
 |some x=>.ex λa:Nat=>.all [.fg (v=.ptr a 0),aE a x]
structure Um where
  jv:AV
  gv:AV
  nv:AV
  pv:AV
  rv:AV
  lb:Nat
  sv:AV
def yz (t:qr) (q:Um):List AV:=[.int .i64 t.me,.int .i64 t.set.words,.int .i64 t.set.al,.int .i64 t.set.wide,.int .i64 t.set.aa,.int .u64 t.set.start,.int .i64 t.set.af,.int .i64 t.set.writes,.int .i64 t.set.fuel,
 q.jv,.int .i64 t.ax,.int .i64 t.state,.bool t.ao,q.gv,.int .i64 t.ah,.int .i64 t.aF,q.nv,.int .i64 t.born,.bool t.cP,q.pv,q.rv,.ptr q.lb 0,q.sv,.int .i64 t.dB,.int .u64 t.since,.bool t.bj,.int .i64 t.bA]
abbrev Yq (b:Nat) (t:qr) (q:Um) (R:List SP):List SP :=
 qA b (yz t q)::aT t.jobs q.jv::qB 142 2 t.ag.length q.gv (t.ag.flatMap jI)::hY t.now q.nv::dr t.aw q.pv::qB 48 4 t.results.length q.rv (t.results.flatMap Qr)::cA q.lb t.ad::qB 31 1 t.ab.length q.sv (t.ab.map (.int .u64))::R
def aD (b:Nat) (t:qr):SP:=.ex λq:Um=>.all (Yq b t q [])
section
variable {n b:Nat} {t:qr} {q:Um}
theorem aD.E (H:HS g h (aD b t::R)):∃q,HS g h (Yq b t q R):=by obtain⟨q,H⟩:=H.dU;exact⟨q,H.b9⟩
theorem aD.I (H:HS g h (Yq b t q R)):HS g h (aD b t::R):=HS.ei q (HS.allI (A:=Yq b t q []) H)
theorem hY.E {x:q8} {v:AV} (H:HS g h (hY (some x) v::R)):∃a,v=.ptr a 0∧HS g h (aE a x::R):=by obtain⟨a,H⟩:=(show HS g h (.ex (λa:Nat=>SP.all [.fg (v=.ptr a 0),aE a x])::R)from H).dU;have H:=H.b9.dZ;exact⟨a,H.1,H.2⟩
theorem hY.I {x:q8} {a:Nat} (H:HS g h (aE a x::R)):HS g h (hY (some x) (.ptr a 0)::R) :=
 show HS g h (.ex (λa':Nat=>SP.all [.fg (AV.ptr a 0=.ptr a' 0),aE a' x])::R)from HS.ei a (HS.allI (A:=[_,_]) (HS.eH rfl H))
theorem aT.E {js:List (List qT)} {v:AV} (H:HS g h (aT js v::R)):∃vs:List AV,vs.length=js.length∧HS g h (qB 29 1 js.length v vs:: .all (List.zipWith gI vs js)::R):=by obtain⟨vs,H⟩:=H.dU;exact⟨vs,H.b9.dZ⟩
theorem aT.I {js:List (List qT)} {v:AV} {vs:List AV} (hl:vs.length=js.length) (H:HS g h (qB 29 1 js.length v vs:: .all (List.zipWith gI vs js)::R)):HS g h (aT js v::R) :=
 HS.ei vs (HS.allI (A:=[_,_,_]) (HS.eH hl H))
theorem RH {A R:List SP} {P:SP}:aZ (A++P::R) P (A++R):=by
 induction A with
 |nil=>exact .here
 |cons x r ih=>exact .there ih
theorem Qe (hn:11≤n) (B:ThrB t) (hr:t.ag.length≤1000000) (H:HS g h (aD b t::R)):aA n 47 [.ptr b 0] h λ_ h'=>HS g h' (aD b (zB t)::R):=by
 refine ay (S:=S47) rfl omQ λk hk=>?_;unfold S47;try simp only[iZ]
 obtain⟨q,H0⟩:=aD.E H;clear H;refine qK (qQ (qw H0 (b:=b) .here ⟨rfl,rfl⟩ (by simp[yz]) λh1 H1=>?_));refine qK (qQ (qw H1 (b:=b) .here ⟨rfl,rfl⟩ (by simp[yz]) λh2 H2=>?_))
 let T:qr:={ t with born:=0,cP:=false }
 have H2:HS g h2 (Yq b T q R):=H2;have ix:=kL B.set;refine jo [] (λs h'=>∃(x:q8) (a:Nat),s=(.ptr b 0,())∧zB t={ T with state:=1,now:=some x }∧HS g h' (Yq b { T with now:=some x } { q with nv:=.ptr a 0 } R)) (λj hj=>?_) ?_
 rotate_left
 ·rintro _ h3 ⟨x,a,rfl,e,H3⟩;dsimp only;refine qK (qQ (qw H3 (b:=b) .here ⟨rfl,rfl⟩ (by simp[yz]) λh4 H4=>qk (qG ?_)));rw[e];exact aD.I (q:={ q with nv:=.ptr a 0 }) H4
 have fE:=B.jl;have hjb:=B.ax;obtain⟨vs,CX,H3⟩:=aT.E (js:=t.jobs) (H2.aG (P:=aT T.jobs q.jv) e_1);refine qK (qQ (qZ H2 (b:=b) .here rfl ?_));refine qK (qQ (qZ H2 (b:=b) .here rfl ?_));refine qo H3 (sz:=1) (n:=t.jobs.length) (v:=q.jv) .here ?_;by_cases c:t.ax=(t.jobs.length:Int)
 ·rw[show zB t={ t with born:=0,cP:=false,state:=6,now:=none }from iJ c];refine qg c (qX ?_);refine qK (qQ ?_);refine qw H2 (b:=b) .here ⟨rfl,rfl⟩ (by simp[yz]) λh4 H4=>?_;refine qK (qQ ?_);refine qw H4 (b:=b) .here ⟨rfl,rfl⟩ (by simp[yz]) λh5 H5=>qG ?_;refine aD.I (q:={ q with nv:=.aO }) ?_;have H6:=(HS.eH (φ:=AV.aO=.aO) rfl H5);exact H6.sub (.cons e_1 (.cons e_1 (.cons e_1 (.cons .here (.drop .refl)))))
 ·refine qj c (qJ ?_);by_cases dM:t.ao=true
  ·refine qK (qQ (qi (qZ H2 (b:=b) .here (x:=.bool true) (by rw[← dM];rfl) ?_)));refine qX (qK (qQ (qi (qZ H2 (b:=b) .here rfl ?_))));refine qo H2 (n:=t.ag.length) (v:=q.gv) e_2 ?_;refine jL (λc s h'=>∃(i:Nat) (av:AV),s=(.int .i64 (i:Int),.int .i64 (t.ag.length:Int),q.gv,av,.ptr b 0,())∧i≤t.ag.length∧c=t.ag.length-i∧HS g h' (qB 3 1 i av (((t.ag.take i).map (·.1)).map (.int .i64))::Yq b T q R))
    ?_ (m:=t.ag.length) (by show _<1000000000;omega) ⟨0,.ak,rfl,Nat.zero_le _,rfl,H2.ak⟩
   clear H0 H1 H2 H3;rintro c ih s h3 bG ⟨i,av,rfl,hi,rfl,H⟩;dsimp only;by_cases au:i<t.ag.length
   ·refine jF omQ (qX ?_);refine zd (l:=jI t.ag[i]) (H.sl (n:=t.ag.length) (v:=q.gv) (xs:=t.ag.flatMap jI) e_3) au omQ (vw (sz:=2) (enc:=jI) (λ_=>rfl) (iW au)) ?_;refine qO H rfl λb2 h4 H4=>?_;refine qh H4 (b:=b2) .here rfl (by show 0+2≤2;omega) rfl λh5 H5=>?_;refine qQ (qZ H5 (b:=b2) .here (x:=.int .i64 t.ag[i].1) rfl ?_);refine qm (n:=1) (l:=[.int .i64 t.ag[i].1]) (sz:=1) H5 rfl rfl rfl rfl λv2 h6 H6=>?_;refine ja (H6.aG (P:=qB 3 1 i av (((t.ag.take i).map (·.1)).map (.int .i64))) e_2) (H6.sl .here) omQ omQ rfl λv3 h7 H7=>?_;refine qb omQ ?_;refine bG (t.ag.length-(i+1)) _ _ omQ ⟨i+1,v3,rfl,by omega,rfl,?_⟩;have et:((t.ag.take (i+1)).map (·.1)).map (AV.int .i64)=((t.ag.take i).map (·.1)).map (AV.int .i64)++[.int .i64 t.ag[i].1]:=by rw[List.take_add_one,iW au,List.map_append,List.map_append];rfl
    rw[et];exact H7.sub (.cons .here (.drop (.drop .refl)))
   ·obtain rfl:i=t.ag.length:=by omega
    refine jV omQ (qJ ?_);rw[List.take_length]at H;refine qK (qQ (qZ H (b:=b) e_1 rfl ?_));refine qK (qQ (qF H (b:=b) (off:=1) e_1 rfl (by simp) (l:=yd t.set) rfl ?_));refine qV (qVA (bs:=t.ag.map (·.1)) omQ B.set.start.1 (by rw[List.length_map];omega) H (by rw[List.length_map];exact .here)) ?_;rintro _ h4 ⟨a,rfl,H4⟩;refine qK (qQ ?_);refine qw H4 (b:=b) e_2 (x:=.ptr a 0) ⟨rfl,rfl⟩ (by simp[yz]) λh5 H5=>?_;refine hj _ _ ⟨gZ t.me t.set (t.ag.map (·.1)),a,rfl,by unfold zB;rw[iQ c,iJ dM],?_⟩;have H6:=hY.I (H5.aG (P:=aE a (gZ t.me t.set (t.ag.map (·.1)))) e_1);exact H6.sub (.cons e_1 (.cons e_2 (.cons e_2 (.cons .here (.drop (.drop .refl))))))
  ·have hsf:t.ao=false:=by simpa using dM
   refine qK (qQ (qi (qZ H2 (b:=b) .here (x:=.bool false) (by rw[← hsf];rfl) ?_)));refine qJ ?_;have au:t.ax.toNat<t.jobs.length:=by omega
   have sX:t.jobs[t.ax.toNat]? =some t.jobs[t.ax.toNat]:=iW au;have dG:=B.jobs _ (List.getElem_mem au);have CY:t.ax.toNat<vs.length:=by omega
   refine qK (qQ (qZ H2 (b:=b) .here rfl ?_));refine qK (qQ (qF H2 (b:=b) (off:=1) .here rfl (by simp) (l:=yd t.set) rfl ?_));refine qK (qQ (qZ H2 (b:=b) .here rfl ?_));refine qK (qQ (qZ H2 (b:=b) .here (x:=.int .i64 ((t.ax.toNat:Nat):Int)) (by show some (AV.int .i64 t.ax)=_;congr;omega) ?_));refine zd (l:=[vs[t.ax.toNat]]) (H3.sl .here) au omQ (by rw[Nat.mul_one,List.drop_eq_getElem_cons CY];rfl) ?_;have H4:=(H3.aG (P:=.all (List.zipWith gI vs t.jobs)) e_1).b9;have hz:(List.zipWith gI vs t.jobs)[t.ax.toNat]? =some (gI vs[t.ax.toNat] t.jobs[t.ax.toNat]):=by rw[List.getElem?_zipWith,iW CY,sX]
   refine qV (qxP (l:=t.jobs[t.ax.toNat]) omQ B.set.start.1 dG.1 (H4.rd (e:=56) (sz:=5) (n:=(t.jobs[t.ax.toNat]).length) (KA hz)) H4) ?_;rintro _ h5 ⟨a,rfl,H5⟩;have H6:HS g h5 (.all (List.zipWith gI vs t.jobs)::aE a (y5 t.me t.set t.jobs[t.ax.toNat])::qB 29 1 t.jobs.length q.jv vs::qA b (yz T q)::_):=HS.allI (HS.bZ RH H5);have H7:=aT.I CX (H6.aG (P:=qB 29 1 t.jobs.length q.jv vs) e_2);refine qK (qQ ?_);refine qw H7 (b:=b) e_2 (x:=.ptr a 0) ⟨rfl,rfl⟩ (by simp[yz]) λh8 H8=>?_;refine hj _ _ ⟨y5 t.me t.set t.jobs[t.ax.toNat],a,rfl,by unfold zB;rw[iQ c,iQ dM,sX];rfl,?_⟩;have H9:=hY.I (H8.aG (P:=aE a (y5 t.me t.set t.jobs[t.ax.toNat])) e_2);exact H9.sub (.cons e_1 (.cons e_1 (.cons e_1 (.cons .here (.drop .refl)))))
theorem kV (hn:12≤n) (B:ThrB { t with ax:=t.ax+1,ao:=false,ag:=[],ah:=0,aF:=0 }) (H:HS g h (aD b t::R)):aA n 42 [.ptr b 0] h λ_ h'=>HS g h' (aD b (jr t)::R):=by
 refine ay (S:=S42) rfl omQ λk hk=>?_;unfold S42;try simp only[iZ]
 obtain⟨q,H0⟩:=aD.E H;have hj:=B.ax;have fE:=B.jl;dsimp only at hj fE;refine qK (qQ (qZ H0 (b:=b) .here rfl ?_));refine qb omQ ?_;refine qK (qQ ?_);refine qw H0 (b:=b) .here ⟨rfl,rfl⟩ (by simp[yz]) λh1 H1=>?_;refine qM (l:=[.bool false,.ak,.int .i64 0,.int .i64 0]) rfl ?_;refine qK (qQ ?_);refine qh H1 (b:=b) .here rfl (by simp[yz]) rfl λh2 H2=>?_;have H3:=aD.I (b:=b) (t:={ t with ax:=t.ax+1,ao:=false,ag:=[],ah:=0,aF:=0 }) (q:={ q with gv:=.ak }) ((H2.ak (e:=142) (sz:=2)).sub (.cons e_1 (.cons e_1 (.cons .here (.drop .refl)))));exact qV (Qe omQ B (Nat.zero_le _) H3) λ_ h4 H4=>qG H4
theorem qVB (hn:1≤n) (H:HS g h L) (s:aZ L (qA b (yz t q)) R):aA n 32 [.ptr b 0] h λr h'=>r=.int .i64 t.state∧h'=h:=by
 refine ay (S:=S32) rfl omQ λk hk=>?_;unfold S32;try simp only
 refine qK (qQ (qZ H s rfl ?_));exact qG ⟨rfl,rfl⟩
end
end
section
variable {g h:AH} {L R:List SP}
theorem qz9 {i:Int} (h:0≤i):min (2*vW i) 8=vW (i+1):=by
 unfold vW
 repeat' split
 all_goals omega
theorem qxe {c:Int}:vW (min c 8)=vW c:=by
 unfold vW
 repeat' split
 all_goals omega
section
variable {n b:Nat} {t:qr} {q:Um}
theorem ThrB.next (B:ThrB t) (hj:t.ax<t.jobs.length):ThrB { t with ax:=t.ax+1,ao:=false,ag:=[],ah:=0,aF:=0 }:=by have h1:=B.ax;have h2:=B.ad;exact⟨B.set,B.me,B.jobs,B.jl,by show 0≤t.ax+1∧t.ax+1≤(t.jobs.length:Int);omega,by show t.ad.length+0≤9000*t.results.length;omega,B.ab,by show(0:Int)≤0∧(0:Int)≤(t.aw.length:Int);omega,by show(0:Int)≤0∧(0:Int)≤0;omega,λ_=>rfl⟩
theorem RI {draw:Int} (hn:12≤n) (B:ThrB t) (hg:t.ag.length≤1000000) (hd:0≤draw∧draw<256) (H:HS g h (aD b t::R)):aA n 76 [.ptr b 0,.int .u8 draw] h λ_ h'=>HS g h' (aD b (xl t draw)::R):=by
 refine ba (S:=S76) rfl omQ λk hk=>?_;unfold S76;try simp only[iZ]
 obtain⟨q,H0⟩:=aD.E H;clear H;have hc:=B.aF;refine qK (qQ (qi (qZ H0 (b:=b) .here rfl ?_)));refine zk ?_;refine jL (λc s h'=>∃i:Nat,s=(.int .i64 (i:Int),.int .i64 (min t.aF 8),.int .i64 (vW i),.int .u8 draw,.ptr b 0,())∧(i:Int)≤min t.aF 8∧c=(min t.aF 8).toNat-i∧h'=h)
  ?_ (m:=(min t.aF 8).toNat) (by show _<1000000000;omega) ⟨0,rfl,by omega,rfl,rfl⟩
 rintro c ih s _ bG ⟨i,rfl,hi,rfl,rfl⟩;dsimp only;by_cases au:(i:Int)<min t.aF 8
 ·have hb:=Nh i;refine jF au (qX ?_);refine Nv omQ (zk (qb omQ ?_));refine bG ((min t.aF 8).toNat-(i+1)) _ _ omQ ⟨i+1,?_,by omega,rfl,rfl⟩;rw[show((2:Nat):Int)=2 from rfl,show((8:Nat):Int)=8 from rfl,qz9 omQ]
  try rfl
 ·refine jV au (qJ ?_);have DP:(i:Int)=min t.aF 8:=by omega
  rw[DP,qxe];have hb:=Nh t.aF;refine xg omQ (qb omQ (Ja omQ ?_));have em:draw.tmod (vW t.aF+((1:Nat):Int))=draw%(vW t.aF+1):=by rw[Int.tmod_eq_emod_of_nonneg hd.1];rfl
  rw[em];refine qK (qQ ?_);refine qw H0 (b:=b) .here ⟨rfl,rfl⟩ (by simp[yz]) λh1 H1=>?_;refine qK (qQ ?_);refine qw H1 (b:=b) .here ⟨rfl,rfl⟩ (by simp[yz]) λh2 H2=>?_;refine qK (qQ (qZ H2 (b:=b) .here rfl ?_));unfold xl;have H3:HS g h2 (aD b { t with bA:=draw%(vW t.aF+1),state:=3 }::R):=aD.I (q:=q) H2;by_cases c0:draw%(vW t.aF+1)=0
  ·rw[iJ c0];refine qg c0 (qX ?_);rw[c0]at H3;exact qV (Qe (t:={ t with bA:=0,state:=3 }) omQ ⟨B.set,B.me,B.jobs,B.jl,B.ax,B.ad,B.ab,B.ah,B.aF,B.mj⟩ hg H3) λ_ h4 H4=>qk (qG H4)
  ·rw[iQ c0];exact qj c0 (qJ (qk (qG H3)))
theorem qGm (hn:12≤n) (O:xn t) (H:HS g h (aD b t::R)):aA n 29 [.ptr b 0] h λ_ h'=>HS g h' (aD b (yL t)::R):=by
 refine ay (S:=S29) rfl omQ λk hk=>?_;unfold S29;try simp only[iZ]
 obtain⟨q,H0⟩:=aD.E H;unfold yL;refine qK (qQ (qZ H0 (b:=b) .here rfl ?_));by_cases c:t.state=3
 ·rw[iJ c];have B:=O.b;have hp:=O.Hv c;have hl:=B.len (by have:=O.fz;split at this<;>omega);refine qs c (qJ ?_);refine qK (qQ (qZ H0 (b:=b) .here rfl ?_));refine zD omQ ?_;refine qK (qQ ?_);refine qw H0 (b:=b) .here ⟨rfl,rfl⟩ (by simp[yz]) λh1 H1=>?_;refine qK (qQ (qZ H1 (b:=b) .here rfl ?_));have H3:HS g h1 (aD b { t with bA:=t.bA-1 }::R):=aD.I (q:=q) H1;by_cases c0:t.bA-1=0
  ·rw[iJ c0];refine qg c0 (qX ?_);rw[c0]at H3;exact qV (Qe (t:={ t with bA:=0 }) omQ ⟨B.set,B.me,B.jobs,B.jl,B.ax,B.ad,B.ab,B.ah,B.aF,B.mj⟩ (by show t.ag.length≤_;omega) H3) λ_ h4 H4=>qG H4
  ·rw[iQ c0];exact qj c0 (qJ (qG H3))
 ·rw[iQ c];exact jQ c (qX (qG H))
theorem RJ (hn:13≤n) (C:w5 t) (hs:t.ab.length≤5) (dM:t.ao=false) (hr:t.ad.length≤1000000) (H:HS g h (aD b t::R)):aA n 84 [.ptr b 0] h λ_ h'=>HS g h' (aD b (xi t)::R):=by
 refine ay (S:=S84) rfl omQ λk hk=>?_;unfold S84;try simp only[iZ]
 obtain⟨q,H0⟩:=aD.E H;unfold xi;refine jo [] (λs h'=>s=(.ptr b 0,())∧HS g h' (aD b (if(t.ab.length:Int)=t.me then{ t with ab:=t.ab++[0] }else t)::R)) (λj hj=>?_) ?_
 ·refine qK (qQ (qZ H0 (b:=b) .here rfl ?_));refine qo H0 (n:=t.ab.length) (v:=q.sv) e_7 ?_;refine qK (qQ (qZ H0 (b:=b) .here rfl ?_));by_cases c:(t.ab.length:Int)=t.me
  ·refine qg c (qX ?_);refine qK (qQ (qZ H0 (b:=b) .here rfl ?_));refine qm (n:=1) (l:=[.int .u64 0]) (sz:=1) H0 rfl rfl rfl rfl λv2 h2 H2=>?_;refine ja (H2.aG (P:=qB 31 1 t.ab.length q.sv (t.ab.map (.int .u64))) e_8) (H2.sl .here) omQ omQ rfl λv3 h3 H3=>?_;have o3:=H3.one .here;refine qK (qQ ?_);refine qw H3 (b:=b) e_2 o3 (by simp[yz]) λh4 H4=>?_;refine hj _ _ ⟨rfl,?_⟩;rw[iJ c];refine aD.I (q:={ q with sv:=v3 }) ?_;have e:(t.ab++[(0:Int)]).length=t.ab.length+1:=by simp
   unfold Yq;rw[e,List.map_append];exact H4.sub (.cons .here (.cons e_2 (.cons e_2 (.cons e_2 (.cons e_2 (.cons e_2 (.cons e_2 (.cons .here (.drop .refl)))))))))
  ·exact qj c (qJ (hj _ _ ⟨rfl,by rw[iQ c];exact H⟩))
 ·clear H0 H;rintro _ h1 ⟨rfl,H⟩;have key:∀u:qr,u=(if(t.ab.length:Int)=t.me then{ t with ab:=t.ab++[0] }else t)→w5 u∧u.ao=false∧u.ad=t.ad∧u.results=t.results∧u.ab.length≤6:=by
   rintro u rfl
   split
   ·have e:(t.ab++[(0:Int)]).length=t.ab.length+1:=by simp
    exact⟨C.go rfl rfl rfl rfl rfl rfl rfl (by show(t.ab++[(0:Int)]).length≤6;omega) C.ah C.aF rfl rfl,dM,rfl,rfl,by show(t.ab++[(0:Int)]).length≤6;omega⟩
   ·exact⟨C,dM,rfl,rfl,by omega⟩
  have key:=key _ rfl;generalize(if(t.ab.length:Int)=t.me then{ t with ab:=t.ab++[0] }else t)=u at*;obtain⟨CU,hus,Ay,hue,rZ⟩:=key;dsimp only;obtain⟨q,H0⟩:=aD.E H;refine qK (qQ (qZ H0 (b:=b) .here rfl ?_));refine qo H0 (n:=u.ab.length) (v:=q.sv) e_7 ?_;refine qK (qQ (qi (qi (qZ H0 (b:=b) .here rfl ?_))));unfold xz;by_cases c:(u.ab.length:Int)<u.set.aa
  ·rw[iJ c];exact jF c (qX (qk (qG H)))
  ·rw[iQ c];refine jV c (qJ ?_);refine qK (qQ (qZ H0 (b:=b) .here rfl ?_));refine qK (qQ (qZ H0 (b:=b) .here rfl ?_));have H1:=H0.aG (P:=cA q.lb u.ad) e_6;refine qV (qx3 (sl:=u.ab) omQ omQ (by rw[Ay];exact hr) H1 (H1.drop.rd (e:=31) (sz:=1) (n:=u.ab.length) e_6)) ?_;intro v h2 H2;have pE:=CU.ad;have hg:=CU.mj hus;have hf:=Zc (λr:YN=>q9 u.ab r.2) u.ad;refine qo H2 .here ?_;by_cases c0:(u.ad.filter λr=>q9 u.ab r.2)=[]
   ·rw[iJ c0];refine qg (by rw[c0];rfl) (qX ?_);have H3:=aD.I (b:=b) (t:={ u with ad:=u.ad.filter λr=>!q9 u.ab r.2 }) (q:=q) (H2.sub (.cons e_2 (.cons e_2 (.cons e_2 (.cons e_2 (.cons e_2 (.cons e_2 (.cons e_1 (.cons e_1 (.drop .refl))))))))));have B2:ThrB { u with ad:=u.ad.filter λr=>!q9 u.ab r.2 }:=⟨CU.set,CU.me,CU.jobs,CU.jl,CU.ax,by show(u.ad.filter λr=>!q9 u.ab r.2).length+u.ag.length≤9000*u.results.length;omega,rZ,CU.ah,CU.aF,CU.mj⟩;exact qV (kV omQ (B2.next CU.lt) H3) λ_ h4 H4=>qk (qG H4)
   ·rw[iQ c0];refine qj (λh0=>c0 (iA omQ)) (qJ ?_);have o2:=H2.one .here;refine qM (l:=[.bool true,v,.int .i64 0,.int .i64 0]) (by simp only[yV,o2.1];rfl) ?_;refine qK (qQ ?_);refine qh H2 (b:=b) e_2 rfl (by simp[yz]) (by simp only[qn,AV.cells,List.all_cons,o2.2];rfl) λh3 H3=>?_;have H4:=aD.I (b:=b) (t:={ u with ad:=u.ad.filter (λr=>!q9 u.ab r.2),ao:=true,ag:=u.ad.filter (λr=>q9 u.ab r.2),ah:=0,aF:=0 }) (q:={ q with gv:=v }) (H3.sub (.cons .here (.cons e_2 (.cons .here (.cons e_2 (.cons e_2 (.cons e_2 (.cons .here (.cons e_1 (.drop .refl))))))))));refine qV (Qe (t:={ u with ad:=u.ad.filter (λr=>!q9 u.ab r.2),ao:=true,ag:=u.ad.filter (λr=>q9 u.ab r.2),ah:=0,aF:=0 }) omQ ⟨CU.set,CU.me,CU.jobs,CU.jl,CU.ax,?_,rZ,by show(0:Int)≤0∧(0:Int)≤(List.length _:Int);omega,by show(0:Int)≤0∧(0:Int)≤0;decide,λh=>by cases h⟩ (by show(u.ad.filter λr=>q9 u.ab r.2).length≤1000000;rw[Ay]at hf;rw[Ay];omega) H4) λ_ h4 H4=>qk (qG H4);show(u.ad.filter λr=>!q9 u.ab r.2).length+(u.ad.filter λr=>q9 u.ab r.2).length≤9000*u.results.length;omega
end
end
section
variable {g h:AH} {L R:List SP}
section
variable {n a b:Nat} {t:qr} {q:Um} {x:q8}
abbrev cr (a b:Nat) (t:qr) (x:q8) (q:Um) (R:List SP):List SP :=
 aE a x::qA b (yz t { q with nv:=.ptr a 0 })::aT t.jobs q.jv::qB 142 2 t.ag.length q.gv (t.ag.flatMap jI)::dr t.aw q.pv::qB 48 4 t.results.length q.rv (t.results.flatMap Qr)::cA q.lb t.ad::qB 31 1 t.ab.length q.sv (t.ab.map (.int .u64))::R
theorem cr.I (hx:t.now=some x) (H:HS g h (cr a b t x q R)):HS g h (aD b t::R):=by refine aD.I (q:={ q with nv:=.ptr a 0 }) ?_;have H1:=hY.I H;unfold Yq;rw[hx];exact H1.sub (.cons e_1 (.cons e_1 (.cons e_1 (.cons .here .refl))))
theorem aD.V (hx:t.now=some x) (H:HS g h (aD b t::R)):∃a q,HS g h (cr a b t x q R):=by
 obtain⟨q,H0⟩:=aD.E H;unfold Yq at H0;rw[hx]at H0;obtain⟨a,e,H1⟩:=hY.E (H0.aG (P:=hY (some x) q.nv) e_3);have eq:{ q with nv:=.ptr a 0 }=q:=by rw[← e]
 refine⟨a,q,?_⟩;unfold cr;rw[eq];exact H1
theorem Gx {a:Nat} (hn:1≤n) (H:HS g h L) (s:aZ L (aE a x) R):aA n 50 [.ptr a 0] h λr h'=>r=.int .i64 (jT x)∧h'=h:=by obtain⟨q,H1⟩:=aE.E (H.aG s);exact RE hn H1 .here
theorem Ix {a:Nat} (hn:1≤n) (H:HS g h L) (s:aZ L (aE a x) R):aA n 75 [.ptr a 0] h λr h'=>r=.int .i64 (ku x)∧h'=h:=by obtain⟨q,H1⟩:=aE.E (H.aG s);exact qgT hn H1 .here
theorem RK {a:Nat} (hn:1≤n) (H:HS g h L) (s:aZ L (aE a x) R):aA n 78 [.ptr a 0] h λr h'=>r=.int .i64 (xF x)∧h'=h:=by obtain⟨q,H1⟩:=aE.E (H.aG s);exact qkH hn H1 .here
theorem UI {a:Nat} (hn:1≤n) (H:HS g h L) (s:aZ L (aE a x) R):aA n 80 [.ptr a 0] h λr h'=>r=.int .u64 x.aj∧h'=h:=by obtain⟨q,H1⟩:=aE.E (H.aG s);exact qX1 hn H1 .here
theorem Km {a:Nat} (hn:1≤n) (H:HS g h L) (s:aZ L (aE a x) R):aA n 48 [.ptr a 0] h λr h'=>r=.bM [.int .u64 x.bV,.bool x.begun]∧h'=h:=by obtain⟨q,H1⟩:=aE.E (H.aG s);exact qVN hn H1 .here
theorem qx1 {pick:Int} (hn:12≤n) (O:zE x) (H:HS g h (cr a b t x q R)):aA n 57 [.ptr b 0,.int .i64 pick] h λr h'=>
  ∃z:Gg,r=.agg (QP (jH t x pick) z)∧HS g h' (Y0 (jH t x pick) z++cr a b t x q R):=by
 refine ba (S:=S57) rfl omQ λk hk=>?_;unfold S57;try simp only[iZ]
 refine qO H rfl λv0 h1 H1=>?_;refine qK (qQ (qZ H1 (b:=b) e_2 rfl ?_));refine qV (Km omQ H1 e_1) ?_;rintro _ _ ⟨rfl,rfl⟩;refine qD rfl (qD rfl ?_);refine qV (Gx omQ H1 e_1) ?_;rintro _ _ ⟨rfl,rfl⟩;refine jo [] (λs h'=>s=(.int .i64 (if zC x=true then 2 else jT x),.int .u64 x.bV,.ptr a 0,.ptr v0 0,.int .i64 pick,.ptr b 0,())∧HS g h' (aE a x::qA v0 [.int .i64 0,.int .i64 0,.int .i64 0,.bool false,.int .i64 0,.int .i64 0,.int .u64 0,.int .u64 0,.int .i64 0,.int .i64 0,.ak,.ak,.ak,.str []]::qA b (yz t { q with nv:=.ptr a 0 })::(cr a b t x q R).drop 2)) (λj hj=>?_) ?_
 ·refine qV (J0 omQ O.c (H1.aG (P:=aE a x) e_1)) ?_;rintro _ h2 ⟨rfl,H2⟩;cases hw:zC x with
  |true=>exact qX (hj _ _ ⟨by rw[hw];rfl,H2⟩)
  |false=>exact qJ (hj _ _ ⟨by rw[hw];rfl,H2⟩)
 ·clear H H1;rintro _ la ⟨rfl,bN⟩;dsimp only;refine qW ?_
  try dsimp only
  refine qK (qQ (qZ bN (b:=b) e_2 rfl ?_));refine qK (qQ (qZ bN (b:=b) e_2 rfl ?_));refine qK (qQ (qi (qZ bN (b:=b) e_2 rfl ?_)));refine qK (qQ (qi (qZ bN (b:=b) e_2 rfl ?_)));refine qV (RK omQ bN .here) ?_;rintro _ _ ⟨rfl,rfl⟩;refine qV (UI omQ bN .here) ?_;rintro _ _ ⟨rfl,rfl⟩;refine qK (qQ (qZ bN (b:=b) e_2 rfl ?_));refine qV (qVa omQ O bN) λrv DF pM=>?_;refine qV (qKF omQ O (pM.aG (P:=aE a x) e_1)) λcv FN pN=>?_;refine qV (MV omQ O (pN.aG (P:=aE a x) e_1)) ?_;rintro fv BZ ⟨fe,pO⟩;refine qV (Va omQ O (pO.aG (P:=aE a x) e_1)) ?_;rintro _ h48 ⟨rfl,sd⟩;have o1:=sd.one (v:=rv) e_3;have o2:=sd.one (v:=cv) e_2;have o3:=sd.one (v:=fv) e_1;refine qM (l:=QP (jH t x pick) ⟨rv,cv,fe,fv⟩) (by simp only[yV,o1.1,o2.1,o3.1];rfl) ?_;refine qh sd (b:=v0) e_4 rfl (by show 0+14≤14;omega) (by simp only[qn,QP,AV.cells,List.all_cons,o1.2,o2.2,o3.2];rfl) λPa RL=>?_;refine qc pO e_5 rfl sd e_5 rfl (HS.lt bN e_2) ?_;refine qc pN e_4 rfl pO e_5 rfl (HS.lt bN e_2) ?_;refine qc pM e_3 rfl pN e_4 rfl (HS.lt bN e_2) ?_;refine qc bN e_2 rfl pM e_3 rfl (HS.lt bN e_2) ?_;refine qc bN e_2 rfl bN e_2 rfl (HS.lt bN e_2) ?_;refine qc bN e_2 rfl bN e_2 rfl (HS.lt bN e_2) ?_;refine qc pO e_5 rfl sd e_5 rfl (HS.lt bN e_2) ?_;refine qc pN e_4 rfl pO e_5 rfl (HS.lt bN e_2) ?_;refine qc pM e_3 rfl pN e_4 rfl (HS.lt bN e_2) ?_;refine qc bN e_2 rfl pM e_3 rfl (HS.lt bN e_2) ?_;refine qc bN e_2 rfl bN e_2 rfl (HS.lt bN e_2) ?_;refine qc bN e_2 rfl bN e_2 rfl (HS.lt bN e_2) ?_;refine qc pO e_5 rfl sd e_5 rfl (HS.lt bN e_2) ?_;refine qc pN e_4 rfl pO e_5 rfl (HS.lt bN e_2) ?_;refine qc pM e_3 rfl pN e_4 rfl (HS.lt bN e_2) ?_;refine qc bN e_2 rfl pM e_3 rfl (HS.lt bN e_2) ?_;refine qc bN e_2 rfl bN e_2 rfl (HS.lt bN e_2) ?_;refine qc bN e_2 rfl bN e_2 rfl (HS.lt bN e_2) ?_;refine qc pO e_5 rfl sd e_5 rfl (HS.lt bN e_2) ?_;refine qc pN e_4 rfl pO e_5 rfl (HS.lt bN e_2) ?_;refine qc pM e_3 rfl pN e_4 rfl (HS.lt bN e_2) ?_;refine qc bN e_2 rfl pM e_3 rfl (HS.lt bN e_2) ?_;refine qc bN e_2 rfl bN e_2 rfl (HS.lt bN e_2) ?_;refine qc bN e_2 rfl bN e_2 rfl (HS.lt bN e_2) ?_;refine qc pO e_5 rfl sd e_5 rfl (HS.lt bN e_2) ?_;refine qc pN e_4 rfl pO e_5 rfl (HS.lt bN e_2) ?_;refine qc pM e_3 rfl pN e_4 rfl (HS.lt bN e_2) ?_;refine qc bN e_2 rfl pM e_3 rfl (HS.lt bN e_2) ?_;refine qc bN e_2 rfl bN e_2 rfl (HS.lt bN e_2) ?_;refine qc bN e_2 rfl bN e_2 rfl (HS.lt bN e_2) ?_;refine qk (qF RL (b:=v0) (off:=0) .here rfl omQ (l:=QP (jH t x pick) ⟨rv,cv,fe,fv⟩) rfl ?_);refine qG ⟨⟨rv,cv,fe,fv⟩,rfl,?_⟩;exact RL.sub (.cons e_4 (.cons e_3 (.cons e_2 (.cons e_1 (.drop .refl)))))
end
end
section
variable {g h:AH} {L R:List SP}
section
variable {n a b:Nat} {t:qr} {q:Um} {x:q8}
theorem qkU (hn:14≤n) (C:w5 t) (dM:t.ao=false) (hr:t.ad.length≤1000000) (H:HS g h (aD b t::R)):aA n 83 [.ptr b 0] h λ_ h'=>HS g h' (aD b (vE t)::R):=by
 refine ay (S:=S83) rfl omQ λk hk=>?_;unfold S83;try simp only[iZ]
 obtain⟨q,H0⟩:=aD.E H;unfold vE;refine qK (qQ (qZ H0 (b:=b) .here rfl ?_));refine qV (qGD omQ (H0.aG (P:=cA q.lb t.ad) e_6)) ?_;rintro _ _ ⟨rfl,rfl⟩;by_cases c:t.ad=[]
 ·rw[iJ c];refine qg (by rw[c];rfl) (qX ?_);exact qV (kV omQ (C.toThrB.next C.lt) H) λ_ h1 H1=>qG H1
 ·rw[iQ c];refine qj (λh0=>c (iA omQ)) (qJ ?_);refine qK (qQ ?_);refine qw H0 (b:=b) .here ⟨rfl,rfl⟩ (by simp[yz]) λh1 H1=>?_;refine qK (qQ ?_);refine qw H1 (b:=b) .here (x:=.ak) ⟨rfl,rfl⟩ (by simp[yz]) λh2 H2=>?_;have H3:=aD.I (b:=b) (t:={ t with state:=5,ab:=[] }) (q:={ q with sv:=.ak }) ((H2.ak (e:=31) (sz:=1)).sub (.cons e_1 (.cons e_1 (.cons e_1 (.cons e_1 (.cons e_1 (.cons e_1 (.cons e_1 (.cons .here (.drop .refl))))))))));refine qV (RJ (t:={ t with state:=5,ab:=[] }) omQ (C.go rfl rfl rfl rfl rfl rfl rfl (Nat.zero_le _) C.ah C.aF rfl rfl) (Nat.zero_le _) dM hr H3) λ_ h4 H4=>qG H4
theorem VN {w:Int} (hn:14≤n) (C:w5 t) (dM:t.ao=false) (hs:t.ab.length≤4) (hr:t.ad.length≤1000000) (H:HS g h (aD b t::R)):aA n 53 [.ptr b 0,.int .u64 w] h λ_ h'=>HS g h' (aD b (xi { t with ab:=t.ab++[w] })::R):=by
 refine ba (S:=S53) rfl omQ λk hk=>?_;unfold S53;try simp only[iZ]
 obtain⟨q,H0⟩:=aD.E H;refine qK (qQ (qZ H0 (b:=b) .here rfl ?_));refine qm (n:=1) (l:=[.int .u64 w]) (sz:=1) H0 rfl rfl rfl rfl λv2 h2 H2=>?_;refine ja (H2.aG (P:=qB 31 1 t.ab.length q.sv (t.ab.map (.int .u64))) e_8) (H2.sl .here) omQ omQ rfl λv3 h3 H3=>?_;have o3:=H3.one .here;refine qK (qQ ?_);refine qw H3 (b:=b) e_2 o3 (by simp[yz]) λh4 H4=>?_;have e:(t.ab++[w]).length=t.ab.length+1:=by simp
 have H5:HS g h4 (aD b { t with ab:=t.ab++[w] }::R):=by refine aD.I (q:={ q with sv:=v3 }) ?_;unfold Yq;rw[e,List.map_append];exact H4.sub (.cons .here (.cons e_2 (.cons e_2 (.cons e_2 (.cons e_2 (.cons e_2 (.cons e_2 (.cons .here (.drop .refl)))))))))
 exact qV (RJ (t:={ t with ab:=t.ab++[w] }) omQ (C.go rfl rfl rfl rfl rfl rfl rfl (by show(t.ab++[w]).length≤6;omega) C.ah C.aF rfl rfl) (by show(t.ab++[w]).length≤5;omega) dM hr H5) λ_ h4 H4=>qG H4
theorem qqd {fin:Int} (hn:14≤n) (C:w5 t) (hr:t.ad.length+t.ag.length≤1000000) (H:HS g h (aD b t::R)):aA n 77 [.ptr b 0,.int .i64 fin] h λ_ h'=>HS g h' (aD b (gE t fin)::R):=by
 refine ba (S:=S77) rfl omQ λk hk=>?_;unfold S77;try simp only[iZ]
 obtain⟨q,H0⟩:=aD.E H;unfold gE;refine jo [] (λs h'=>s=(.ptr b 0,())∧HS g h' (aD b (if fin=4 then{ t with ad:=t.ad++t.ag }else t)::R)) (λj hj=>?_) ?_
 ·by_cases c:fin=4
  ·refine qg c (qX ?_);refine qK (qQ (qi (qZ H0 (b:=b) .here rfl ?_)));refine qo H0 (n:=t.ag.length) (v:=q.gv) e_2 ?_;refine jL (λc s h'=>∃i:Nat,s=(.int .i64 (i:Int),.int .i64 (t.ag.length:Int),q.gv,.ptr b 0,())∧i≤t.ag.length∧c=t.ag.length-i∧HS g h' (Yq b { t with ad:=t.ad++t.ag.take i } q R))
    ?_ (m:=t.ag.length) (by show _<1000000000;omega) ⟨0,rfl,Nat.zero_le _,rfl,by rw[List.take_zero,List.append_nil];exact H0⟩
   clear H0 H;rintro c ih s h3 bG ⟨i,rfl,hi,rfl,H⟩;dsimp only;by_cases au:i<t.ag.length
   ·refine jF omQ (qX ?_);refine zd (l:=jI t.ag[i]) (H.sl (n:=t.ag.length) (v:=q.gv) (xs:=t.ag.flatMap jI) e_2) au omQ (vw (sz:=2) (enc:=jI) (λ_=>rfl) (iW au)) ?_;refine qO H rfl λb2 h4 H4=>?_;refine qh H4 (b:=b2) .here rfl (by show 0+2≤2;omega) rfl λh5 H5=>?_;refine qK (qQ (qZ H5 (b:=b) e_1 rfl ?_));refine qQ (qZ H5 (b:=b2) .here (x:=.int .u64 t.ag[i].2) rfl ?_);refine qQ (qZ H5 (b:=b2) .here (x:=.int .i64 t.ag[i].1) rfl ?_);refine qm (n:=1) (l:=[.int .i64 t.ag[i].1]) (sz:=1) H5 rfl rfl rfl rfl λv2 h6 H6=>?_;have H7:=H6.aG (P:=cA q.lb (t.ad++t.ag.take i)) e_8;refine qV (VR (z:=t.ag[i].2) (bs:=[t.ag[i].1]) omQ (by rw[List.length_append,List.length_take];show _+1≤_;omega) H7 (H7.drop.rd (sz:=1) (n:=1) .here)) λ_ h8 H8=>?_;refine qb omQ ?_;refine bG (t.ag.length-(i+1)) _ _ omQ ⟨i+1,rfl,by omega,rfl,?_⟩;have et:t.ad++t.ag.take (i+1)=(t.ad++t.ag.take i)++[(t.ag[i].1,t.ag[i].2)]:=by rw[List.take_add_one,iW au,List.append_assoc];rfl
    unfold Yq;rw[et];exact H8.sub (.cons e_3 (.cons e_3 (.cons e_3 (.cons e_3 (.cons e_3 (.cons e_3 (.cons .here (.cons e_2 (.drop (.drop .refl))))))))))
   ·obtain rfl:i=t.ag.length:=by omega
    refine jV omQ (qJ ?_);rw[List.take_length]at H;exact hj _ _ ⟨rfl,by rw[iJ c];exact aD.I (q:=q) H⟩
  ·exact qj c (qJ (hj _ _ ⟨rfl,by rw[iQ c];exact H⟩))
 ·clear H0 H;rintro _ h1 ⟨rfl,H⟩;dsimp only;refine qV (kV omQ ?_ H) λ_ h4 H4=>qk (qG H4);have h1:=C.ax;have h2:=C.ad;have h3:=C.lt
  split
  ·exact⟨C.set,C.me,C.jobs,C.jl,by show 0≤t.ax+1∧t.ax+1≤(t.jobs.length:Int);omega,by show(t.ad++t.ag).length+0≤9000*t.results.length;rw[List.length_append];omega,C.ab,by show(0:Int)≤0∧(0:Int)≤(t.aw.length:Int);omega,by show(0:Int)≤0∧(0:Int)≤0;omega,λ_=>rfl⟩
  ·exact C.toThrB.next C.lt
theorem qW4 {an:cO} {draw:Int} (hn:13≤n) (B:ThrB t) (hg:t.ag.length≤1000000) (hd:0≤draw∧draw<256) (H:HS g h (aD b t::R)):aA n 52 [.ptr b 0,.agg (z6 an),.int .u8 draw] h λ_ h'=>
  HS g h' (aD b (if an.err=0∧an.word≠0∧(t.bj=false∨an.word=t.since)then{ t with bj:=true,since:=an.word }else xl t draw)::R):=by
 refine cL (S:=S52) rfl omQ λk hk=>?_;unfold S52;try simp only[iZ]
 obtain⟨q,H0⟩:=aD.E H;clear H;refine qO H0 rfl λv0 h1 H1=>?_;clear H0;have no:∀c:¬(an.err=0∧an.word≠0∧(t.bj=false∨an.word=t.since)),wp (ju (callT tab qx k) (.fn 76 [] []) [.ptr b 0,.int .u8 draw] h1 λ_ h'=>some (.bM [],h')) λ_ h'=>
  HS g h' (aD b (if an.err=0∧an.word≠0∧(t.bj=false∨an.word=t.since)then{ t with bj:=true,since:=an.word }else xl t draw)::R):=λc=>by
  rw[iQ c];exact qV (RI omQ B hg hd (aD.I (q:=q) H1.drop)) λ_ h2 H2=>qG H2
 refine qQ (qZ H1 (b:=v0) .here (x:=.int .i64 an.err) rfl ?_);by_cases c1:an.err=0
 ·refine qg c1 ?_;refine qW ?_
  try dsimp only
  refine qa (qQ (qZ H1 (b:=v0) .here (x:=.int .u64 an.word) rfl ?_));by_cases c2:an.word=0
  ·refine qs c2 (qH ?_);refine qW ?_
   try dsimp only
   refine qU (qW ?_)
   try dsimp only
   refine zF (qW ?_)
   try dsimp only
   refine qU (qI (qJ ?_));exact no λh=>h.2.1 c2
  ·refine jQ c2 (qH ?_);refine qW ?_
   try dsimp only
   refine qa ?_
   have yes:∀c:(t.bj=false∨an.word=t.since),wp (qp (.ptr v0 0) 0 λv22=>jj h1 v22 λog=>xE (.ptr b 0) λv24=>qp v24 25 λol=>jP h1 ol (.bool true) 1 λue=>xE (.ptr b 0) λuh=>qp uh 24 λv28=>
     jP ue v28 og 1 λra=>Ys v22 none og h1 ue h1.nx (some (.bM [],ra))) λ_ h'=>
      HS g h' (aD b (if an.err=0∧an.word≠0∧(t.bj=false∨an.word=t.since)then{ t with bj:=true,since:=an.word }else xl t draw)::R):=λc=>by
    rw[iJ ⟨c1,c2,c⟩];refine qi (qZ H1 (b:=v0) .here (x:=.int .u64 an.word) rfl ?_);refine qK (qQ ?_);refine qw H1 (b:=b) e_1 ⟨rfl,rfl⟩ (by simp[yz]) λh2 H2=>?_;refine qK (qQ ?_);refine qw H2 (b:=b) .here ⟨rfl,rfl⟩ (by simp[yz]) λh3 H3=>?_;refine qc H1 .here rfl H2 e_1 rfl (HS.lt H1 .here) ?_;exact qG (aD.I (q:=q) (H3.sub (.cons .here (.drop .refl))))
   by_cases c3:t.bj=false
   ·refine qK (qQ (qZ H1 (b:=b) e_1 (x:=.bool false) (by rw[← c3];rfl) ?_));refine jB (qW ?_)
    try dsimp only
    refine jJ (qW ?_)
    try dsimp only
    refine qa (qH ?_)
    try dsimp only
    refine qH (qX ?_);refine qW ?_;exact yes (.inl c3)
   ·have c3':t.bj=true:=by simpa using c3
    refine qK (qQ (qZ H1 (b:=b) e_1 (x:=.bool true) (by rw[← c3'];rfl) ?_));refine jY (qW ?_)
    try dsimp only
    refine qd (qQ (qZ H1 (b:=v0) .here (x:=.int .u64 an.word) rfl ?_));refine qK (qQ (qZ H1 (b:=b) e_1 rfl ?_));by_cases c4:an.word=t.since
    ·refine qg c4 ?_;refine qW ?_
     try dsimp only
     refine qa (qI ?_)
     try dsimp only
     refine qH (qX ?_);refine qW ?_;exact yes (.inr c4)
    ·refine qj c4 ?_;refine qW ?_
     try dsimp only
     refine qa (qI ?_)
     try dsimp only
     refine qH (qJ ?_);exact no λh=>by rcases h.2.2 with h |h;exact c3 h;exact c4 h
 ·refine qj c1 ?_;refine qW ?_
  try dsimp only
  refine qU (qI (qW ?_))
  try dsimp only
  refine qU (qW ?_)
  try dsimp only
  refine zF (qW ?_)
  try dsimp only
  refine qU (qI (qJ ?_));exact no λh=>c1 h.1
theorem dr.E {r:List kY} {v:AV} (H:HS g h (dr r v::R)):∃zs:List (kY×Gg),zs.map (·.1)=r∧HS g h (qB 114 14 zs.length v (zs.flatMap λz=>QP z.1 z.2):: .all (zs.flatMap λz=>Y0 z.1 z.2)::R):=by obtain⟨zs,H⟩:=H.dU;exact⟨zs,H.b9.dZ⟩
theorem dr.I {r:List kY} {v:AV} {zs:List (kY×Gg)} (hl:zs.map (·.1)=r) (H:HS g h (qB 114 14 zs.length v (zs.flatMap λz=>QP z.1 z.2):: .all (zs.flatMap λz=>Y0 z.1 z.2)::R)):HS g h (dr r v::R) :=
 HS.ei zs (HS.allI (A:=[_,_,_]) (HS.eH hl H))
theorem KI {A B:List SP} (H:HS g h (.all A::(B++R))):HS g h (.all (A++B)::R):=by refine HS.allI ?_;rw[List.append_assoc];exact H.b9
theorem qWC {draw pick:Int} (hn:15≤n) (C:w5 t) (hx:t.now=some x) (hp:t.aw.length≤1000000) (hcf:t.ah≤1000000) (RN:(t.results.length:Int)≤t.ax+(if t.ao=true then 1 else 0)) (hd:0≤draw∧draw<256) (H:HS g h (aD b t::R)) :
  aA n 51 [.ptr b 0,.int .u8 draw,.int .i64 pick] h λ_ h'=>HS g h' (aD b (xX t x draw pick)::R):=by
 refine cL (S:=S51) rfl omQ λk hk=>?_;unfold S51;try simp only[iZ]
 have hN:=C.now x hx;have O:=hN.1;have tC:t.ad.length+t.ag.length≤63000:=C.len (by split at RN<;>omega);have hT:=C.ah;have hCf:=C.aF;have fE:=C.jl;have hjb:=C.ax;have au:=C.lt;obtain⟨a,q,H0⟩:=aD.V hx H;clear H;refine qK (qQ (qZ H0 (b:=b) e_1 rfl ?_));refine qW ?_
 try dsimp only
 refine qK (qQ (qZ H0 (b:=b) e_1 rfl ?_));refine qV (qx1 omQ O H0) ?_;rintro _ h1 ⟨z,rfl,H1⟩;have H1:HS g h1 (qB 164 2 (jH t x pick).reads.length z.rv ((jH t x pick).reads.flatMap jI)::qB 164 2 (jH t x pick).cells.length z.cv ((jH t x pick).cells.flatMap jI)::qB z.fe 1 (jH t x pick).eO.length z.fv ((jH t x pick).eO.map (.int .i64))::cr a b t x q R):=H1;have o1:=H1.one (v:=z.rv) .here;have o2:=H1.one (v:=z.cv) e_1;have o3:=H1.one (v:=z.fv) e_2;have a1:qn (QP (jH t x pick) z)=true:=by simp only[qn,QP,List.all_cons,o1.2,o2.2,o3.2];rfl
 refine qm (n:=1) (l:=QP (jH t x pick) z) (sz:=14) H1 rfl rfl rfl a1 λv2 h2 H2=>?_;obtain⟨zs,sU,H3⟩:=dr.E (H2.aG (P:=dr t.aw q.pv) e_8);have sr:zs.length=t.aw.length:=by rw[← sU,List.length_map]
 refine ja H3 (H3.sl e_2) omQ omQ a1 λv3 h3 H4=>?_;have op:=H4.one .here;refine qK (qQ ?_);refine qw H4 (b:=b) e_7 op (by simp[yz]) λh4 H5=>?_;refine qc H0 e_1 rfl H1 e_4 rfl (HS.lt H0 e_1) ?_
 try dsimp only
 have B1:=KI (A:=zs.flatMap λz=>Y0 z.1 z.2) (B:=Y0 (jH t x pick) z) (H5.sub (.cons e_2 (.cons e_3 (.cons e_3 (.cons e_3 .refl)))));have eA:(zs++[(jH t x pick,z)]).flatMap (λz=>Y0 z.1 z.2)=(zs.flatMap λz=>Y0 z.1 z.2)++Y0 (jH t x pick) z:=by rw[List.flatMap_append];simp
 have eB:(zs++[(jH t x pick,z)]).flatMap (λz=>QP z.1 z.2)=(zs.flatMap λz=>QP z.1 z.2)++QP (jH t x pick) z:=by rw[List.flatMap_append];simp
 have eC:(zs++[(jH t x pick,z)]).length=zs.length+1:=by simp
 have B2:=dr.I (v:=v3) (zs:=zs++[(jH t x pick,z)]) (r:=t.aw++[jH t x pick]) (by rw[List.map_append,sU];rfl) (by rw[eA,eB,eC];exact B1.sub (.cons e_2 (.cons .here .refl)));have H6:HS g h4 (cr a b { t with aw:=t.aw++[jH t x pick] } x { q with pv:=v3 } R):=B2.sub (.cons e_3 (.cons e_1 (.cons e_2 (.cons e_2 (.cons .here (.cons e_1 (.cons e_1 (.cons e_1 (.drop .refl)))))))));clear H0 H1 H2 H3 H4 H5 B1 B2 eA eB eC;refine qK (qQ (qi (qZ H6 (b:=b) e_1 (x:=.int .i64 t.ah) rfl ?_)));refine qb omQ ?_;refine qK (qQ (qi ?_));refine qw H6 (b:=b) e_1 ⟨rfl,rfl⟩ (by simp[yz]) λh5 H7=>?_;have H8:HS g h5 (cr a b { t with aw:=t.aw++[jH t x pick],ah:=t.ah+1 } x { q with pv:=v3 } R):=H7.sub (.cons e_1 (.cons .here .refl));have nA:(t.aw++[jH t x pick]).length=t.aw.length+1:=by simp
 have hps:((t.aw++[jH t x pick]).length:Int)=(t.aw.length:Int)+1:=by rw[nA];rfl
 clear H6 H7;generalize{ q with pv:=v3 }=q at*;refine qW ?_
 try dsimp only
 unfold xX;dsimp only;refine qV (Gx omQ H8 .here) ?_;rintro _ _ ⟨rfl,rfl⟩;by_cases c5:jT x=5
 ·rw[iJ c5];refine qg c5 (qX ?_);refine qK (qQ (qi (qZ H8 (b:=b) e_1 (x:=.int .i64 t.aF) rfl ?_)));refine qb omQ ?_;refine qK (qQ (qi ?_));refine qw H8 (b:=b) e_1 ⟨rfl,rfl⟩ (by simp[yz]) λh6 H9=>?_;have HA:HS g h6 (cr a b { t with aw:=t.aw++[jH t x pick],ah:=t.ah+1,aF:=t.aF+1 } x q R):=H9.sub (.cons e_1 (.cons .here .refl));clear H8 H9;have C3:w5 { t with aw:=t.aw++[jH t x pick],ah:=t.ah+1,aF:=t.aF+1 } :=
   C.go rfl rfl rfl rfl rfl rfl rfl C.ab (by show 0≤t.ah+1∧t.ah+1≤((t.aw++[jH t x pick]).length:Int);omega) (by show 0≤t.aF+1∧t.aF+1≤t.ah+1;omega) rfl rfl
  have no:∀c:¬(0≤ku x∧ku x<t.set.aa),wp (ju (callT tab qx k) (.fn 76 [] []) [.ptr b 0,.int .u8 draw] h6 λ_ h'=>zl [] h' λh'=>some (.bM [],h')) λ_ h'=>
    HS g h' (aD b (if 0≤ku x∧ku x<t.set.aa then{ t with aw:=t.aw++[jH t x pick],ah:=t.ah+1,aF:=t.aF+1,state:=2,dB:=ku x,bj:=false }else xl { t with aw:=t.aw++[jH t x pick],ah:=t.ah+1,aF:=t.aF+1 } draw)::R):=λc=>by
   rw[iQ c];exact qV (RI (t:={ t with aw:=t.aw++[jH t x pick],ah:=t.ah+1,aF:=t.aF+1 }) omQ C3.toThrB (by show t.ag.length≤_;omega) hd (cr.I hx HA)) λ_ h2 H2=>qk (qG H2)
  refine qW ?_
  try dsimp only
  refine qV (Ix omQ HA .here) ?_;rintro _ _ ⟨rfl,rfl⟩;by_cases d1:0≤ku x
  ·refine zx d1 (qa ?_);refine qV (Ix omQ HA .here) ?_;rintro _ _ ⟨rfl,rfl⟩;refine qK (qQ (qi (qi (qZ HA (b:=b) e_1 (x:=.int .i64 t.set.aa) rfl ?_))));by_cases d2:ku x<t.set.aa
   ·refine jF d2 (qH ?_);refine qc HA e_1 rfl HA e_1 rfl (HS.lt HA e_1) ?_
    try dsimp only
    refine qX ?_;rw[iJ ⟨d1,d2⟩];refine qV (Ix omQ HA .here) ?_;rintro _ _ ⟨rfl,rfl⟩;refine qK (qQ ?_);refine qw HA (b:=b) e_1 ⟨rfl,rfl⟩ (by simp[yz]) λh7 HB=>?_;refine qK (qQ ?_);refine qw HB (b:=b) .here ⟨rfl,rfl⟩ (by simp[yz]) λh8 HC=>?_;refine qK (qQ ?_);refine qw HC (b:=b) .here ⟨rfl,rfl⟩ (by simp[yz]) λh9 HD=>?_;refine qG ?_;exact cr.I (t:={ t with aw:=t.aw++[jH t x pick],ah:=t.ah+1,aF:=t.aF+1,state:=2,dB:=ku x,bj:=false }) (q:=q) hx (HD.sub (.cons e_1 (.cons .here .refl)))
   ·refine jV d2 (qH ?_);refine qc HA e_1 rfl HA e_1 rfl (HS.lt HA e_1) ?_
    try dsimp only
    exact qJ (no λh=>d2 h.2)
  ·refine zK d1 (qU (qI ?_))
   try dsimp only
   exact qJ (no λh=>d1 h.1)
 ·rw[iQ c5];refine qj c5 (qJ ?_);have C2:∀s:Int,w5 { t with aw:=t.aw++[jH t x pick],ah:=t.ah+1,state:=s }:=λs=>
   C.go rfl rfl rfl rfl rfl rfl rfl C.ab (by show 0≤t.ah+1∧t.ah+1≤((t.aw++[jH t x pick]).length:Int);omega) (by show 0≤t.aF∧t.aF≤t.ah+1;omega) rfl rfl
  refine qV (Gx omQ H8 .here) ?_;rintro _ _ ⟨rfl,rfl⟩;by_cases c3:jT x=3
  ·rw[iJ c3];refine qg c3 (qX ?_);by_cases ca:t.cP=true
   ·rw[iJ ca];refine qK (qQ (qZ H8 (b:=b) e_1 (x:=.bool true) (by rw[← ca];rfl) ?_));refine qX ?_;exact qV (Qe (t:={ t with aw:=t.aw++[jH t x pick],ah:=t.ah+1 }) omQ (C2 t.state).toThrB (by show t.ag.length≤_;omega) (cr.I hx H8)) λ_ h6 H6=>qG H6
   ·have cf:t.cP=false:=by simpa using ca
    rw[iQ ca];refine qK (qQ (qZ H8 (b:=b) e_1 (x:=.bool false) (by rw[← cf];rfl) ?_));refine qJ (qK (qQ ?_));refine qw H8 (b:=b) e_1 ⟨rfl,rfl⟩ (by simp[yz]) λh6 H9=>?_;refine qk (qG ?_);exact cr.I (t:={ t with aw:=t.aw++[jH t x pick],ah:=t.ah+1,state:=4 }) (q:=q) hx (H9.sub (.cons e_1 (.cons .here .refl)))
  ·rw[iQ c3];refine qj c3 (qJ ?_);by_cases cs:t.ao=true
   ·rw[iJ cs];refine qK (qQ (qi (qZ H8 (b:=b) e_1 (x:=.bool true) (by rw[← cs];rfl) ?_)));refine qX (qV (Gx omQ H8 .here) ?_);rintro _ _ ⟨rfl,rfl⟩;exact qV (qqd (t:={ t with aw:=t.aw++[jH t x pick],ah:=t.ah+1 }) omQ (C2 t.state) (by show t.ad.length+t.ag.length≤_;omega) (cr.I hx H8)) λ_ h6 H6=>qk (qG H6)
   ·have cf:t.ao=false:=by simpa using cs
    rw[iQ cs];refine qK (qQ (qi (qZ H8 (b:=b) e_1 (x:=.bool false) (by rw[← cf];rfl) ?_)));refine qJ (qW ?_)
    try dsimp only
    refine qW ?_
    try dsimp only
    refine qK (qQ (qZ H8 (b:=b) e_1 rfl ?_));refine qV (Gx omQ H8 .here) ?_;rintro _ _ ⟨rfl,rfl⟩;refine qV (RK omQ H8 .here) ?_;rintro _ _ ⟨rfl,rfl⟩;refine qV (Va omQ O H8) ?_;rintro _ h6 ⟨rfl,H9⟩;refine qV (UI omQ H9 .here) ?_;rintro _ _ ⟨rfl,rfl⟩;refine qM (l:=Qr ⟨jT x,xF x,zg x,x.aj⟩) rfl ?_;refine qm (n:=1) (l:=Qr ⟨jT x,xF x,zg x,x.aj⟩) (sz:=4) H9 rfl rfl rfl rfl λv4 h7 HA=>?_;have hrl7:t.results.length≤7:=by split at RN<;>omega
    refine ja (HA.aG (P:=qB 48 4 t.results.length q.rv (t.results.flatMap Qr)) e_6) (HA.sl .here) omQ omQ rfl λv5 h8 HB=>?_;have o5:=HB.one .here;refine qK (qQ ?_);refine qw HB (b:=b) e_3 o5 (by simp[yz]) λh9 HC=>?_;refine qc H9 e_1 rfl H9 e_1 rfl (HS.lt H8 e_1) ?_;refine qc H8 e_1 rfl H9 e_1 rfl (HS.lt H8 e_1) ?_;refine qc H8 e_1 rfl H8 e_1 rfl (HS.lt H8 e_1) ?_;refine qc H8 e_1 rfl H8 e_1 rfl (HS.lt H8 e_1) ?_
    try dsimp only
    have eR:(t.results++[(⟨jT x,xF x,zg x,x.aj⟩:GS)]).length=t.results.length+1:=by simp
    have eF:(t.results++[(⟨jT x,xF x,zg x,x.aj⟩:GS)]).flatMap Qr=t.results.flatMap Qr++Qr ⟨jT x,xF x,zg x,x.aj⟩:=by rw[List.flatMap_append];simp
    have HD:HS g h9 (cr a b { t with aw:=t.aw++[jH t x pick],ah:=t.ah+1,results:=t.results++[⟨jT x,xF x,zg x,x.aj⟩] } x { q with rv:=v5 } R):=by unfold cr;rw[eR,eF];exact HC.sub (.cons e_3 (.cons .here (.cons e_2 (.cons e_2 (.cons e_2 (.cons .here (.cons e_1 (.cons e_1 (.drop .refl)))))))))
    clear H8 H9 HA HB HC eF;refine qW ?_
    try dsimp only
    refine qK (qQ (qZ HD (b:=b) e_1 rfl ?_));refine qV (UI omQ HD .here) ?_;rintro _ _ ⟨rfl,rfl⟩;refine qV (MV omQ O HD) ?_;rintro fv hA ⟨fe,HE⟩;have DM:=JY O (hN.2.2.2.trans cf);have HF:=HE.aG (P:=cA q.lb t.ad) e_7;refine qV (VR (z:=x.aj) (bs:=zZ x) omQ omQ HF (HF.drop.rd .here)) λ_ hB HG=>?_;refine qc HD e_1 rfl HE e_2 rfl (HS.lt HD e_1) ?_;refine qc HD e_1 rfl HD e_1 rfl (HS.lt HD e_1) ?_
    try dsimp only
    have HH:=cr.I (a:=a) (b:=b) (t:={ t with aw:=t.aw++[jH t x pick],ah:=t.ah+1,results:=t.results++[⟨jT x,xF x,zg x,x.aj⟩],ad:=t.ad++(zZ x).map λb=>(b,x.aj) }) (q:={ q with rv:=v5 }) hx
     (HG.sub (.cons e_2 (.cons e_2 (.cons e_2 (.cons e_2 (.cons e_2 (.cons e_2 (.cons .here (.cons e_1 (.drop .refl))))))))))
    have e2:(t.ad++(zZ x).map λb=>(b,x.aj)).length=t.ad.length+(zZ x).length:=by simp
    have tX:=C.mj cf;have pE:=C.ad;rw[tX,List.length_nil]at pE;have C4:w5 { t with aw:=t.aw++[jH t x pick],ah:=t.ah+1,results:=t.results++[⟨jT x,xF x,zg x,x.aj⟩],ad:=t.ad++(zZ x).map λb=>(b,x.aj) } :=
     ⟨⟨C.set,C.me,C.jobs,C.jl,C.ax,by show(t.ad++(zZ x).map λb=>(b,x.aj)).length+t.ag.length≤9000*(t.results++[(⟨jT x,xF x,zg x,x.aj⟩:GS)]).length;rw[eR,e2,tX,List.length_nil];omega,
      C.ab,by show 0≤t.ah+1∧t.ah+1≤((t.aw++[jH t x pick]).length:Int);omega,by show 0≤t.aF∧t.aF≤t.ah+1;omega,C.mj⟩,C.now,C.lt,C.some⟩
    exact qV (qkU omQ C4 cf (by show(t.ad++(zZ x).map λb=>(b,x.aj)).length≤1000000;omega) HH) λ_ hC HI=>qk (qG HI)
end
end
section
variable {g h:AH} {L R:List SP}
section
variable {n a b:Nat} {t:qr} {q:Um} {x:q8}
theorem xn.rl (O:xn t):t.ad.length+t.ag.length≤63000:=O.b.len (by have:=O.fz;split at this<;>omega)
theorem qjm {an:cO} {draw pick:Int} (hn:27≤n) (O:xn t) (ha:J1 an) (hd:0≤draw∧draw<256) (hp:t.aw.length≤900000) (H:HS g h (aD b t::R)) :
  aA n 30 [.ptr b 0,.agg (z6 an),.int .u8 draw,.int .i64 pick] h λ_ h'=>HS g h' (aD b (zO t an draw pick)::R):=by
 refine nL (S:=S30) rfl omQ λk hk=>?_;unfold S30;try simp only[iZ]
 have cC:=O.st;have tC:=O.rl;have hT:=O.b.ah;have bL:=O.fz;obtain⟨q,H0⟩:=aD.E H;clear H;refine qO H0 rfl λv0 h1 H1=>?_;clear H0;refine qK (qQ (qZ H1 (b:=b) e_1 rfl ?_));refine qW ?_
 try dsimp only
 unfold zO;by_cases c1:t.state=1
 ·rw[iJ c1];refine qg c1 (qX ?_);have C:=O.c omQ;cases hx:t.now with
  |none=>exact absurd hx C.some
  |some x=>
   dsimp only;have hN:=C.now x hx;have hS:=YO x an;have hr:(t.results.length:Int)≤t.ax+(if t.ao=true then 1 else 0):=by
    by_cases hs:t.ao=true
    ·rw[iJ ⟨by omega,.inl hs⟩]at bL;rw[iJ hs];exact bL
    ·rw[iQ (λh=>by rcases h.2 with h |h;exact hs h;omega)]at bL;rw[iQ hs];exact bL
   have C':∀b:Int,w5 { t with now:=some (jS x an),born:=b }:=λb=>⟨⟨C.set,C.me,C.jobs,C.jl,C.ax,C.ad,C.ab,C.ah,C.aF,C.mj⟩,λy hy=>by
    cases hy
    exact⟨XO hN.1 ha,hS.me.trans hN.2.1,hS.set.trans hN.2.2.1,hS.sw.trans hN.2.2.2⟩,C.lt,λh=>by cases h⟩
   obtain⟨a,q,H2⟩:=aD.V hx (aD.I (b:=b) (q:=q) (H1.sub (.cons e_1 (.cons e_1 (.cons e_1 (.cons e_1 (.cons e_1 (.cons e_1 (.cons e_1 (.cons e_1 (.cons .here .refl)))))))))));have H2:HS g h1 (cr a b t x q (qA v0 (z6 an)::R)):=H2;clear H1;refine qK (qQ (qZ H2 (b:=b) e_1 (x:=.ptr a 0) rfl ?_));refine qV (Km omQ H2 .here) ?_;rintro _ _ ⟨rfl,rfl⟩;refine qD rfl (qD rfl ?_);refine qK (qQ (qZ H2 (b:=b) e_1 (x:=.ptr a 0) rfl ?_));refine qF H2 (b:=v0) (off:=0) e_8 rfl omQ (l:=z6 an) rfl ?_;refine qV (qjN omQ hN.1 ha H2) λ_ h3 H3=>?_;unfold kZ;dsimp only;generalize hy:jS x an=y at H3 C' ⊢;generalize AB:(if y.begun=true∧x.begun=false then pick else t.born)=bo;have key:∀(bo:Int) (h':AH),HS g h' (cr a b { t with now:=some y,born:=bo } y q (qA v0 (z6 an)::R))→
     wp (xE (.ptr b 0) λv28=>qp v28 16 λFJ=>jj h' FJ λv30=>ju (callT tab qx k) (.fn 50 [] []) [v30] h' λv31 ui=>jb .neq v31 (.int .i64 ((0:Nat):Int)) λrL=>zH rL
      (ju (callT tab qx k) (.fn 51 [] []) [.ptr b 0,.int .u8 draw,.int .i64 pick] ui λ_ FQ=>zl [] FQ λh9=>some (.bM [],h9)) (zl [] ui λh9=>some (.bM [],h9)))
      λ_ h'=>HS g h' (aD b (if jT y=0 then{ t with now:=some y,born:=bo }else xX { t with now:=some y,born:=bo } y draw pick)::R):=λbo h' H4=>by
    refine qK (qQ (qZ H4 (b:=b) e_1 (x:=.ptr a 0) rfl ?_));refine qV (Gx omQ H4 .here) ?_;rintro _ _ ⟨rfl,rfl⟩;have H5:=cr.I (t:={ t with now:=some y,born:=bo }) rfl H4;have H5:=H5.sub (.cons .here (.drop .refl));by_cases c:jT y=0
    ·rw[iJ c];exact qs c (qJ (qk (qG H5)))
    ·rw[iQ c];refine jQ c (qX ?_);exact qV (qWC (t:={ t with now:=some y,born:=bo }) omQ (C' bo) rfl (by show t.aw.length≤_;omega) (by show t.ah≤_;omega) hr hd H5) λ_ h6 H6=>qk (qG H6)
   refine qW ?_
   try dsimp only
   refine qK (qQ (qZ H3 (b:=b) e_1 (x:=.ptr a 0) rfl ?_));refine qV (Km omQ H3 .here) ?_;rintro _ _ ⟨rfl,rfl⟩;refine qD rfl (qD rfl ?_);refine qW ?_
   try dsimp only
   have H4:HS g _ (cr a b { t with now:=some y,born:=t.born } y q (qA v0 (z6 an)::R)):=H3;by_cases d1:y.begun=true
   ·rw[d1];refine qa ?_;by_cases d2:x.begun=true
    ·rw[d2];rw[d1,d2,iQ (λh=>by cases h.2)]at AB;subst AB;refine jY (qH (qJ ?_));exact key _ _ H4
    ·have RO:x.begun=false:=by simpa using d2
     rw[RO];rw[d1,RO,iJ ⟨rfl,rfl⟩]at AB;subst AB;refine jB (qH (qX ?_));refine qK (qQ ?_);refine qw H3 (b:=b) e_1 ⟨rfl,rfl⟩ (by simp[yz]) λh5 H5=>?_;exact key pick _ (H5.sub (.cons e_1 (.cons .here .refl)))
   ·have RP:y.begun=false:=by simpa using d1
    rw[RP];rw[RP,iQ (λh=>by cases h.1)]at AB;subst AB;refine qU (qI (qJ ?_));exact key _ _ H4
 ·rw[iQ c1];refine qj c1 (qJ ?_);have H2:=aD.I (b:=b) (t:=t) (q:=q) H1.drop;by_cases c2:t.state=2
  ·rw[iJ c2];refine qg c2 (qX ?_);refine qF H1 (b:=v0) (off:=0) .here rfl omQ (l:=z6 an) rfl ?_;exact qV (qW4 omQ O.b omQ hd H2) λ_ h6 H6=>qk (qG H6)
  ·rw[iQ c2];refine qj c2 (qJ ?_);by_cases c5:t.state=5
   ·rw[iJ c5];refine qg c5 (qX ?_);have C:=O.c omQ;have iP:=O.Hu c5;have h4:=C.set.aa;refine qW ?_
    try dsimp only
    refine qQ (qZ H1 (b:=v0) .here (x:=.int .i64 an.err) rfl ?_);by_cases ce:an.err=0
    ·refine qs ce (qJ ?_)
     try dsimp only
     refine qQ (qZ H1 (b:=v0) .here (x:=.int .u64 an.word) rfl ?_);rw[iQ (λh=>h ce)];exact qV (VN omQ C (O.DX c5) omQ omQ H2) λ_ h6 H6=>qk (qG H6)
    ·refine jQ ce (qX ?_);refine qQ (qw H1 (b:=v0) .here (x:=.int .u64 0) ⟨rfl,rfl⟩ (by simp[z6]) λh3 H3=>?_)
     try dsimp only
     refine qQ (qZ H3 (b:=v0) .here (x:=.int .u64 0) rfl ?_);rw[iJ ce];exact qV (VN omQ C (O.DX c5) omQ omQ (aD.I (b:=b) (t:=t) (q:=q) H3.drop)) λ_ h6 H6=>qk (qG H6)
   ·rw[iQ c5];exact qj c5 (qJ (qk (qG H2)))
theorem qq3 (hn:5≤n) (O:xn t) (H:HS g h (aD b t::R)):aA n 28 [.ptr b 0] h λr h'=>r=ri (xD t)∧HS g h' (aD b t::R):=by
 refine ay (S:=S28) rfl omQ λk hk=>?_;unfold S28;try simp only[iZ]
 have cC:=O.st;obtain⟨q,H0⟩:=aD.E H;refine qO H0 rfl λv0 h1 H1=>?_;clear H H0;refine qK (qQ (qZ H1 (b:=b) e_1 rfl ?_));unfold xD;have uJ:∀{o:dz} {h':AH},HS g h' (qA v0 (x8 o)::Yq b t q R)→wp (zi h' (.ptr v0 0) 10 λv=>some (.bM [v,.bool true],h')) λr h'=>r=ri (some o)∧HS g h' (aD b t::R):=λ{o h'} H'=>by
  refine qF H' (b:=v0) (off:=0) .here rfl omQ (l:=x8 o) rfl ?_;exact qG ⟨rfl,aD.I (q:=q) H'.drop⟩
 by_cases c1:t.state=1
 ·rw[iJ c1];refine qg c1 (qX ?_);have C:=O.c omQ;cases hx:t.now with
  |none=>exact absurd hx C.some
  |some x=>have hN:=C.now x hx;obtain⟨a,q,H2⟩:=aD.V hx (aD.I (b:=b) (q:=q) (H1.sub (.cons e_1 (.cons e_1 (.cons e_1 (.cons e_1 (.cons e_1 (.cons e_1 (.cons e_1 (.cons e_1 (.cons .here .refl)))))))))));have H2:HS g h1 (cr a b t x q (qA v0 (x8 (bg 0 0 0))::R)):=H2;refine qK (qQ (qZ H2 (b:=b) e_1 (x:=.ptr a 0) rfl ?_));refine qV (qY9 omQ hN.1 H2) ?_;rintro _ h3 ⟨rfl,H3⟩;refine qD rfl (qD rfl ?_);refine qh H3 (b:=v0) e_8 rfl (by show 0+10≤10;omega) rfl λh4 H4=>?_;refine qF H4 (b:=v0) (off:=0) .here rfl omQ (l:=x8 ((xZ x).getD (bg 0 0 0))) rfl ?_;exact qG ⟨rfl,cr.I (q:=q) hx (H4.drop.sub (.cons .here .refl))⟩
 ·rw[iQ c1];refine qj c1 (qJ ?_);by_cases c2:t.state=2
  ·rw[iJ c2];refine qg c2 (qX ?_);refine qK (qQ (qZ H1 (b:=b) e_1 rfl ?_));refine qM (l:=x8 (bg 8 t.dB 0)) rfl ?_;exact qh H1 (b:=v0) .here rfl (by show 0+10≤10;omega) rfl λh3 H3=>uJ H3
  ·rw[iQ c2];refine qj c2 (qJ ?_);by_cases c5:t.state=5
   ·rw[iJ c5];refine qg c5 (qX ?_);refine qK (qQ (qZ H1 (b:=b) e_1 rfl ?_));refine qo H1 (n:=t.ab.length) (v:=q.sv) e_8 ?_;refine qM (l:=x8 (bg 8 t.ab.length 0)) rfl ?_;exact qh H1 (b:=v0) .here rfl (by show 0+10≤10;omega) rfl λh3 H3=>uJ H3
   ·rw[iQ c5];refine qj c5 (qJ ?_);refine qM (l:=x8 (bg 0 0 0)) rfl ?_;refine qh H1 (b:=v0) .here rfl (by show 0+10≤10;omega) rfl λh3 H3=>?_;refine qF H3 (b:=v0) (off:=0) .here rfl omQ (l:=x8 (bg 0 0 0)) rfl ?_;exact qG ⟨rfl,aD.I (q:=q) H3.drop⟩
theorem qKR {r:List xj} {st ic:Int} {i:Nat} (hi:i<r.length):vo (r.drop i) st ic=(decide (r[i].1=st∧r[i].2≠ic)||vo (r.drop (i+1)) st ic):=by unfold vo;rw[List.drop_eq_getElem_cons hi,List.any_cons]
theorem qkA {st ic:Int} (hn:12≤n) (O:xn t) (H:HS g h (aD b t::R)):aA n 31 [.ptr b 0,.int .i64 st,.int .u64 ic] h λ_ h'=>HS g h' (aD b (yJ t st ic)::R):=by
 refine cL (S:=S31) rfl omQ λk hk=>?_;unfold S31;try simp only[iZ]
 have cC:=O.st;have tC:=O.rl;cases hx:t.now with
 |none=>
  obtain⟨q,H0⟩:=aD.E H;have e:q.nv=.aO:=by have H1:=H0.aG (P:=hY t.now q.nv) e_3;rw[hx]at H1;exact H1.dZ.1
  refine qK (qQ (qZ H0 (b:=b) .here (x:=.aO) (by rw[← e];rfl) ?_));have eW:yJ t st ic=t:=by
   unfold yJ
   split
   ·rfl
   ·rename_i h1;rw[hx]at h1;cases h1
  rw[eW];exact VV (qX (qG H))
 |some x=>
  have eW:yJ t st ic=if vo x.r st ic=true then(if t.state=4 then zB t else if t.state=1∧ym x=true then{ t with cP:=true }else t)else t:=by
   unfold yJ
   split
   ·rename_i h1;rw[hx]at h1;cases h1
   ·rename_i y h1;rw[hx]at h1;cases h1;rfl
  rw[eW];have C:=O.c (λh6=>by have:=(O.fin h6).2;rw[hx]at this;cases this);have hN:=C.now x hx;have hr:=hN.1.r;obtain⟨a,q,H0⟩:=aD.V hx H;refine qK (qQ (qZ H0 (b:=b) e_1 (x:=.ptr a 0) rfl ?_));refine Kj (qJ ?_);refine qK (qQ (qZ H0 (b:=b) e_1 (x:=.ptr a 0) rfl ?_));refine qV (qjS omQ hN.1 H0) λv h1 H1=>?_;refine qo H1 .here ?_;refine jL (λc s h'=>∃i:Nat,s=(.int .i64 (i:Int),.int .i64 (x.r.length:Int),v,.int .u64 ic,.int .i64 st,.ptr b 0,())∧i≤x.r.length∧c=x.r.length-i∧vo x.r st ic=vo (x.r.drop i) st ic∧HS g h' (qB 110 2 x.r.length v (x.r.flatMap yi)::cr a b t x q R))
   ?_ (m:=x.r.length) (by show _<1000000000;omega) ⟨0,rfl,Nat.zero_le _,rfl,rfl,H1⟩
  clear H H0 H1;rintro c ih s h3 bG ⟨i,rfl,hi,rfl,hs,H⟩;dsimp only;have HT:=(cr.I (t:=t) hx H.drop);by_cases au:i<x.r.length
  ·refine jF omQ (qX ?_);refine zd (l:=yi x.r[i]) (H.sl .here) au omQ (vw (sz:=2) (enc:=yi) (λ_=>rfl) (iW au)) ?_;refine qO H rfl λb2 h4 H4=>?_;refine qh H4 (b:=b2) .here rfl (by show 0+2≤2;omega) rfl λh5 H5=>?_;rw[qKR au]at hs;have H6:HS g h5 (qB 110 2 x.r.length v (x.r.flatMap yi)::cr a b t x q R):=H5.drop;have on:∀c:¬(x.r[i].1=st∧x.r[i].2≠ic),wp (ih (.int .i64 (i+((1:Nat):Int)),.int .i64 (x.r.length:Int),v,.int .u64 ic,.int .i64 st,.ptr b 0,()) h5 []) λ_ h'=>HS g h' (aD b (if vo x.r st ic=true then(if t.state=4 then zB t else if t.state=1∧ym x=true then{ t with cP:=true }else t)else t)::R):=λc=>by
    rw[iV c,Bool.false_or]at hs;exact bG (x.r.length-(i+1)) _ _ omQ ⟨i+1,rfl,by omega,rfl,hs,H6⟩
   refine qQ (qZ H5 (b:=b2) .here (x:=.int .i64 x.r[i].1) rfl ?_);by_cases c1:x.r[i].1=st
   ·refine qs c1 ?_;refine qW ?_
    try dsimp only
    refine qd (qQ (qZ H5 (b:=b2) .here (x:=.int .u64 x.r[i].2) rfl ?_));by_cases c2:x.r[i].2=ic
    ·refine qg c2 (qI (qX ?_));exact qb omQ (on λh=>h.2 c2)
    ·refine qj c2 (qI (qJ ?_));rw[iG ⟨c1,c2⟩,Bool.true_or]at hs;rw[iJ hs];clear on bG;refine qW ?_
     try dsimp only
     refine qK (qQ (qZ H6 (b:=b) e_2 rfl ?_));have HT:=(cr.I (t:=t) hx H6.drop);by_cases c4:t.state=4
     ·rw[iJ c4];refine qg c4 (qX ?_);exact qV (Qe omQ C.toThrB omQ HT) λ_ h7 H7=>qk (qG H7)
     ·rw[iQ c4];refine qj c4 (qJ ?_);refine qK (qQ (qZ H6 (b:=b) e_2 rfl ?_));refine qW ?_
      try dsimp only
      by_cases c5:t.state=1
      ·refine qg c5 (qa ?_);refine qK (qQ (qZ H6 (b:=b) e_2 (x:=.ptr a 0) rfl ?_));obtain⟨q2,H7⟩:=aE.E (H6.aG (P:=aE a x) e_1);refine qV (M4 omQ H7 .here) ?_;rintro _ _ ⟨rfl,rfl⟩;by_cases c6:ym x=true
       ·rw[c6,iJ ⟨c5,rfl⟩];refine qH (qX ?_);refine qK (qQ ?_);refine qw H6 (b:=b) e_2 ⟨rfl,rfl⟩ (by simp[yz]) λh8 H8=>?_;refine qk (qG ?_);exact cr.I (t:={ t with cP:=true }) (q:=q) hx (H8.sub (.cons e_2 (.cons .here (.drop .refl))))
       ·have c6':ym x=false:=by simpa using c6
        rw[c6',iQ (λh=>by cases h.2)];exact qH (qJ (qk (qG HT)))
      ·rw[iQ (λh=>c5 h.1)];exact qj c5 (qU (qI (qJ (qk (qG HT)))))
   ·refine jQ c1 ?_;refine qW ?_
    try dsimp only
    refine jJ (qH (qX ?_));exact qb omQ (on λh=>c1 h.1)
  ·obtain rfl:i=x.r.length:=by omega
   refine jV omQ (qJ ?_);rw[List.drop_length]at hs;rw[hs];exact qk (qG HT)
end
end
section
variable {g h:AH} {L R:List SP}
theorem RQ {D:Nat→Prop} {sz n hi b cp sP:Nat} {o:Bool} {xs:List AV} (S:Sl D h sz n (.slice b 0 n cp o) xs) (hle:hi≤n):Sl D h sz hi (.slice b 0 hi sP o) (xs.take (hi*sz)):=by
 have hm:=Nat.mul_le_mul_right sz hle;cases S with
 |mk hd hb hr hl ha=>exact .mk hd hb hr (by rw[List.length_take,hl];omega) λi l9=>by rw[ha i omQ,List.getElem?_take_of_lt l9]
theorem RS {hi sz n:Nat} {e:TypeId} {k:IntKind} {v:AV} {xs:List AV} {K:AV→Go.Ae.R} {Q:AV→AH→Prop} (H:HS g h L) (s:aZ L (qB e sz n v xs) R) (bx:0<sz) (hle:hi≤n)
  (w:∀v',Rd g L sz hi v' (xs.take (hi*sz))→wp (K v') Q):wp (yX h e sz v none (some (.int k (hi:Int))) K) Q:=by
 have hm:=Nat.mul_le_mul_right sz hle;obtain⟨D,hl,⟨rfl,hn,hD⟩ |⟨b,cp,o,zs,rfl,hD,A,q1,q2,q3⟩⟩:=H.p s
 ·subst hn;obtain rfl:hi=0:=by omega
  exact w .ak λ_ _=>by rw[Nat.zero_mul,List.take_zero];exact .ak
 ·cases o with
  |false=>
   rw[iQ aN]at q3;refine Fu (hi:=hi) (lo:=0) (y0 omQ) rfl ?_;have:=w (.slice b 0 hi cp false) λh' H'=>RQ (H'.sl s) hle;have e0:(bif Nat.beq cp 0 then 0 else 0+0*sz)=0:=by cases Nat.beq cp 0<;>simp
   rw[e0];exact this
  |true=>rw[iJ rfl]at q3;subst q3;refine NL (i0:=0) (hi:=hi) (lo:=0) A bx omQ omQ (y0 hle) rfl (.inr rfl) ?_;have:=w (.slice b 0 hi 0 true) λh' H'=>RQ (H'.sl s) hle;simpa using this
theorem ZX {n m:Nat} {e:TypeId} {v:AV} {xs:List AV} {R2:List SP} (hn:1≤n) (H:HS g h L) (s:aZ L (qB e 5 m v xs) R2) (ha:qn xs=true) (hm:m≤1000000) :
  aA n 41 [v] h λr h'=>HS g h' (qB 56 5 m r xs::L):=by
 refine ay (S:=S41) rfl omQ λk hk=>?_;unfold S41;try simp only[iZ]
 refine QY H s (λh1 h2=>?_) (qJ ?_)
 ·subst h1 h2;obtain rfl:xs=[]:=iA (by simpa using H.cT s);exact qX (qG H.ak)
 ·refine qm (n:=0) (l:=[]) (sz:=5) H rfl rfl rfl rfl λv2 h2 H2=>?_;refine ja H2 (H2.sl (.there s)) omQ omQ ha λv3 h3 H3=>?_;rw[Nat.zero_add,List.nil_append]at H3;exact qG H3
theorem ZF {n m:Nat} {e:TypeId} {v:AV} {xs:List AV} {R2:List SP} (hn:1≤n) (H:HS g h L) (s:aZ L (qB e 4 m v xs) R2) (ha:qn xs=true) (hm:m≤1000000) :
  aA n 44 [v] h λr h'=>HS g h' (qB 48 4 m r xs::L):=by
 refine ay (S:=S44) rfl omQ λk hk=>?_;unfold S44;try simp only[iZ]
 refine QY H s (λh1 h2=>?_) (qJ ?_)
 ·subst h1 h2;obtain rfl:xs=[]:=iA (by simpa using H.cT s);exact qX (qG H.ak)
 ·refine qm (n:=0) (l:=[]) (sz:=4) H rfl rfl rfl rfl λv2 h2 H2=>?_;refine ja H2 (H2.sl (.there s)) omQ omQ ha λv3 h3 H3=>?_;rw[Nat.zero_add,List.nil_append]at H3;exact qG H3
section
variable {n b:Nat} {t:qr} {q:Um}
theorem OH (hn:2≤n) (hr:t.results.length≤1000000) (H:HS g h (aD b t::R)):aA n 26 [.ptr b 0] h λr h'=>HS g h' (qB 48 4 t.results.length r (t.results.flatMap Qr)::aD b t::R):=by
 refine ay (S:=S26) rfl omQ λk hk=>?_;unfold S26;try simp only
 obtain⟨q,H0⟩:=aD.E H;refine qK (qQ (qZ H0 (b:=b) .here rfl ?_));refine qV (ZF (v:=q.rv) (xs:=t.results.flatMap Qr) omQ H0 e_5 (ke (λ_=>rfl) _) hr) λv h1 H1=>qG ?_;exact HS.bZ e_1 (aD.I (q:=q) (H1.sub (.cons e_1 (.cons e_1 (.cons e_1 (.cons e_1 (.cons e_1 (.cons e_1 (.cons e_1 (.cons e_1 (.cons .here .refl)))))))))))
theorem qQ6 {me:Int} {s:zR} {js:List (List qT)} {v:AV} (hn:13≤n) (_:-1000000≤me∧me≤1000000) (hs:0≤s.start) (hj:∀l∈js,(zf l).2=0∧Quiet l) (fE:js.length≤1000000) (H:HS g h (aT js v::R)) :
  aA n 22 [.int .i64 me,.agg (yd s),v] h λr h'=>∃b,r=.ptr b 0∧HS g h' (aD b (kF me s js)::aT js v::R):=by
 refine cL (S:=S22) rfl omQ λk hk=>?_;unfold S22;try simp only[iZ]
 obtain⟨vs,CX,H⟩:=aT.E H;refine qO H rfl λb0 h1 H1=>?_;refine qF H1 (b:=b0) (off:=0) .here rfl omQ (l:=yd s) rfl ?_;refine qV (UU omQ H1) ?_;rintro _ h2 ⟨rfl,H2⟩;clear H H1;have SO:=yq hs;refine qh H2 (b:=b0) .here rfl (by show 0+8≤8;omega) rfl λh3 H3=>?_;have H3:HS g h3 (qA b0 (yd (jK s))::qB 29 1 js.length v vs:: .all (List.zipWith gI vs js)::R):=H3;unfold kF;generalize jK s=S at*;clear H2;have h4:=SO.aa;refine qW ?_
 try dsimp only
 refine qQ (qi (qZ H3 (b:=b0) .here (x:=.int .i64 S.aa) rfl ?_));refine zD omQ (zk (zn ?_));refine qF H3 (b:=b0) (off:=0) .here rfl omQ (l:=yd S) rfl ?_;refine qV (qVE omQ H3) ?_;rintro _ h5 ⟨lb,rfl,H5⟩;have et:max ((0:Nat):Int) (min me (S.aa-((1:Nat):Int)))=max 0 (min me (S.aa-1)):=rfl;rw[et]
 let T:List (List qT)→qr:=λjs=>⟨max 0 (min me (S.aa-1)),S,js,-1,0,false,[],0,0,none,0,false,[],[],[],[],0,0,false,0⟩
 refine qM (l:=yz (T []) ⟨.ak,.ak,.aO,.ak,.ak,lb,.ak⟩) rfl ?_;refine qO H5 rfl λb h6 H6=>?_;refine zU H3 .here rfl H5 e_1 rfl rfl omQ (HS.lt H3 .here) ?_;refine qc H3 .here rfl H5 e_1 rfl (HS.lt H3 .here) ?_
 try dsimp only
 have N1:=(H6.ak (e:=142) (sz:=2));have N2:=HS.eH (φ:=AV.aO=.aO) rfl N1;have N3:=dr.I (r:=[]) (v:=.ak) (zs:=[]) rfl ((HS.allI (A:=[]) N2).ak);have N4:=N3.ak (e:=48) (sz:=4);have N5:=N4.ak (e:=31) (sz:=1);have N6:=aT.I (js:=[]) (v:=.ak) (vs:=[]) rfl ((HS.allI (A:=[]) N5).ak);have N7:HS g h6 (Yq b (T []) ⟨.ak,.ak,.aO,.ak,.ak,lb,.ak⟩ (qB 29 1 js.length v vs:: .all (List.zipWith gI vs js)::R)) :=
  N6.sub (.cons e_6 (.cons .here (.cons e_4 (.cons e_3 (.cons e_2 (.cons e_1 (.cons e_1 (.cons .here (.drop .refl)))))))))
 have N8:=aD.I N7;clear N1 N2 N3 N4 N5 N6 N7 H3 H5 H6;refine qo N8 (n:=js.length) (v:=v) e_1 ?_;refine zk ?_;rw[show min ((js.length:Nat):Int) ((6:Nat):Int)=((min js.length 6:Nat):Int) by omega];have hm6:min js.length 6≤js.length∧min js.length 6≤6:=by omega
 have Iy:js.take (min js.length 6)=js.take 6:=by
  rcases Nat.lt_or_ge js.length 6 with h |h
  ·rw[Nat.min_eq_left omQ,List.take_length,List.take_of_length_le omQ]
  ·rw[Nat.min_eq_right h]
 rw[← Iy];generalize min js.length 6=m at*;refine RS (hi:=m) N8.drop .here omQ hm6.1 λv' SV=>?_;refine x5 (SV.more.sl N8) ?_;refine jL (λc s h'=>∃i:Nat,s=(.int .i64 (i:Int),.int .i64 (m:Int),v',.ptr b 0,())∧i≤m∧c=m-i∧HS g h' (aD b (T (js.take i))::qB 29 1 js.length v vs:: .all (List.zipWith gI vs js)::R))
  ?_ (m:=m) (by show _<1000000000;omega) ⟨0,rfl,Nat.zero_le _,rfl,N8⟩
 clear N8;rintro c ih s h7 bG ⟨i,rfl,hi,rfl,H⟩;dsimp only;by_cases au:i<m
 ·have pY:i<js.length:=by omega
  have D8:i<vs.length:=by omega
  have sX:js[i]? =some js[i]:=iW pY;have hz:(List.zipWith gI vs js)[i]? =some (gI vs[i] js[i]):=by rw[List.getElem?_zipWith,iW D8,sX]
  have dG:=hj _ (List.getElem_mem pY);have hle:=(Jn dG.1).le;have HB0:=(H.aG (P:=.all (List.zipWith gI vs js)) e_2).b9;have o0:One vs[i]:=HB0.one (e:=56) (sz:=5) (n:=js[i].length) (KA hz);refine jF omQ (qX ?_);refine zd (l:=[vs[i]]) (SV.more.sl H) au omQ (by rw[Nat.mul_one,Nat.mul_one,List.drop_eq_getElem_cons (by rw[List.length_take];omega)];simp) ?_;refine qO H rfl λb2 h8 H8=>?_;refine qh H8 (b:=b2) .here rfl (by show 0+1≤1;omega) (by show qn [vs[i]]=true;simp[qn,o0.2]) λh9 H9=>?_;refine qW ?_
  try dsimp only
  obtain⟨q,HA⟩:=aD.E (H9.aG (P:=aD b (T (js.take i))) e_1);refine qK (qQ (qZ HA (b:=b) .here rfl ?_));refine qQ (qZ HA (b:=b2) e_8 (x:=vs[i]) rfl ?_);have HB:=(HA.aG (P:=.all (List.zipWith gI vs js)) e_10).b9;refine qV (ZX (e:=56) (m:=js[i].length) (xs:=js[i].flatMap zM) omQ HB (KA hz) (ke (λ_=>rfl) _) omQ) λpv hC HC=>?_;have HD:HS g hC (.all (List.zipWith gI vs js)::gI pv js[i]::qA b (yz (T (js.take i)) q)::_):=HS.allI (HS.bZ RH HC);have op:=HD.one (e:=56) (sz:=5) (n:=js[i].length) e_1;refine qM (l:=[pv]) (by simp only[yV,op.1];rfl) ?_;refine qm (n:=1) (l:=[pv]) (sz:=1) HD rfl rfl (by simp only[yr,yV,AV.cells];rfl) (by simp[qn,op.2]) λv2 hE HE=>?_;obtain⟨ws,s4,HF⟩:=aT.E (HE.aG (P:=aT (js.take i) q.jv) e_4);have hti:(js.take i).length=i:=by rw[List.length_take];omega
  refine ja HF (HF.sl e_2) omQ omQ (by simp[qn,op.2]) λv3 hG HG=>?_;have o3:=HG.one .here;refine qK (qQ ?_);refine qw HG (b:=b) e_5 o3 (by simp[yz]) λhH HH=>?_;refine qc HA .here rfl HD e_2 rfl (HS.lt HA .here) ?_;refine qb omQ ?_;refine bG (m-(i+1)) _ _ omQ ⟨i+1,rfl,by omega,rfl,?_⟩;have et:js.take (i+1)=js.take i++[js[i]]:=by rw[List.take_add_one,sX];rfl
  have ez:List.zipWith gI (ws++[pv]) (js.take i++[js[i]])=List.zipWith gI ws (js.take i)++[gI pv js[i]]:=by rw[List.zipWith_append s4];rfl
  have HI:=KI (A:=List.zipWith gI ws (js.take i)) (B:=[gI pv js[i]]) (HH.sub (.cons e_2 (.cons e_4 .refl)));have HJ:=aT.I (v:=v3) (js:=js.take i++[js[i]]) (vs:=ws++[pv]) (by rw[List.length_append,List.length_append,s4];rfl) (by rw[ez,List.length_append];exact HI.sub (.cons e_2 (.cons .here .refl)));rw[et];exact aD.I (t:=T (js.take i++[js[i]])) (q:={ q with jv:=v3 }) (HJ.sub (.cons e_1 (.cons .here (.cons e_2 (.cons e_2 (.cons e_2 (.cons e_2 (.cons e_2 (.cons e_2 (.cons e_3 (.cons e_1 (.drop (.drop .refl)))))))))))))
 ·obtain rfl:i=m:=by omega
  refine jV omQ (qJ ?_);refine qV (kV (t:=T (js.take i)) omQ ⟨SO,by show 0≤max 0 (min me (S.aa-1))∧max 0 (min me (S.aa-1))<S.aa;omega,λl hl=>hj l (List.mem_of_mem_take hl),by show(js.take i).length≤6;rw[List.length_take];omega,by show(0:Int)≤ -1+1∧(-1:Int)+1≤_;omega,Nat.le_refl _,Nat.zero_le _,by show(0:Int)≤0∧(0:Int)≤(([]:List kY).length:Int);decide,by show(0:Int)≤0∧(0:Int)≤0;decide,λ_=>rfl⟩ H) λ_ h8 H8=>qk (qG ⟨b,rfl,?_⟩);exact HS.bZ e_1 (aT.I CX (H8.sub (.cons e_1 (.cons e_1 .refl))))
end
end
section
variable {g h:AH} {L R:List SP}
def Ju (m:kK) (p:Nat) (tv:AV):List AV:=[.int .i64 m.s.words,.int .i64 m.s.al,.int .i64 m.s.wide,.int .i64 m.s.aa,.int .u64 m.s.start,.int .i64 m.s.af,.int .i64 m.s.writes,.int .i64 m.s.fuel,.ptr p 0,tv,.int .i64 m.aM,
 .int .i64 m.last.kind,.int .i64 m.last.at_,.int .u64 m.last.cW,.int .u64 m.last.word,.int .u64 m.last.aR.1,.bool m.last.aR.2.1,.int .i64 m.last.aR.2.2,.int .u64 m.last.lk.1,.bool m.last.lk.2.1,.int .i64 m.last.lk.2.2,.bool m.did]
def vO (ps:List Nat) (ts:List qr):List SP:=List.zipWith aD ps ts
def Jk (ps:List Nat):List AV:=ps.map λa=>.ptr a 0
abbrev Vg (b:Nat) (m:kK) (p:Nat) (tv:AV) (ps:List Nat) (R:List SP):List SP :=
 qA b (Ju m p tv)::qB 71 1 m.t.length tv (Jk ps)::bS p m.s m.m:: .all (vO ps m.t)::R
def bH (b:Nat) (m:kK):SP:=.ex λq:Nat×AV×List Nat=>.all (.fg (q.2.2.length=m.t.length)::Vg b m q.1 q.2.1 q.2.2 [])
theorem bH.E {b:Nat} {m:kK} (H:HS g h (bH b m::R)):∃p tv ps,ps.length=m.t.length∧HS g h (Vg b m p tv ps R):=by obtain⟨⟨p,tv,ps⟩,H⟩:=H.dU;obtain⟨h1,H⟩:=H.b9.dZ;exact⟨p,tv,ps,h1,H⟩
theorem bH.I {b p:Nat} {m:kK} {tv:AV} {ps:List Nat} (hl:ps.length=m.t.length) (H:HS g h (Vg b m p tv ps R)):HS g h (bH b m::R) :=
 HS.ei (p,tv,ps) (HS.allI (A:=.fg (ps.length=m.t.length)::Vg b m p tv ps []) (HS.eH hl H))
theorem bH.I1 {b p:Nat} {m:kK} {tv:AV} {ps:List Nat} {X:SP} (hl:ps.length=m.t.length) (H:HS g h (X::Vg b m p tv ps R)):HS g h (X::bH b m::R) :=
 HS.bZ e_1 (bH.I (tv:=tv) (p:=p) hl (H.sub (.cons e_1 (.cons e_1 (.cons e_1 (.cons e_1 (.cons .here .refl)))))))
theorem VK {A:List SP} {P:SP} {i:Nat} (h:A[i]? =some P):aZ A P (A.eraseIdx i):=by
 have:=KA (R:=[]) h
 rwa [List.append_nil,List.append_nil]at this
theorem Iz {ps:List Nat} {ts:List qr} {i a:Nat} {t:qr} (h1:ps[i]? =some a) (h2:ts[i]? =some t):(vO ps ts)[i]? =some (aD a t):=by unfold vO;rw[List.getElem?_zipWith,h1,h2]
theorem qxF {ps:List Nat} {ts:List qr} {i a:Nat} {u:qr} (h1:ps[i]? =some a):vO ps (ts.set i u)=(vO ps ts).set i (aD a u):=by
 unfold vO;apply List.ext_getElem?;intro k;rw[List.getElem?_zipWith,List.getElem?_set,List.getElem?_set,List.getElem?_zipWith];by_cases e:i=k
 ·subst e;rw[iJ rfl,iJ rfl,h1,List.length_zipWith];have hi:=(List.getElem?_eq_some_iff.1 h1).1;by_cases c:i<ts.length
  ·rw[iJ c,iJ omQ]
  ·rw[iQ c,iQ omQ]
 ·rw[iQ e,iQ e]
theorem Kp {ps:List Nat} {ts:List qr} {i a:Nat} {t:qr} (h1:ps[i]? =some a) (h2:ts[i]? =some t) (H:HS g h (.all (vO ps ts)::R)):HS g h (aD a t:: .all ((vO ps ts).eraseIdx i)::R) :=
 HS.mI (VK (Iz h1 h2)) H
theorem NR {ps:List Nat} {ts:List qr} {i a:Nat} {u:qr} (h1:ps[i]? =some a) (h2:i<ts.length) (H:HS g h (aD a u:: .all ((vO ps ts).eraseIdx i)::R)):HS g h (.all (vO ps (ts.set i u))::R):=by
 have e:(vO ps ts).eraseIdx i=(vO ps (ts.set i u)).eraseIdx i:=by rw[qxF h1,List.eraseIdx_set_eq]
 rw[e]at H;exact HS.pu (VK (Iz h1 (List.getElem?_set_self h2))) H
theorem ZC {ps:List Nat} {ts:List qr} {i a:Nat} {t:qr} (h1:ps[i]? =some a) (h2:ts[i]? =some t) (H:HS g h (aD a t:: .all ((vO ps ts).eraseIdx i)::R)):HS g h (.all (vO ps ts)::R) :=
 HS.pu (VK (Iz h1 h2)) H
theorem Nn {ps:List Nat} {i a:Nat} (h:ps[i]? =some a):(Jk ps)[i]? =some (.ptr a 0):=by unfold Jk;rw[List.getElem?_map,h];rfl
section
variable {n b p:Nat} {m:kK} {tv:AV} {ps:List Nat}
theorem Zt {i a:Nat} (hn:1≤n) (hl:ps.length=m.t.length) (h1:ps[i]? =some a) (_:m.t.length≤1000) (H:HS g h (Vg b m p tv ps R)) :
  aA n 25 [.ptr b 0,.int .i64 (i:Int)] h λr h'=>r=.ptr a 0∧h'=h:=by
 refine ba (S:=S25) rfl omQ λk hk=>?_;unfold S25;try simp only[iZ]
 have hi:=(List.getElem?_eq_some_iff.1 h1).1;refine jV omQ ?_;refine qW ?_
 try dsimp only
 refine qd (qK (qQ (qZ H (b:=b) .here rfl ?_)));refine qo H (sz:=1) (n:=m.t.length) (v:=tv) e_1 ?_;refine zK omQ ?_
 try dsimp only
 refine qI (qJ ?_);refine qK (qQ (qZ H (b:=b) .here rfl ?_));refine jd (H.sl (v:=tv) (xs:=Jk ps) e_1) (x:=.ptr a 0) (Nn h1) ?_;exact qG ⟨rfl,rfl⟩
theorem Vx {i:Nat} {t:qr} (hn:4≤n) (ht:m.t[i]? =some t) (hr:t.results.length≤1000000) (hb:m.t.length≤1000) (H:HS g h (bH b m::R)) :
  aA n 11 [.ptr b 0,.int .i64 (i:Int)] h λr h'=>HS g h' (qB 48 4 t.results.length r (t.results.flatMap Qr)::bH b m::R):=by
 refine ba (S:=S11) rfl omQ λk hk=>?_;unfold S11;try simp only
 obtain⟨p,tv,ps,hl,H⟩:=bH.E H;have hi:=(List.getElem?_eq_some_iff.1 ht).1;have h1:ps[i]? =some (ps[i]'omQ):=iW omQ;refine qV (Zt omQ hl h1 hb H) ?_;rintro _ _ ⟨rfl,rfl⟩;refine Ky (qX ?_);have H2:=Kp h1 ht (H.aG (P:=.all (vO ps m.t)) e_3);refine qV (OH omQ hr H2) λv h3 H3=>?_;refine qG ?_;have H4:=ZC h1 ht (H3.sub (.cons e_1 (.cons e_1 .refl)));exact bH.I1 hl (H4.sub (.cons e_1 (.cons e_1 (.cons e_1 (.cons e_1 (.cons .here .refl))))))
theorem ZW (hn:4≤n) (hw:m.m.w.length≤1000000) (H:HS g h (bH b m::R)) :
  aA n 10 [.ptr b 0] h λr h'=>HS g h' (qB 31 1 m.m.w.length r (m.m.w.map (.int .u64))::bH b m::R):=by
 refine ay (S:=S10) rfl omQ λk hk=>?_;unfold S10;try simp only
 obtain⟨p,tv,ps,hl,H⟩:=bH.E H;refine qK (qQ (qZ H (b:=b) .here (x:=.ptr p 0) rfl ?_));refine qV (qGE omQ hw (H.aG (P:=bS p m.s m.m) e_2)) λv h2 H2=>qG ?_;exact bH.I1 hl (H2.sub (.cons .here (.cons e_1 (.cons e_1 (.cons .here .refl)))))
theorem Vv (hn:1≤n) (H:HS g h (bH b m::R)):aA n 23 [.ptr b 0] h λr h'=>r=.int .i64 (m.t.length:Int)∧h'=h:=by
 refine ay (S:=S23) rfl omQ λk hk=>?_;unfold S23;try simp only
 obtain⟨p,tv,ps,hl,H⟩:=bH.E H;refine qK (qQ (qZ H (b:=b) .here (x:=tv) rfl ?_));refine qo H (sz:=1) (n:=m.t.length) (v:=tv) e_1 ?_;exact qG ⟨rfl,rfl⟩
theorem Zn (hn:2≤n) (hb:m.t.length≤1000) (H:HS g h (bH b m::R)):aA n 16 [.ptr b 0] h λr h'=>r=.bool (we m)∧h'=h:=by
 refine ay (S:=S16) rfl omQ λk hk=>?_;unfold S16;try simp only[iZ]
 obtain⟨p,tv,ps,hl,H⟩:=bH.E H;refine qK (qQ (qZ H (b:=b) .here (x:=tv) rfl ?_));refine qo H (sz:=1) (n:=m.t.length) (v:=tv) e_1 ?_;refine jL (λc s h'=>∃i:Nat,s=(.int .i64 (i:Int),.int .i64 (m.t.length:Int),tv,())∧i≤m.t.length∧c=m.t.length-i∧(m.t.take i).all (λt=>decide (t.state=6∨t.state=4))=true∧h'=h)
  ?_ (m:=m.t.length) (by show _<1000000000;omega) ⟨0,rfl,Nat.zero_le _,rfl,rfl,rfl⟩
 rintro c ih s _ bG ⟨i,rfl,hi,rfl,ha,rfl⟩;dsimp only;by_cases au:i<m.t.length
 ·refine jF omQ (qX ?_);have ht:m.t[i]? =some m.t[i]:=iW au;have h1:ps[i]? =some (ps[i]'omQ):=iW omQ;refine jd (H.sl (v:=tv) (xs:=Jk ps) e_1) (x:=.ptr (ps[i]'omQ) 0) (Nn h1) ?_;obtain⟨q,H2⟩:=aD.E (Kp h1 ht (H.aG (P:=.all (vO ps m.t)) e_3));refine qV (qVB omQ H2 .here) ?_;rintro _ _ ⟨rfl,rfl⟩;have no:¬(m.t[i].state=6∨m.t[i].state=4)→we m=false:=λc=>by
   unfold we;rw[Bool.eq_false_iff];intro hh;have:=List.all_eq_true.1 hh _ (List.getElem_mem au);exact c (of_decide_eq_true this)
  have on:(m.t[i].state=6∨m.t[i].state=4)→(m.t.take (i+1)).all (λt=>decide (t.state=6∨t.state=4))=true:=λc=>by
   rw[List.take_add_one,ht,List.all_append,ha];show(true&&(decide (m.t[i].state=6∨m.t[i].state=4)&&true))=true;rw[iG c];rfl
  by_cases c6:m.t[i].state=6
  ·refine qs c6 ?_;refine qW ?_
   try dsimp only
   refine qU (qI (qJ ?_));refine qb omQ ?_;exact bG (m.t.length-(i+1)) _ _ omQ ⟨i+1,rfl,by omega,rfl,on (.inl c6),rfl⟩
  ·refine jQ c6 ?_;refine qW ?_
   try dsimp only
   refine qa ?_;by_cases c4:m.t[i].state=4
   ·refine qs c4 (qH (qJ ?_));refine qb omQ ?_;exact bG (m.t.length-(i+1)) _ _ omQ ⟨i+1,rfl,by omega,rfl,on (.inr c4),rfl⟩
   ·refine jQ c4 (qH (qX ?_));exact qk (qG ⟨by rw[no omQ],rfl⟩)
 ·obtain rfl:i=m.t.length:=by omega
  refine jV omQ (qJ ?_);rw[List.take_length]at ha;exact qk (qG ⟨by unfold we;rw[ha],rfl⟩)
end
end
section
variable {g h:AH} {L R:List SP}
section
variable {n b p:Nat} {m:kK} {tv:AV} {ps:List Nat}
structure kG (ts:List qr) (i:Nat) (s v:Int) (k:Nat) (us:List qr):Prop where
  len:us.length=ts.length
  lo:∀j,j<k→us[j]? =(yT ts i s v)[j]?
  hi:∀j,k≤j→us[j]? =ts[j]?
theorem kG.done {ts us:List qr} {i:Nat} {s v:Int} (W:kG ts i s v ts.length us):us=yT ts i s v:=by
 have hw:(yT ts i s v).length=ts.length:=by unfold yT;simp
 apply List.ext_getElem?;intro j;by_cases c:j<ts.length
 ·exact W.lo j c
 ·have h1:=W.len;rw[List.getElem?_eq_none omQ,List.getElem?_eq_none omQ]
theorem kG.same {ts us:List qr} {i:Nat} {s v:Int} (W:kG ts i s v i us):kG ts i s v (i+1) us :=
 ⟨W.len,λj hj=>by
  by_cases c:j<i
  ·exact W.lo j c
  ·obtain rfl:j=i:=by omega
   rw[W.hi j (Nat.le_refl _),Jb];cases ts[j]? with
   |none=>rfl
   |some t=>show some t=some (if j=j then t else _);rw[iJ rfl],λj hj=>W.hi j omQ⟩
theorem kG.next {ts us:List qr} {i k:Nat} {s v:Int} {t:qr} (W:kG ts i s v k us) (hk:k≠i) (ht:ts[k]? =some t):kG ts i s v (k+1) (us.set k (yJ t s v)):=by
 have h1:=W.len;have h2:=(List.getElem?_eq_some_iff.1 ht).1;refine⟨by rw[List.length_set];exact h1,λj hj=>?_,λj hj=>?_⟩
 ·by_cases c:j=k
  ·subst c;rw[List.getElem?_set_self omQ,Jb,ht];show _=some (if j=i then t else yJ t s v);rw[iQ hk]
  ·rw[List.getElem?_set_ne (λh=>c h.symm)];exact W.lo j omQ
 ·rw[List.getElem?_set_ne omQ];exact W.hi j omQ
theorem qZF {i:Nat} {draw:Int} (hn:29≤n) (K:G9 m) (hi:i<m.t.length) (hb:m.t.length≤1000) (hp:m.aM≤900000) (hd:0≤draw∧draw<256) (H:HS g h (bH b m::R)) :
  aA n 15 [.ptr b 0,.int .i64 (i:Int),.int .u8 draw] h λr h'=>r=.int .i64 0∧HS g h' (bH b (vB m i draw)::R):=by
 refine cL (S:=S15) rfl omQ λk hk=>?_;unfold S15;try simp only[iZ]
 obtain⟨p,tv,ps,hl,H⟩:=bH.E H;have ht:m.t[i]? =some m.t[i]:=iW hi;have h1:ps[i]? =some (ps[i]'omQ):=iW omQ;obtain⟨O,W,hpa⟩:=K.t i _ ht;have hpk:=K.aM;have uW:=K.aX;have MR:=K.r;have KT:=K.t;unfold vB;rw[ht];dsimp only;generalize(ps[i]'omQ)=a at*;generalize hte:m.t[i]=t at*;refine jV omQ ?_;refine qW ?_
 try dsimp only
 refine qd (qK (qQ (qZ H (b:=b) .here (x:=tv) rfl ?_)));refine qo H (sz:=1) (n:=m.t.length) (v:=tv) e_1 ?_;refine zK omQ ?_
 try dsimp only
 refine qI (qJ ?_);refine qK (qQ (qZ H (b:=b) .here (x:=.int .i64 m.aM) rfl ?_));refine qb omQ ?_;refine qK (qQ ?_);refine qw H (b:=b) .here ⟨rfl,rfl⟩ (by simp[Ju]) λh2 H2=>?_;refine qK (qQ (qZ H2 (b:=b) .here (x:=tv) rfl ?_));refine jd (H2.sl (v:=tv) (xs:=Jk ps) e_1) (x:=.ptr a 0) (Nn h1) ?_;have H3:=Kp h1 ht (H2.aG (P:=.all (vO ps m.t)) e_3);refine qV (qq3 omQ O H3) ?_;rintro _ h4 ⟨rfl,H4⟩;refine qD rfl (qD rfl ?_);clear H H2 H3;refine qK (qQ ?_);refine qh H4 (b:=b) e_2 rfl (by simp[Ju]) rfl λh5 H5=>?_;have H5:HS g h5 (qA b (Ju { m with aM:=m.aM+1,last:=(xD t).getD (bg 0 0 0) } p tv)::aD a t:: .all ((vO ps m.t).eraseIdx i)::qB 71 1 m.t.length tv (Jk ps)::bS p m.s m.m::R):=H5;refine qK (qQ ?_);refine qw H5 (b:=b) .here ⟨rfl,rfl⟩ (by simp[Ju]) λh6 H6=>?_;refine qK (qQ (qZ H6 (b:=b) .here (x:=.bool (xD t).isSome) rfl ?_));clear H4 H5;cases u5:xD t with
 |none=>rw[u5]at H6;refine jB (qX ?_);have H7:HS g h6 (qA b (Ju { m with aM:=m.aM+1,last:=bg 0 0 0,did:=false } p tv)::aD a t:: .all ((vO ps m.t).eraseIdx i)::qB 71 1 m.t.length tv (Jk ps)::bS p m.s m.m::R):=H6;refine qV (qGm omQ O (H7.aG (P:=aD a t) e_1)) λ_ h8 H8=>qG ⟨rfl,?_⟩;have H9:=NR h1 hi (H8.sub (.cons .here (.cons e_1 .refl)));refine bH.I (p:=p) (tv:=tv) (ps:=ps) (by show ps.length=(m.t.set i _).length;rw[List.length_set];exact hl) ?_;unfold Vg;rw[show({ m with aM:=m.aM+1,last:=bg 0 0 0,did:=false,t:=m.t.set i (yL t) }:kK).t.length=m.t.length from List.length_set];exact H9.sub (.cons e_1 (.cons e_1 (.cons e_1 (.cons .here .refl))))
 |some o=>
  rw[u5]at H6;refine jY (qJ ?_);have ho:=VU O W u5;have rr:=NT MR ho;have H7:HS g h6 (qA b (Ju { m with aM:=m.aM+1,last:=o,did:=true } p tv)::aD a t:: .all ((vO ps m.t).eraseIdx i)::qB 71 1 m.t.length tv (Jk ps)::bS p m.s m.m::R):=H6;clear H6;refine qW ?_
  try dsimp only
  refine qK (qQ (qZ H7 (b:=b) .here (x:=.ptr p 0) rfl ?_));refine qK (qQ (qF H7 (b:=b) (off:=11) .here rfl (by simp) (l:=x8 o) rfl ?_));refine qV (PU (o:=o) omQ ⟨uW.1,by omega⟩ (H7.aG (P:=bS p m.s m.m) e_4)) ?_;rintro _ h8 ⟨rfl,H8⟩;refine qK (qQ (qZ H8 (b:=b) e_1 (x:=.int .i64 (m.aM+1)) rfl ?_));refine qV (qjm (an:=(jC m.m o).1) (draw:=draw) (pick:=m.aM+1) omQ O rr.1 hd omQ (H8.aG (P:=aD a t) e_2)) λ_ h9 H9=>?_;refine qc H7 .here rfl H8 e_1 rfl (HS.lt H7 .here) ?_
  try dsimp only
  clear H7 H8;have HA:=NR h1 hi (H9.sub (.cons .here (.cons e_2 .refl)));have O':=MD O rr.1 hd.1 (pick:=m.aM+1) (draw:=draw);have CZ:∀k v,(m.t.set i (zO t (jC m.m o).1 draw (m.aM+1)))[k]? =some v→xn v:=λk v hv=>by
   by_cases e:k=i
   ·subst e;rw[List.getElem?_set_self hi]at hv;cases hv;exact O'
   ·rw[List.getElem?_set_ne (λh=>e h.symm)]at hv;exact(KT k v hv).1
  generalize hts:m.t.set i (zO t (jC m.m o).1 draw (m.aM+1))=ts at*;have Ij:ts.length=m.t.length:=by rw[← hts,List.length_set]
  have HB:HS g h9 (qA b (Ju { m with aM:=m.aM+1,last:=o,did:=true } p tv)::qB 71 1 ts.length tv (Jk ps)::bS p m.s (jC m.m o).2:: .all (vO ps ts)::R):=by rw[Ij];exact HA.sub (.cons e_2 (.cons e_2 (.cons e_1 (.cons .here .refl))))
  clear H9 HA;generalize jC m.m o=r at*;refine qK (qQ (qi (qZ HB (b:=b) .here (x:=.int .i64 o.kind) rfl ?_)));by_cases c5:o.kind=5
  ·rw[iJ c5];refine qs c5 (qJ ?_);refine qK (qQ (qZ HB (b:=b) .here (x:=tv) rfl ?_));refine qo HB (sz:=1) (n:=ts.length) (v:=tv) e_1 ?_
   refine jL (λc s h'=>∃(k:Nat) (us:List qr),s=(.int .i64 (k:Int),.int .i64 (ts.length:Int),tv,.int .i64 (i:Int),.ptr b 0,())∧k≤ts.length∧c=ts.length-k∧kG ts i o.at_ o.lk.1 k us∧
     HS g h' (qA b (Ju { m with aM:=m.aM+1,last:=o,did:=true } p tv)::qB 71 1 ts.length tv (Jk ps)::bS p m.s r.2:: .all (vO ps us)::R))
    ?_ (m:=ts.length) (by show _<1000000000;omega) ⟨0,ts,rfl,Nat.zero_le _,rfl,⟨rfl,λj hj=>absurd hj omQ,λj _=>rfl⟩,HB⟩
   clear HB;rintro c ih s h8 bG ⟨k,us,rfl,hk,rfl,WK,H⟩;dsimp only;by_cases au:k<ts.length
   ·refine jF omQ (qX ?_);have iR:ps[k]? =some (ps[k]'omQ):=iW omQ;refine qW ?_
    try dsimp only
    refine jd (H.sl (v:=tv) (xs:=Jk ps) e_1) (x:=.ptr (ps[k]'omQ) 0) (Nn iR) ?_;by_cases ck:k=i
    ·subst ck;refine qs rfl (qJ ?_);refine qb omQ ?_;exact bG (ts.length-(k+1)) _ _ omQ ⟨k+1,us,rfl,by omega,rfl,WK.same,H⟩
    ·refine jQ omQ (qX ?_);have IA:ts[k]? =some ts[k]:=iW au;have huk:us[k]? =some ts[k]:=by rw[WK.hi k (Nat.le_refl _)];exact IA
     have rZ:=WK.len;refine qK (qQ (qi (qZ H (b:=b) .here (x:=.int .i64 o.at_) rfl ?_)));refine qK (qQ (qi (qi (qZ H (b:=b) .here (x:=.int .u64 o.lk.1) rfl ?_))));have H2:=Kp iR huk (H.aG (P:=.all (vO ps us)) e_3);refine qV (qkA omQ (CZ k _ IA) H2) λ_ h3 H3=>?_;have H4:=NR iR omQ H3;refine qb omQ ?_;exact bG (ts.length-(k+1)) _ _ omQ ⟨k+1,_,rfl,by omega,rfl,WK.next ck IA,H4.sub (.cons e_1 (.cons e_1 (.cons e_1 (.cons .here .refl))))⟩
   ·obtain rfl:k=ts.length:=by omega
    refine jV omQ (qJ ?_);refine qk (qG ⟨rfl,?_⟩);have e:=WK.done;subst e;have s4:(yT ts i o.at_ o.lk.1).length=ts.length:=by unfold yT;simp
    refine bH.I (p:=p) (tv:=tv) (ps:=ps) (by show ps.length=(yT ts i o.at_ o.lk.1).length;omega) ?_;unfold Vg;show HS g h8 (qA b (Ju _ p tv)::qB 71 1 (yT ts i o.at_ o.lk.1).length tv (Jk ps)::bS p m.s r.2:: .all (vO ps (yT ts i o.at_ o.lk.1))::R);rw[s4];exact H
  ·rw[iQ c5];refine jQ c5 (qX (qG ⟨rfl,?_⟩));exact bH.I (p:=p) (tv:=tv) (ps:=ps) (by show ps.length=ts.length;omega) HB
end
end
end Go.Proofs.YtefichdddddacaaGreatDoor
