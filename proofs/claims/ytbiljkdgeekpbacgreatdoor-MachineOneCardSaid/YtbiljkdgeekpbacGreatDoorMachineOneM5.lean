/- Lemmas for 'quietus/quietuslaw28.MachineOne': Blocks given back: by the program, by the documents own text;A program run whole on words: by the programs own code;A thread alone: plain: what comes of it, ... No condition. -/
import Derived.Test.YtbiljkdgeekpbacGreatDoorMachineOneM4
import Derived.Test.YtbiljkdgeekpbacGreatDoorMachineOneM1
import Derived.Test.YtbiljkdgeekpbacGreatDoorMachineOneM3
namespace Go.Proofs.YtbiljkdgeekpbacGreatDoor
open Go Go.Ae
set_option maxRecDepth 100000
section
open Go Go.Ae arenaPlays
set_option maxRecDepth 100000
variable {g h:AH} {L R:List SP}
def Shp (v:AV):Prop:=v=.nils∨∃b o n cp x,v=.slice b o n cp x
theorem shp {e:TypeId} {sz n:Nat} {v:AV} {xs:List AV} (H:HS g h L) (s:Sel L (qy e sz n v xs) R):Shp v:=by
 obtain⟨D,h1,⟨rfl,rfl,_⟩ |⟨b,cp,o,ys,rfl,_⟩⟩:=H.p s
 ·exact .inl rfl
 ·exact .inr ⟨_,_,_,_,_,rfl⟩
abbrev qyb:List AV:=[.int .i64 ((0:Nat):Int),.int .i64 ((0:Nat):Int),.str [],.nils,.nils,.nils]
theorem qkR {er k:Int} {wv:AV} (h:Shp wv):yM qyb [(0,1,.int .i64 k),(1,1,.int .i64 er),(5,1,wv)]=some [.int .i64 k,.int .i64 er,.str [],.nils,.nils,wv]:=by
 rcases h with rfl |⟨b,o,n,cp,x,rfl⟩<;>rfl
theorem qvl {k:Int} {cv wv:AV} (h1:Shp cv) (h2:Shp wv):yM qyb [(0,1,.int .i64 k),(3,1,cv),(5,1,wv)]=some [.int .i64 k,.int .i64 ((0:Nat):Int),.str [],cv,.nils,wv]:=by
 rcases h1 with rfl |⟨b,o,n,cp,x,rfl⟩<;>rcases h2 with rfl |⟨b,o,n,cp,x,rfl⟩<;>rfl
theorem all6 {er k:Int} {cv wv:AV} (h1:Shp cv) (h2:Shp wv):qp [.int .i64 k,.int .i64 er,.str [],cv,.nils,wv]=true:=by
 rcases h1 with rfl |⟨b,o,n,cp,x,rfl⟩<;>rcases h2 with rfl |⟨b,o,n,cp,x,rfl⟩<;>rfl
def xV:VM→List Int→Int×VM
 |M,[]=>(0,M)
 |M,b::bs=>if(zj M b).1=0 then xV (zj M b).2 bs else((zj M b).1,(zj M b).2)
def Oq (q:Int×VM):List Cl:=if q.1=0 then jZ q.2.lv else[]
def MY (zs:List Int) (q:Int×VM):List Int:=jF zs (Oq q)
def qXE (q:Int×VM) (cv wv:AV):AV:=.agg [.int .i64 (if q.1=0 then 2 else 4),.int .i64 q.1,.str [],cv,.nils,wv]
def OutS (g:AH) (R:List SP) (zs:List Int) (q:Int×VM) (r:AV) (h':AH):Prop :=
 ∃cv wv e1 e2,r=qXE q cv wv∧(shut wv=true∧Uz wv)∧HS g h' (qy e1 2 (Oq q).length cv ((Oq q).flatMap jP)::qy e2 1 (MY zs q).length wv ((MY zs q).map (.int .u64))::R)
theorem qqm {n:Nat} (hn:14≤n) {zs bs:List Int} {a0 a1:AV} {m:Int} (H:HS g h R) (S:Rd g R 1 zs.length a0 (zs.map (.int .u64))) (hcut:qJP g R a0 zs) (S1:Rd g R 1 bs.length a1 (bs.map (.int .i64)))
  (hz:∀z∈zs,0≤z∧z<18446744073709551616) (hl:zs.length<100000) (hb:bs.length<100000) :
  t_w n 13 [a0,a1,.int .i64 m] h (OutS g R zs (xV (jV zs m) bs)):=by
 refine t_e3 rfl omQ λk hk=>?_;unfold S13;try simp only[iZ]
 refine qP H rfl λb h1 H=>?_;refine qG (NE omQ H S.more) ?_;rintro _ h2 ⟨v,rfl,H⟩;have G0:=qKE (m:=m) hz;have F0:frS (jV zs m).lv=0:=rfl;refine zu (S1.sl H.drop.drop)<|jM (λc s h'=>∃(i:Nat) (M:VM),s=(.int .i64 (i:Int),.int .i64 (bs.length:Int),a1,.ptr v 0,.ptr b 0,a0,())∧i≤bs.length∧c=bs.length-i∧jI M∧frS M.lv=0∧xV (jV zs m) bs=xV M (bs.drop i)∧
  HS g h' (ViewC v M::qw b [.int .i64 ((0:Nat):Int),.int .i64 ((0:Nat):Int),.str [],.nils,.nils,.nils]::R)) ?_ (m:=bs.length) omQ ⟨0,_,rfl,by omega,by omega,G0,F0,rfl,H⟩
 rintro c ih s h3 hih ⟨i,M,rfl,h1,rfl,G,hf,hM,H⟩;rw[hM];refine zL (λhlt=>qZ ?_) λhge=>qJ ?_
 ·have hi:i<bs.length:=by omega
  refine jO (S1.sl H.drop.drop) (by rw[List.getElem?_map,iW hi];rfl)<|qG (Zt omQ H G.ok) ?_;rintro _ h4 ⟨rfl,H⟩;have G2:=G.give (b:=bs[i]);rw[List.drop_eq_getElem_cons hi];by_cases e0:(zj M bs[i]).1=0
  ·have hg:xV M (bs[i]::bs.drop (i+1))=xV (zj M bs[i]).2 (bs.drop (i+1)):=iJ e0;rw[e0];refine q9 omQ<|qJ (qc omQ ?_);rw[List.drop_eq_getElem_cons hi,hg]at hM;rw[hg,← hM];exact hih (bs.length-(i+1)) _ _ omQ ⟨i+1,_,rfl,by omega,rfl,G2.1,by rw[G2.2];exact hf,hM,H⟩
  ·have hg:xV M (bs[i]::bs.drop (i+1))=((zj M bs[i]).1,(zj M bs[i]).2):=iQ e0;rw[hg];generalize(zj M bs[i]).1=er at*;generalize(zj M bs[i]).2=M2 at*;refine jX omQ (qZ ?_);refine qG (Y3 (cs:=[]) omQ H S.more.more (vr (vr hcut)) (λ_ _=>.nils) hl osQ) ?_;rintro wv h5 ⟨e,hsr,H5⟩;have w1:=shp H5 .here;refine qL (qkR w1)<|qf H5 e_2 rfl (by simp) (all6 (.inl rfl) w1) λh6 H6=>?_;refine qk (qF H6 .here rfl omQ rfl (qj ?_));refine⟨.nils,wv,0,e,?_,hsr,?_⟩
   ·unfold qXE;rw[iQ e0];rfl
   ·have hc:Oq (er,M2)=[]:=iQ e0;unfold MY;rw[hc];exact((H6.drop).sub (L':=qy e 1 (jF zs []).length wv ((jF zs []).map (.int .u64))::R) (.cons .here (.drop (.refl)))).nils
 ·have hd:bs.drop i=[]:=List.drop_of_length_le omQ;rw[hd];show wp _ (OutS g R zs (0,M));refine qG (Jx omQ H G.ok) λc1 h4 H4=>?_;refine qG (Jx omQ (H4.sel e_1) G.ok) λc2 h5 H5=>?_;have hml:(jZ M.lv).length<100000:=by
   have h1:=Jd M.lv [];have h2:=G.ok.lvs.held;have h3:=G.ok.lvs.le;have h4:(jZ M.lv).length≤([]:List Cl).length+yu M.lv:=h1;simp at h4;omega
  refine qG (Y3 omQ H5 S.more.more.more.more (vr (vr (vr (vr hcut)))) (H5.rd .here) hl hml) ?_;rintro wv h6 ⟨e,hsr,H6⟩;have w1:=shp H6 .here;have w2:=shp H6 e_3;refine qL (qvl w2 w1)<|qf H6 e_4 rfl (by simp) (all6 w2 w1) λh7 H7=>?_
  have H7:HS g h7 (qw b [.int .i64 ((2:Nat):Int),.int .i64 ((0:Nat):Int),.str [],c1,.nils,wv]::qy e 1 (jF zs (jZ M.lv)).length wv ((jF zs (jZ M.lv)).map (.int .u64))::qy 164 2 (jZ M.lv).length c2 ((jZ M.lv).flatMap jP)::
   ViewC v M::qy 164 2 (jZ M.lv).length c1 ((jZ M.lv).flatMap jP)::R):=H7
  refine qk (qF H7 .here rfl omQ rfl (qj ?_));refine⟨c1,wv,164,e,rfl,hsr,?_⟩;have hc:Oq ((0:Int),M)=jZ M.lv:=iJ rfl;unfold MY;rw[hc];exact H7.pk [4,1] 3
end
section
variable {g h:AH} {L R:List SP}
abbrev ze (l:List qR) (n:Nat) (zs:List Int) (m:Int):RM:=jL l (qO l) n J7 (jV zs m)
def zC (r:RM):List Cl:=if r.kind=2 then jZ r.v.lv else[]
def je (r:RM):List Int:=if r.kind=2 then gA r.v.lv else[]
def QY (r:RM):List UInt8:=if r.kind=2 then qZD r.s.out else[]
def qZh (r:RM) (cv fv wv:AV):List AV:=[.int .i64 r.kind,.int .i64 r.err,.str (QY r),cv,fv,wv]
theorem qyI {er k:Int} {tx:List UInt8} {cv fv wv:AV} (h1:Shp cv) (h2:Shp fv) (h3:Shp wv):qp [.int .i64 k,.int .i64 er,.str tx,cv,fv,wv]=true:=by
 rcases h1 with rfl |⟨b,o,n,cp,x,rfl⟩<;>rcases h2 with rfl |⟨b,o,n,cp,x,rfl⟩<;>rcases h3 with rfl |⟨b,o,n,cp,x,rfl⟩<;>rfl
theorem Gs {v:AV} (h:Shp v):One v:=by
 rcases h with rfl |⟨b,o,n,cp,x,rfl⟩<;>exact⟨rfl,rfl⟩
theorem qgD {n:Nat} (hn:18≤n) {l:List qR} {pv wv:AV} {zs:List Int} {fuel m:Int} (H:HS g h R) (S:Rd g R 5 l.length pv (l.flatMap jg)) (Sw:Rd g R 1 zs.length wv (zs.map (.int .u64))) (hcut:qJP g R wv zs) (hz:OkN zs) (hzl:zs.length<100000) (hc:(zb l).2=0) (Q:Quiet l) :
  t_w n 12 [wv,.agg [pv],.int .i64 fuel,.int .i64 m] h λr h'=>∃cv fv av e1 e2 e3,r=.agg (qZh (ze l (jj fuel) zs m) cv fv av)∧(shut av=true∧Uz av)∧
   HS g h' (qy e1 2 (zC (ze l (jj fuel) zs m)).length cv ((zC (ze l (jj fuel) zs m)).flatMap jP)::qy e2 1 (je (ze l (jj fuel) zs m)).length fv ((je (ze l (jj fuel) zs m)).map (.int .i64))::
    qy e3 1 (jF zs (zC (ze l (jj fuel) zs m))).length av ((jF zs (zC (ze l (jj fuel) zs m))).map (.int .u64))::R):=by
 refine t_e4 rfl omQ λk hk=>?_;unfold S12;try simp only[iZ]
 have F:=gu hc;have hle:=F.le;refine qP H (vQ (kh (S.sl H))) λb0 h1 H1=>?_;refine qP H1 rfl λb1 h2 H2=>?_;refine qG (NE omQ H2 Sw.more.more) ?_;rintro _ h3 ⟨v,rfl,H3⟩;refine qF H3 e_2 rfl omQ rfl<|qG (qVb omQ H3 S.more.more.more omQ) ?_;rintro _ h4 ⟨x,rfl,H4⟩;have hm:KL l=qO l:=by unfold KL;rw[iJ hc]
 rw[hm,hc]at H4;have hfz:jj fuel≤400:=by unfold jj;omega
 have G0:=Yj (l:=l) (m:=m) hz;have f0:=w6 zs m;refine qG (qVd omQ F Q G0 omQ omQ H4) ?_;rintro _ h5 ⟨rfl,nx,H5⟩;obtain⟨RB,rfr,_,_,rk⟩:=Yu F Q (jj fuel) G0 omQ;unfold ze;generalize jL l (qO l) (jj fuel) J7 (jV zs m)=RM at*;refine qG (qK3 omQ H5) ?_;rintro _ h5 ⟨rfl,rfl⟩;refine qL rfl<|qP H5 rfl λb2 h6 H6=>?_;refine qf H6 .here rfl (by simp) rfl λh7 H7=>?_;have H7:HS g h7 (qw b2 [.int .i64 RM.kind,.int .i64 RM.err,.str [],.nils,.nils,.nils]::IntC x v l 0 (qO l) RM.s RM.err (if RM.kind=1 then 0 else RM.kind) (RM.left:Int) nx::ViewC v RM.v::qw b1 [.int .i64 ((0:Nat):Int),.int .i64 ((0:Nat):Int),.str [],.nils,.nils,.nils]::qw b0 [pv]::R):=H7;clear H1 H2 H3 H4 H5 H6
 refine ji [] (λs h'=>s=(.ptr b2 0,.ptr b1 0,wv,())∧∃cv fv e1 e2,HS g h' (qw b2 [.int .i64 RM.kind,.int .i64 RM.err,.str (QY RM),cv,fv,.nils]::qy e1 2 (zC RM).length cv ((zC RM).flatMap jP)::qy e2 1 (je RM).length fv ((je RM).map (.int .i64))::
   qw b1 [.int .i64 ((0:Nat):Int),.int .i64 ((0:Nat):Int),.str [],.nils,.nils,.nils]::R)) ?_ ?_
 rotate_left
 ·rintro s h8 ⟨rfl,cv,fv,e1,e2,H8⟩;have hcs:(zC RM).length<100000:=by
   unfold zC
   split
   ·have h1:=Jd RM.v.lv [];have h2:=RB.good.ok.lvs.held;have h3:=RB.good.ok.lvs.le;simp at h1;unfold jZ;omega
   ·simp
  have w1:=shp H8 e_1;have w2:=shp H8 e_2;refine qQ (qX ‹_› .here rfl ?_);refine qG (Y3 omQ H8 (Sw.more.more.more.more) (vr (vr (vr (vr hcut)))) (H8.rd e_1) hzl hcs) ?_;rintro av h9 ⟨e3,hsr,H9⟩;have w3:=shp H9 .here;refine qQ (qA H9 e_1 (Gs w3) (by simp) λh10 H10=>?_)
  have H10:HS g h10 (qw b2 (qZh RM cv fv av)::qy e3 1 (jF zs (zC RM)).length av ((jF zs (zC RM)).map (.int .u64))::qy e1 2 (zC RM).length cv ((zC RM).flatMap jP)::qy e2 1 (je RM).length fv ((je RM).map (.int .i64))::
   qw b1 [.int .i64 ((0:Nat):Int),.int .i64 ((0:Nat):Int),.str [],.nils,.nils,.nils]::R):=H10
  refine qF H10 .here rfl omQ rfl<|qf H10 e_4 rfl (by simp) (qyI w1 w2 w3) λh11 H11=>?_;refine qk (qF H11 .here rfl omQ rfl ?_);exact qj ⟨cv,fv,av,e1,e2,e3,rfl,hsr,H11.pk [3,3,2] 2⟩
 intro j hj;refine qQ (qX ‹_› .here rfl ?_);by_cases k2:RM.kind=2
 ·refine qg k2<|qZ (qG (Nm omQ (H7.sel e_1) RB.gb.out) ?_);rintro _ h8 ⟨p,rfl,H8⟩;refine qG (qVS omQ H8 (by have:=RB.gb.out;omega) RB.gb.its) ?_;rintro _ h9 ⟨rfl,H9⟩;refine qG (Jx omQ (H9.sel e_3) RB.good.ok) λcv h10 H10=>?_;refine qG (NW omQ (H10.sel e_1) RB.good.ok) λfv h11 H11=>?_;have w1:=shp H11 .here;have w2:=shp H11 e_2;refine qQ (qA H11 e_5 ⟨rfl,rfl⟩ (by simp) λh12 H12=>?_);refine qQ (qA H12 .here (Gs w2) (by simp) λh13 H13=>?_);refine qQ (qA H13 .here (Gs w1) (by simp) λh14 H14=>?_)
  skip
  have t1:QY RM=qZD RM.s.out:=iJ k2;have t2:zC RM=jZ RM.v.lv:=iJ k2;have t3:je RM=gA RM.v.lv:=iJ k2;refine hj _ _ ⟨rfl,cv,fv,164,3,?_⟩;rw[t1,t2,t3];have H15:HS g h14 (qw b2 [.int .i64 RM.kind,.int .i64 RM.err,.str (qZD RM.s.out),cv,fv,.nils]::_):=H14;exact H15.pk [0,2,0,3] 4
 ·refine qK k2<|qJ ?_;have t1:QY RM=[]:=iQ k2;have t2:zC RM=[]:=iQ k2;have t3:je RM=[]:=iQ k2;refine hj _ _ ⟨rfl,.nils,.nils,164,3,?_⟩;rw[t1,t2,t3];have H8:=(H7.nils (e:=3) (sz:=1)).nils (e:=164) (sz:=2);exact H8.sub (.cons e_2 (.cons .here (.cons .here (.drop (.drop (.cons .here (.drop .refl)))))))
end
section
def Km:Nat→Nat→qo→jC→qo×jC
 | 0,_,t,M=>(t,M)
 |n+1,i,t,M=>match xL t with
  |none=>(t,M)
  |some o=>Km n (i+1) (zB t (jw M o).1 0 ((i:Int)+1)) (jw M o).2
inductive UA:Nat→Nat→qo→jC→qo→jC→Prop
  |nil {i:Nat} {t:qo} {M:jC}:UA i 0 t M t M
  |cons {i m:Nat} {t u:qo} {M N:jC} {o:OpM} (hn:xL t=some o) (r:UA (i+1) m (zB t (jw M o).1 0 ((i:Int)+1)) (jw M o).2 u N):UA i (m+1) t M u N
theorem UA.run {i m:Nat} {t u:qo} {M N:jC} (s:UA i m t M u N):∀n,Km (m+n) i t M=Km n (i+m) u N:=by
 induction s with
 |nil=>intro n;rw[Nat.zero_add];rfl
 |cons hn r ih=>
  intro n;rename_i i m t u M N o;rw[show m+1+n=(m+n)+1 by omega];have e:Km ((m+n)+1) i t M=Km (m+n) (i+1) (zB t (jw M o).1 0 ((i:Int)+1)) (jw M o).2:=by show(match xL t with |none=>(t,M) |some o=>Km (m+n) (i+1) (zB t (jw M o).1 0 ((i:Int)+1)) (jw M o).2)=_;rw[hn]
  rw[e,ih,show i+1+m=i+(m+1) by omega]
theorem UA.trans {i m k:Nat} {t u v:qo} {M N P:jC} (s:UA i m t M u N):UA (i+m) k u N v P→UA i (m+k) t M v P:=by
 induction s with
 |nil=>intro r;rw[Nat.zero_add];exact r
 |cons hn r ih=>rename_i i m t u M N o;intro q;rw[show m+1+k=(m+k)+1 by omega];exact .cons hn (ih (by rw[show i+1+m=i+(m+1) by omega];exact q))
structure qzr (t u:qo):Prop where
  res:∃r,u.results=t.results++r
  past:u.past.length≤t.past.length+1
structure Q7 (t u:qo):Prop where
  res:u.results=t.results
  past:u.past=t.past
theorem Q7.refl (t:qo):Q7 t t:=⟨rfl,rfl⟩
theorem Q7.trans {t u v:qo} (a:Q7 t u) (b:Q7 u v):Q7 t v:=⟨b.res.trans a.res,b.past.trans a.past⟩
theorem wN (t:qo):Q7 t (zV t):=by unfold zV;split<;>exact⟨rfl,rfl⟩
theorem xq (t:qo):Q7 t (jc t):=(Q7.trans (u:={ t with job:=t.job+1,sweep:=false,giving:=[],tries:=0,conf:=0 }) ⟨rfl,rfl⟩ (wN _))
theorem VZ (t:qo) (d:Int):Q7 t (xl t d):=by
 unfold xl
 split
 ·exact(Q7.trans (u:={ t with pauses:=0,state:=3 }) ⟨rfl,rfl⟩ (wN _))
 ·exact⟨rfl,rfl⟩
theorem Nl (t:qo):Q7 t (xT t):=by
 have key:∀u:qo,Q7 u (xJ u):=λu=>by
  unfold xJ
  split
  ·exact .refl u
  ·split
   ·exact(Q7.trans (u:={ u with rests:=u.rests.filter λr=>!q8 u.slots r.2 }) ⟨rfl,rfl⟩ (xq _))
   ·exact(Q7.trans (u:={ u with rests:=u.rests.filter (λr=>!q8 u.slots r.2),sweep:=true,giving:=u.rests.filter (λr=>q8 u.slots r.2),tries:=0,conf:=0 }) ⟨rfl,rfl⟩ (wN _))
 unfold xT
 split
 ·exact(Q7.trans (u:={ t with slots:=t.slots++[0] }) ⟨rfl,rfl⟩ (key _))
 ·exact key t
theorem qW2 (t:qo):Q7 t (yj t):=by
 unfold yj
 split
 ·exact xq t
 ·exact(Q7.trans (u:={ t with state:=5,slots:=[] }) ⟨rfl,rfl⟩ (Nl _))
theorem V8 (t:qo) (f:Int):Q7 t (vZ t f):=by
 unfold vZ
 split
 ·exact(Q7.trans (u:={ t with rests:=t.rests++t.giving }) ⟨rfl,rfl⟩ (xq _))
 ·exact xq t
theorem qzr.of {t u v:qo} (a:Q7 u v) {r:List YR} (h:u.results=t.results++r) (hp:u.past.length≤t.past.length+1):qzr t v:=⟨⟨r,a.res.trans h⟩,by rw[a.past];exact hp⟩
theorem qZR (t:qo) (x:jG) (d p:Int):qzr t (zk t x d p):=by
 have h1:(t.past++[jb t x p]).length≤t.past.length+1:=by simp
 have h0:t.results=t.results++[]:=(List.append_nil _).symm;unfold zk;dsimp only
 split
 ·split
  ·exact⟨⟨[],h0⟩,h1⟩
  ·exact .of (VZ _ _) h0 h1
 ·split
  ·split
   ·exact .of (wN _) h0 h1
   ·exact⟨⟨[],h0⟩,h1⟩
  ·split
   ·exact .of (V8 _ _) h0 h1
   ·exact .of (qW2 _) rfl h1
theorem OA (t:qo) (a:AnM) (d p:Int):qzr t (zB t a d p):=by
 have h0:t.results=t.results++[]:=(List.append_nil _).symm;have hr:qzr t t:=⟨⟨[],h0⟩,Nat.le_succ _⟩;unfold zB
 split
 ·split
  ·exact hr
  ·rename_i x _;unfold gr;dsimp only
   split
   ·exact⟨⟨[],h0⟩,Nat.le_succ _⟩
   ·have G:=qZR { t with now:=some (jU x a),born:=if(jU x a).begun=true∧x.begun=false then p else t.born } (jU x a) d p;exact⟨G.res,G.past⟩
 ·split
  ·split
   ·exact⟨⟨[],h0⟩,Nat.le_succ _⟩
   ·exact .of (VZ _ _) h0 (Nat.le_succ _)
  ·split
   ·exact .of (Nl _) h0 (Nat.le_succ _)
   ·exact hr
def ThrW (t:qo):Prop:=∀x,t.now=some x→XQ x
theorem ThrW.same {t u:qo} (W:ThrW t) (h:u.now=t.now):ThrW u:=λx hx=>W x (h▸hx)
theorem wL (t:qo):ThrW (zV t):=by
 unfold zV
 split
 ·exact λx h=>by cases h
 ·intro x h;cases h
  split
  ·exact ZN
  ·exact ZN
theorem gt (t:qo):ThrW (jc t):=wL _
theorem U1 {t:qo} (W:ThrW t) (d:Int):ThrW (xl t d):=by
 unfold xl
 split
 ·exact wL _
 ·exact W.same rfl
theorem Nd {t:qo} (W:ThrW t):ThrW (xT t):=by
 have key:∀u:qo,ThrW u→ThrW (xJ u):=λu W=>by
  unfold xJ
  split
  ·exact W
  ·split
   ·exact gt _
   ·exact wL _
 unfold xT
 split
 ·exact key _ (W.same rfl)
 ·exact key _ W
theorem qXb {t:qo} (W:ThrW t) (x:jG) (d p:Int):ThrW (zk t x d p):=by
 unfold zk;dsimp only
 split
 ·split
  ·exact W.same rfl
  ·exact U1 (t:={ t with past:=t.past++[jb t x p],tries:=t.tries+1,conf:=t.conf+1 }) (W.same rfl) _
 ·split
  ·split
   ·exact wL _
   ·exact W.same rfl
  ·split
   ·unfold vZ;exact gt _
   ·unfold yj
    split
    ·exact gt _
    ·exact Nd (W.same rfl)
theorem qWu {t:qo} (O:ya t) (W:ThrW t) {a:AnM} (ha:Yh a) (d p:Int):ThrW (zB t a d p):=by
 unfold zB
 split
 ·rename_i h1
  split
  ·exact W
  ·rename_i x hx;have C:=O.c omQ;have hN:=(C.now x hx).1;have W1:XQ (jU x a):=OQ hN (W x hx) ha;unfold gr;dsimp only
   split
   ·intro y hy;cases hy;exact W1
   ·refine qXb (λy hy=>?_) _ _ _;cases hy;exact W1
 ·split
  ·split
   ·exact W.same rfl
   ·exact U1 W _
  ·split
   ·exact Nd (W.same rfl)
   ·exact W
theorem M8 {t:qo} {o:OpM} (O:ya t) (W:ThrW t) (h:xL t=some o):U64 o.word:=by
 have z0:U64 (0:Int):=⟨Int.le_refl _,by decide⟩;unfold xL at h
 split at h
 ·rename_i h1;have C:=O.c omQ;cases hx:t.now with
  |none=>exact absurd hx C.some
  |some x=>rw[hx]at h;exact Ox (C.now x hx).1 (W x hx) h
 ·split at h
  ·cases h;exact z0
  ·split at h
   ·cases h;exact z0
   ·cases h
theorem YE {t:qo} {x:jG} {a:AnM} {d p:Int} (h1:t.state=1) (hx:t.now=some x):zB t a d p=gr t x (jU x a) d p:=by
 unfold zB;rw[iJ h1]
 split
 ·rename_i h2;rw[hx]at h2;cases h2
 ·rename_i y h2;rw[hx]at h2;cases h2;rfl
theorem YY {t:qo} {x:jG} (h1:t.state=1) (hx:t.now=some x):xL t=xA x:=by unfold xL;rw[iJ h1,hx];rfl
theorem Vw {x:jG} {o:OpM} (h:xA x=some o):jS x=0:=by unfold jS;rw[iJ];intro h8;unfold xA at h;rw[iQ omQ,iQ omQ,iQ omQ,iQ omQ,iJ h8]at h;cases h
theorem qJ7:∀(m:Nat) {i:Nat} {x y:jG} {M N:jC} {t:qo},Stp (m+1) x M y N→jS y≠0→t.state=1→t.now=some x→
  ∃b,UA i (m+1) t M (zk { t with now:=some y,born:=b } y 0 ((i+m:Nat)+1)) N:=by
 intro m
 induction m with
 |zero=>
  intro i x y M N t s hy h1 hx;cases s with
  |cons hn r=>rename_i o;cases r;refine⟨if(jU x (jw M o).1).begun=true∧x.begun=false then(i:Int)+1 else t.born,.cons ((YY h1 hx).trans hn) ?_⟩;rw[YE h1 hx];unfold gr;rw[iQ hy];exact .nil
 |succ m ih=>
  intro i x y M N t s hy h1 hx;cases s with
  |cons hn r=>
   rename_i o;have r0:=r;cases r with
   |cons hn2 r2=>
    have hg:=Vw hn2;have e:zB t (jw M o).1 0 ((i:Int)+1)={ t with now:=some (jU x (jw M o).1),born:=if(jU x (jw M o).1).begun=true∧x.begun=false then(i:Int)+1 else t.born }:=by rw[YE h1 hx];unfold gr;rw[iJ hg]
    obtain⟨b,q⟩:=ih (t:={ t with now:=some (jU x (jw M o).1),born:=if(jU x (jw M o).1).begun=true∧x.begun=false then(i:Int)+1 else t.born }) r0 hy h1 rfl;refine⟨b,.cons ((YY h1 hx).trans hn) ?_⟩;rw[e];rw[show i+1+m=i+(m+1) by omega]at q;exact q
end
section
theorem qX5 {M:jC} {o:OpM}:(jw M o).2.w.length=M.w.length∧(jw M o).2.l.length=M.l.length∧(jw M o).2.s.length=M.s.length:=by
 have key:(vK M o).2.w.length=M.w.length∧(vK M o).2.l.length=M.l.length∧(vK M o).2.s.length=M.s.length:=by
  unfold vK XI Qb XV Q6
  repeat' split
  all_goals simp
 rw[kY]
 split
 ·exact key
 ·exact key
theorem qKB (t:qo) (W:ThrW t):ThrW (vV t):=by
 unfold vV
 split
 ·split
  ·exact wL _
  ·exact W.same rfl
 ·exact W
theorem qz1 (t:qo) (W:ThrW t) (s v:Int):ThrW (xN t s v):=by
 unfold xN
 split
 ·exact W
 ·split
  ·split
   ·exact wL _
   ·split
    ·exact W.same rfl
    ·exact W
  ·exact W
theorem Vy (t:qo):(vV t).past=t.past:=by
 unfold vV
 split
 ·split
  ·exact(wN _).past
  ·rfl
 ·rfl
theorem ZR (t:qo) (s v:Int):(xN t s v).past=t.past:=by
 unfold xN
 split
 ·rfl
 ·split
  ·split
   ·exact(wN _).past
   ·split<;>rfl
  ·rfl
structure V6 (m:wb):Prop where
  so:yX m.s
  r:Zi m.m
  len:(m.t.length:Int)=m.s.threads
  w:(m.m.w.length:Int)=m.s.words
  l:(m.m.l.length:Int)=m.s.stripes
  sl:(m.m.s.length:Int)=m.s.threads
  t:∀(i:Nat) (t:qo),m.t[i]? =some t→ya t∧ThrW t∧(t.past.length:Int)≤m.picks
  picks:0≤m.picks
  cnt:0≤m.m.cnt∧m.m.cnt≤m.picks+1
theorem Xg {ts:List qo} {i:Nat} {s v:Int} {k:Nat}:(yO ts i s v)[k]? =(ts[k]?).map λt=>if k=i then t else xN t s v:=by unfold yO;rw[List.getElem?_mapIdx]
theorem qXc {m:wb} (K:V6 m) {i:Nat} (hi:i<m.t.length) {draw:Int} (hd:0≤draw):V6 (gG m i draw)∧(gG m i draw).s=m.s∧(gG m i draw).picks=m.picks+1:=by
 obtain⟨t,ht⟩:∃t,m.t[i]? =some t:=⟨m.t[i],iW hi⟩;obtain⟨O,W,hp⟩:=K.t i t ht;have hct:=K.cnt;have at_k:∀(u:qo) {k:Nat} {v:qo},(m.t.set i u)[k]? =some v→(k=i∧v=u)∨(k≠i∧m.t[k]? =some v):=λu k v h=>by
  by_cases e:k=i
  ·subst e;rw[List.getElem?_set_self hi]at h;exact .inl ⟨rfl,(Option.some.inj h).symm⟩
  ·rw[List.getElem?_set_ne (λh=>e h.symm)]at h;exact .inr ⟨e,h⟩
 unfold gG;rw[ht];dsimp only
 split
 ·refine⟨⟨K.so,K.r,by rw[List.length_set];exact K.len,K.w,K.l,K.sl,λk v hv=>?_,by show 0≤m.picks+1;omega,by show 0≤m.m.cnt∧m.m.cnt≤m.picks+1+1;omega⟩,rfl,rfl⟩;show ya v∧ThrW v∧(v.past.length:Int)≤m.picks+1;rcases at_k _ hv with⟨_,rfl⟩ |⟨_,h⟩
  ·exact⟨qJl O,qKB t W,by rw[Vy];omega⟩
  ·obtain⟨a,b,c⟩:=K.t k v h;exact⟨a,b,by omega⟩
 ·rename_i o hn;have ho:=M8 O W hn;obtain⟨a1,a2⟩:=Zk K.r ho;have O':=Nu O a1 hd (pick:=m.picks+1);have W':=qWu O W a1 draw (m.picks+1);have G:=(OA t (jw m.m o).1 draw (m.picks+1)).past;obtain⟨l1,l2,l3⟩:=qX5;have lc:=Nc (M:=m.m) (o:=o);generalize jw m.m o=r at*;generalize zB t r.1 draw (m.picks+1)=u at*;have one:∀(k:Nat) (v:qo),(m.t.set i u)[k]? =some v→ya v∧ThrW v∧(v.past.length:Int)≤m.picks+1:=λk v hv=>by
   rcases at_k _ hv with⟨_,rfl⟩ |⟨_,h⟩
   ·exact⟨O',W',by omega⟩
   ·obtain⟨a,b,c⟩:=K.t k v h;exact⟨a,b,by omega⟩
  have base:∀ts:List qo,ts.length=m.t.length→(∀(k:Nat) (v:qo),ts[k]? =some v→ya v∧ThrW v∧(v.past.length:Int)≤m.picks+1)→V6 { m with picks:=m.picks+1,last:=o,did:=true,m:=r.2,t:=ts }:=λts hl H=>⟨K.so,a2,by rw[hl];exact K.len,by rw[l1];exact K.w,by rw[l2];exact K.l,by rw[l3];exact K.sl,H,by show 0≤m.picks+1;omega,by show 0≤r.2.cnt∧r.2.cnt≤m.picks+1+1;omega⟩
  refine⟨?_,rfl,rfl⟩
  split
  ·refine base _ (by unfold yO;simp) λk v hv=>?_;rw[Xg]at hv;cases hq:(m.t.set i u)[k]? with
   |none=>rw[hq]at hv;cases hv
   |some q=>
    rw[hq]at hv;have hv:(if k=i then q else xN q o.at_ o.lk.1)=v:=Option.some.inj hv;obtain⟨b1,b2,b3⟩:=one k q hq;subst hv
    split
    ·exact⟨b1,b2,b3⟩
    ·exact⟨qYD b1,qz1 q b2 _ _,by rw[ZR];exact b3⟩
  ·exact base _ osQ one
theorem qw9 {s:zv} {jobs:List (List (List qR))} (hs:0≤s.start) (hj:∀js∈jobs,∀l∈js,(zb l).2=0∧Quiet l):V6 (JG s jobs):=by
 have so:yX (jq { s with threads:=((jobs.take 4).length:Int) }):=yi hs;have q2:=so.stripes;have q3:=so.threads;have q4:=so.start;have Q:=Md (qVI so) (at_:=5) (w:=14) od ⟨by decide,by decide⟩;unfold JG;generalize jq { s with threads:=((jobs.take 4).length:Int) }=S at*;refine⟨so,⟨Q.wd,by rw[Q.n];exact⟨q4.1,by omega⟩,λz hz=>?_⟩,?_,Q.w,?_,?_,λi t ht=>?_,Int.le_refl _,?_⟩
 ·rw[Q.s]at hz;rw[(List.mem_replicate.1 hz).2];exact⟨by decide,by decide⟩
 ·show((((List.range S.threads.toNat).map _).length:Nat):Int)=S.threads;rw[List.length_map,List.length_range];omega
 ·rw[Q.l,List.length_replicate];show((S.stripes.toNat:Nat):Int)=S.stripes;omega
 ·rw[Q.s,List.length_replicate];show((S.threads.toNat:Nat):Int)=S.threads;omega
 ·rw[List.getElem?_map]at ht;by_cases hi:i<S.threads.toNat
  ·rw[List.getElem?_range hi]at ht;have ht:=Option.some.inj ht;subst ht;have hjs:∀l∈(((jobs.take 4)[i]?).getD []),(zb l).2=0∧Quiet l:=λl hl=>by
    cases hx:(jobs.take 4)[i]? with
    |none=>rw[hx]at hl;cases hl
    |some js=>rw[hx]at hl;exact hj js (List.mem_of_mem_take (List.mem_of_getElem? hx)) l hl
   refine⟨jQ2 q4.1 hjs,gt _,?_⟩;have:(Xq (i:Int) S (((jobs.take 4)[i]?).getD [])).past=[]:=(xq _).past;rw[this];exact Int.le_refl _
  ·rw[List.getElem?_eq_none (by simp;omega)]at ht;cases ht
 ·have:=Q.cnt;omega
end
section
variable {g h:AH} {L R:List SP}
theorem qGn:∀{l:List Cl} {c:Cl},UnC l→c∈l→zg c.1 l=some c.2:=by
 intro l
 induction l with
 |nil=>intro c _ h;cases h
 |cons d l ih=>
  intro c hu hc;unfold UnC at hu;rw[List.map_cons,List.nodup_cons]at hu;unfold zg;rcases List.mem_cons.1 hc with rfl |hc
  ·rw[iJ rfl]
  ·rw[iQ (λh=>hu.1 (by rw[h];exact List.mem_map.2 ⟨c,hc,rfl⟩))];exact ih hu.2 hc
theorem qW6 {n:Nat} (hn:1≤n) {v:Nat} {M:VM} (H:HS g h (ViewC v M::R)) (O:OkV M) :
  t_w n 219 [.ptr v 0] h λr h'=>HS g h' (qy 164 2 M.K.length r (M.K.flatMap jP)::ViewC v M::R):=by
 refine t_e1 rfl omQ λk hk=>?_;unfold S219;try simp only[iZ]
 obtain⟨fv,ov,q,e,H⟩:=ViewC.E H;have hkl:=O.klen;refine qW (qQ (qX ‹_› .here rfl ?_));refine qm ‹_› e_2<|Gb (ln:=0) (cp:=M.K.length) H rfl omQ omQ λkv h1 H1=>?_;rw[Nat.zero_mul,List.take_zero]at H1;refine qW (qQ (qX ‹_› e_1 rfl ?_));refine qm ‹_› e_3<|jM (λm s h'=>∃(i:Nat) (kv:AV),s=(.int .i64 (i:Int),.int .i64 (M.K.length:Int),ov,kv,.ptr v 0,())∧i≤M.K.length∧m=M.K.length-i∧
  HS g h' (qy 164 2 i kv ((M.K.take i).flatMap jP)::qw v [fv,ov,.ptr q 0,.int .i64 M.need]::qy e 2 M.sz fv ((yo M.sz M.K).flatMap Q3)::
   qy 3 1 M.K.length ov (M.K.map λc=>.int .i64 c.1)::LgC q M.most M.lv::R))
  ?_ (m:=M.K.length) omQ ⟨0,kv,rfl,by omega,by omega,by rw[List.take_zero];exact H1⟩
 rintro m ih s h2 hih ⟨i,kv,rfl,hi,rfl,H⟩;by_cases hlt:i<M.K.length
 ·have hci:M.K[i]? =some M.K[i]:=iW hlt;have hin:=O.ins M.K[i] (List.getElem_mem hlt);have hg:=qGn O.un (List.getElem_mem hlt);have hnext:M.K.take (i+1)=M.K.take i++[M.K[i]]:=List.take_succ_eq_append_getElem hlt;generalize hc:M.K[i]=c at*;obtain⟨p,x⟩:=c;dsimp only at hin hg;obtain⟨p,rfl⟩:∃j:Nat,p=(j:Int):=⟨p.toNat,by omega⟩;refine jT omQ<|qZ (jO (H.sl e_3) (by rw[List.getElem?_map,hci];rfl) ?_);refine qW (qQ (qX ‹_› e_1 rfl ?_));have hf:gT M.K p=(x,true):=by unfold gT;rw[hg]
  refine yn (H.sl e_2) omQ omQ (by rw[Xf Q3 (λ_=>rfl) _ _ _ omQ,QN omQ,hf];rfl)<|qL rfl<|qh H rfl rfl rfl rfl λv5 h5 H5=>?_;refine jf (H5.sel e_1) (H5.sl .here) omQ omQ rfl λv6 h6 H6=>?_;refine qc omQ<|hih (M.K.length-(i+1)) _ _ omQ ⟨i+1,v6,rfl,by omega,rfl,?_⟩;rw[hnext,List.flatMap_append];exact H6.pk [0] 1
 ·obtain rfl:i=M.K.length:=by omega
  refine jD omQ<|qJ (qk ?_);rw[List.take_length]at H
  have H2:HS g h2 (qw v [fv,ov,.ptr q 0,.int .i64 M.need]::qy e 2 M.sz fv ((yo M.sz M.K).flatMap Q3)::qy 3 1 M.K.length ov (M.K.map λc=>.int .i64 c.1)::LgC q M.most M.lv::
   qy 164 2 M.K.length kv (M.K.flatMap jP)::R):=H.pk [1,1,1,1] 0
  exact qj ((ViewC.I H2).pk [1] 0)
end
section
variable {g h:AH} {L R:List SP}
theorem ka {c:CV} {l:List (Nat×Nat)} {t:TypeId} {x:AV} {f:Nat} {a:List AV} {K2:AV→AH→Go.Ae.R} {Q Q':AV→AH→Prop} (hf:UV l t=some f) (w:wp (c (.fn f [] []) (x::a) h) Q') (hk:∀v h',Q' v h'→wp (K2 v h') Q):wp (yR c l (.iface t x) a h K2) Q:=by show wp (Option.rec (motive:=λ_=>Go.Ae.R) none (λf=>zz c (.fn f [] []) (x::a) h K2) (UV l t)) Q;rw[hf];exact qG w hk
structure qQt where
  rv:AV
  bv:AV
  iv:AV
  fv:AV
  ev:AV
  cv:AV
  gv:Int
  vb:Nat
  db:Nat
def xy (x:jG) (q:qQt):List AV:=[.int .i64 x.me,.int .i64 x.set.words,.int .i64 x.set.stripes,.int .i64 x.set.wide,.int .i64 x.set.threads,.int .u64 x.set.start,.int .i64 x.set.spins,.int .i64 x.set.writes,.int .i64 x.set.fuel,
 q.rv,q.bv,.int .i64 q.gv,.ptr q.vb 0,.ptr q.db 0,.int .i64 x.state,q.iv,q.fv,q.ev,q.cv,.bool x.begun,.int .u64 x.begin_,.int .u64 x.stamp,.int .i64 x.fin,.int .i64 x.by_,.int .i64 x.err,.bool x.blocking]
def JobC (vb:Nat) (j:Jw) (rv bv:AV) (gv:Int):SP:=match j with
 | .prog q=>.ex λz:Nat×Int=>.all [.pur (rv=.ptr z.1 0∧bv=.nils∧gv=0),IntC z.1 vb q.l 0 (qO q.l) q.s q.err q.fin q.left z.2]
 | .sweep bs k=>.all [.pur (rv=.nilp∧gv=(k:Int)),qy 3 1 bs.length bv (bs.map (.int .i64))]
def InnC (st:Int) (f:JV) (e:Q5) (c:Option zE) (iv fv ev cv:AV):SP:=match c with
 |some c=>.ex λb:Nat=>.all [.pur (cv=.ptr b 0∧(st=6→iv=.iface 197 (.ptr b 0))),ComC b c]
 |none=>
  if st=3 then .ex λb:Nat=>.all [.pur (cv=.nilp∧fv=.ptr b 0∧iv=.iface 195 (.ptr b 0)),qw b (wA f)]
  else if st=4∨st=5 then .ex λb:Nat=>.all [.pur (cv=.nilp∧ev=.ptr b 0∧iv=.iface 196 (.ptr b 0)),ExtC b e]
  else .pur (cv=.nilp)
abbrev qKI (a:Nat) (x:jG) (q:qQt) (R:List SP):List SP:=qw a (xy x q)::JobC q.vb x.job q.rv q.bv q.gv::ViewC q.vb x.v::RdsC q.db x.r::InnC x.state x.f x.e x.c q.iv q.fv q.ev q.cv::R
def AttC (a:Nat) (x:jG):SP:=.ex λq:qQt=>.all (qKI a x q [])
section
variable {n a:Nat} {x:jG} {q:qQt}
theorem AttC.E (H:HS g h (AttC a x::R)):∃q,HS g h (qKI a x q R):=by obtain⟨q,H⟩:=H.exE;exact⟨q,H.allE⟩
theorem AttC.I (H:HS g h (qKI a x q R)):HS g h (AttC a x::R):=HS.exI q (HS.allI H)
theorem qWP (hn:1≤n) (H:HS g h L) (s:Sel L (qw a (xy x q)) R):t_w n 71 [.ptr a 0] h λr h'=>r=.tup [.int .u64 x.begin_,.bool x.begun]∧h'=h:=by
 refine t_e1 rfl omQ λk hk=>?_;unfold S71;try simp only[iZ]
 refine qW (qQ (qX H s rfl ?_));refine qW (qQ (qX H s rfl ?_))
 skip
 exact qj ⟨rfl,rfl⟩
theorem qV6 (hn:1≤n) (H:HS g h L) (s:Sel L (qw a (xy x q)) R):t_w n 124 [.ptr a 0] h λr h'=>r=.int .u64 x.stamp∧h'=h:=by
 refine t_e1 rfl omQ λk hk=>?_;unfold S124;try simp only[iZ]
 refine qW (qQ (qX H s rfl ?_))
 skip
 exact qj ⟨rfl,rfl⟩
theorem qVM (hn:1≤n) (H:HS g h L) (s:Sel L (qw a (xy x q)) R):t_w n 73 [.ptr a 0] h λr h'=>r=.int .i64 (jS x)∧h'=h:=by
 refine t_e1 rfl omQ λk hk=>?_;unfold S73;try simp only[iZ]
 refine qW (qQ (qX H s rfl ?_));unfold jS;by_cases c:x.state=8
 ·rw[iQ (λh=>h c)];refine q9 c<|qJ (qW (qQ (qX H s rfl ?_)));exact qj ⟨rfl,rfl⟩
 ·rw[iJ c];refine jX c<|qZ<|qj ⟨rfl,rfl⟩
theorem qgO (hn:1≤n) (H:HS g h L) (s:Sel L (qw a (xy x q)) R):t_w n 122 [.ptr a 0] h λr h'=>r=.int .i64 (xp x)∧h'=h:=by
 refine t_e1 rfl omQ λk hk=>?_;unfold S122;try simp only[iZ]
 refine qW (qQ (qX H s rfl ?_));unfold xp;by_cases c:x.state=8
 ·rw[iQ (λh=>h c)];refine q9 c<|qJ (qW (qQ (qX H s rfl ?_)));exact qj ⟨rfl,rfl⟩
 ·rw[iJ c];refine jX c<|qZ<|qj ⟨rfl,rfl⟩
theorem qyn (hn:1≤n) (H:HS g h L) (s:Sel L (qw a (xy x q)) R):t_w n 119 [.ptr a 0] h λr h'=>r=.int .i64 (QP x)∧h'=h:=by
 refine t_e1 rfl omQ λk hk=>?_;unfold S119;try simp only[iZ]
 refine qW (qQ (qX H s rfl ?_));unfold QP;by_cases c:x.state=8
 ·rw[iQ (λh=>h c)];refine q9 c<|qJ (qW (qQ (qX H s rfl ?_)));exact qj ⟨rfl,rfl⟩
 ·rw[iJ c];refine jX c<|qZ<|qj ⟨rfl,rfl⟩
theorem Qe {f e y:Int} (hn:1≤n) (H:HS g h (qw a (xy x q)::R)):t_w n 116 [.ptr a 0,.int .i64 f,.int .i64 e,.int .i64 y] h λ_ h'=>HS g h' (qw a (xy (xd x f e y) q)::R):=by
 refine t_e4 rfl omQ λk hk=>?_;unfold S116;try simp only[iZ]
 refine qW (qQ (qA H .here ⟨rfl,rfl⟩ (by simp[xy]) λh1 H1=>?_));refine qW (qQ (qA H1 .here ⟨rfl,rfl⟩ (by simp[xy]) λh2 H2=>?_));refine qW (qQ (qA H2 .here ⟨rfl,rfl⟩ (by simp[xy]) λh3 H3=>?_));refine qW (qQ (qA H3 .here ⟨rfl,rfl⟩ (by simp[xy]) λh4 H4=>?_));exact qj H4
theorem InnC.nil {st:Int} {f:JV} {e:Q5} {iv fv ev cv:AV} (H:HS g h (InnC st f e none iv fv ev cv::R)):cv=.nilp∧HS g h R:=by
 unfold InnC at H;dsimp only at H
 split at H
 ·obtain⟨b,H⟩:=H.exE;have H:=H.allE;exact⟨H.purE.1.1,H.drop.drop⟩
 ·split at H
  ·obtain⟨b,H⟩:=H.exE;have H:=H.allE;exact⟨H.purE.1.1,H.drop.drop⟩
  ·exact H.purE
theorem InnC.fet {f:JV} {e:Q5} {iv fv ev cv:AV} (H:HS g h (InnC 3 f e none iv fv ev cv::R)):∃b,(cv=.nilp∧fv=.ptr b 0∧iv=.iface 195 (.ptr b 0))∧HS g h (qw b (wA f)::R):=by obtain⟨b,H⟩:=(show HS g h (.ex (λb:Nat=>SP.all [.pur (cv=.nilp∧fv=.ptr b 0∧iv=.iface 195 (.ptr b 0)),qw b (wA f)])::R)from H).exE;exact⟨b,H.allE.purE⟩
end
end
section
variable {g h:AH} {L R:List SP}
section
variable {n a:Nat} {x:jG} {q:qQt}
theorem Zd {K:AV→Go.Ae.R} {Q:AV→AH→Prop} (w:wp (K (.bool false)) Q):wp (pEq .ptr true .nilp .nilp K) Q:=w
theorem ME {K:AV→Go.Ae.R} {Q:AV→AH→Prop} (w:wp (K (.bool true)) Q):wp (pEq .ptr false .nilp .nilp K) Q:=w
theorem JobC.P {vb:Nat} {p:RunS} {rv bv:AV} {gv:Int} (H:HS g h (JobC vb (.prog p) rv bv gv::R)):∃ib nx,(rv=.ptr ib 0∧bv=.nils∧gv=0)∧HS g h (IntC ib vb p.l 0 (qO p.l) p.s p.err p.fin p.left nx::R):=by obtain⟨z,H⟩:=(show HS g h (.ex (λz:Nat×Int=>SP.all [.pur (rv=.ptr z.1 0∧bv=.nils∧gv=0),IntC z.1 vb p.l 0 (qO p.l) p.s p.err p.fin p.left z.2])::R)from H).exE;exact⟨z.1,z.2,H.allE.purE⟩
theorem JobC.PI {vb ib:Nat} {p:RunS} {nx:Int} {rv bv:AV} {gv:Int} (e:rv=.ptr ib 0∧bv=.nils∧gv=0) (H:HS g h (IntC ib vb p.l 0 (qO p.l) p.s p.err p.fin p.left nx::R)):HS g h (JobC vb (.prog p) rv bv gv::R) :=
 show HS g h (.ex (λz:Nat×Int=>SP.all [.pur (rv=.ptr z.1 0∧bv=.nils∧gv=0),IntC z.1 vb p.l 0 (qO p.l) p.s p.err p.fin p.left z.2])::R)from
  HS.exI (ib,nx) (HS.allI (HS.purI e H))
theorem JobC.S {vb k:Nat} {bs:List Int} {rv bv:AV} {gv:Int} (H:HS g h (JobC vb (.sweep bs k) rv bv gv::R)):(rv=.nilp∧gv=(k:Int))∧HS g h (qy 3 1 bs.length bv (bs.map (.int .i64))::R) :=
 ((show HS g h (SP.all [.pur (rv=.nilp∧gv=(k:Int)),qy 3 1 bs.length bv (bs.map (.int .i64))]::R)from H).allE).purE
theorem JobC.SI {vb k:Nat} {bs:List Int} {rv bv:AV} {gv:Int} (e:rv=.nilp∧gv=(k:Int)) (H:HS g h (qy 3 1 bs.length bv (bs.map (.int .i64))::R)):HS g h (JobC vb (.sweep bs k) rv bv gv::R) :=
 show HS g h (SP.all [.pur (rv=.nilp∧gv=(k:Int)),qy 3 1 bs.length bv (bs.map (.int .i64))]::R)from HS.allI (HS.purI e H)
theorem qVF {l:List Int} {k:Nat} (h:k<l.length):(l.map (.int .i64))[k]? =some (AV.int .i64 l[k]):=by rw[List.getElem?_map,iW h];rfl
theorem jQE (hn:16≤n) (hg:jI x.v) (hf:frS x.v.lv<9000) (hj:JobOk True x.v x.job) (H:HS g h (qw a (xy x q)::JobC q.vb x.job q.rv q.bv q.gv::ViewC q.vb x.v::R)) :
  t_w n 168 [.ptr a 0] h λr h'=>r=.tup [.int .i64 (y8 x).1.1,.int .i64 (y8 x).1.2]∧
   ∃gv,HS g h' (qw a (xy (y8 x).2 { q with gv:=gv })::JobC q.vb (y8 x).2.job q.rv q.bv gv::ViewC q.vb (y8 x).2.v::R):=by
 refine t_e1 rfl omQ λk hk=>?_;unfold S168;try simp only[iZ]
 unfold y8;cases hx:x.job with
 |prog p=>
  rw[hx]at H hj;obtain⟨F,Q,gb,hr,hl⟩:=hj;obtain⟨G,h0,h1,h2⟩:=hr trivial;obtain⟨ib,nx,⟨e1,e2,e3⟩,H1⟩:=JobC.P (H.sel e_1);refine qW (qQ (qX H .here (x:=.ptr ib 0) (by rw[← e1];rfl) ?_));refine UM (qZ (qV ?_))
  try dsimp only
  refine qW (qQ (qX H .here (x:=.ptr ib 0) (by rw[← e1];rfl) ?_));rw[h0,h1]at H1;refine qG (qVd omQ F Q G h2 omQ (H1.pk [0,1,0] 0)) ?_;rintro _ h3 ⟨rfl,nx',H3⟩;refine qW (qQ (qX H3 e_2 (x:=.ptr ib 0) (by rw[← e1];rfl) ?_));refine qG (qK3 omQ H3) ?_;rintro _ _ ⟨rfl,rfl⟩;refine qd H .here (by rw[← e1];rfl) H3 e_2 (by rw[← e1];rfl) (HS.lt H .here)<|qj ⟨rfl,0,?_⟩;have H4:=(JobC.PI (p:=⟨p.l,(jL p.l (qO p.l) p.left p.s x.v).s,if(jL p.l (qO p.l) p.left p.s x.v).kind=1 then 0 else(jL p.l (qO p.l) p.left p.s x.v).kind,(jL p.l (qO p.l) p.left p.s x.v).err,(jL p.l (qO p.l) p.left p.s x.v).left⟩) ⟨e1,e2,rfl⟩ H3).sub (.cons e_2 (.cons .here (.cons .here .refl)));have eg:xy x q=xy x { q with gv:=0 }:=by unfold xy;rw[e3]
  rw[eg]at H4;exact H4
 |sweep bs k=>
  rw[hx]at H hj;obtain⟨⟨e1,e2⟩,H1⟩:=JobC.S (H.sel e_1);refine qW (qQ (qX H .here (x:=.nilp) (by rw[← e1];rfl) ?_));refine Zd (qJ ?_);have hkl:=hj.1;have hbl:=hj.2;dsimp only;generalize hG:jR x.v (bs.drop k) k=G
  refine jM (λm s h'=>s=(.ptr a 0,())∧∃(i:Nat) (V:VM),i≤bs.length∧m=bs.length-i∧jI V∧jR V (bs.drop i) i=G∧
    HS g h' (qw a (xy x { q with gv:=(i:Int) })::qy 3 1 bs.length q.bv (bs.map (.int .i64))::ViewC q.vb V::R))
   ?_ omQ ⟨rfl,k,x.v,hkl,rfl,hg,hG,by
    have:q={ q with gv:=(k:Int) }:=by rw[← e2]
    rw[← this]
    exact H1.pk [1,0] 0⟩
  rintro m ih s h1 hih ⟨rfl,i,V,hi,rfl,hV,hG,H⟩;refine qW (qQ (qX H .here rfl ?_));refine qW (qQ (qX H .here rfl ?_));refine qm H e_1 ?_;by_cases hlt:i<bs.length
  ·refine jT (by show(i:Int)<_;omega) (qZ ?_);refine qW (qQ (qX H .here rfl ?_));refine qW (qQ (qX H .here rfl ?_));refine qW (qQ (qX H .here rfl ?_));refine jO (H.sl e_1) (qVF hlt)<|qG (Zt omQ (H.sel e_2) hV.ok) ?_;rintro _ h2 ⟨rfl,H2⟩;rw[List.drop_eq_getElem_cons hlt]at hG;by_cases h0:(zj V bs[i]).1=0
   ·refine qg h0 (qZ ?_);refine qW (qQ (qX H2 e_1 (x:=.int .i64 (i:Int)) rfl ?_));refine qc omQ<|qW (qQ ?_);refine qA H2 e_1 ⟨rfl,rfl⟩ (by simp[xy]) λh3 H3=>?_;refine hih (bs.length-(i+1)) _ _ omQ ⟨rfl,i+1,(zj V bs[i]).2,by omega,rfl,hV.give.1,?_,H3.pk [0,1,0] 0⟩;rw[show jR V (bs[i]::bs.drop (i+1)) i=jR (zj V bs[i]).2 (bs.drop (i+1)) (i+1)from iJ h0]at hG;exact hG
   ·rw[show jR V (bs[i]::bs.drop (i+1)) i=((i,(zj V bs[i]).1),(zj V bs[i]).2)from iQ h0]at hG;subst hG;refine qK h0 (qJ ?_);have H3:=(JobC.SI (vb:=q.vb) (k:=i) ⟨e1,rfl⟩ (H2.sub (.cons e_2 (.cons e_1 (.cons .here .refl))))).sub (.cons e_1 (.cons .here (.cons .here .refl)));by_cases h11:(zj V bs[i]).1=11
    ·refine qg h11 (qZ (qk (qj ⟨?_,(i:Int),?_⟩)))
     ·rw[iJ h11];rfl
     ·exact H3
    ·refine qK h11 (qJ (qk (qj ⟨?_,(i:Int),?_⟩)))
     ·rw[iQ h11,iQ h0];rfl
     ·exact H3
  ·obtain rfl:i=bs.length:=by omega
   rw[List.drop_length,show jR V [] bs.length=((bs.length,0),V)from rfl]at hG;subst hG;refine jD (by simp) (qJ (qk (qj ⟨rfl,(bs.length:Int),?_⟩)));have H3:=(JobC.SI (vb:=q.vb) (k:=bs.length) ⟨e1,rfl⟩ (H.sub (.cons e_1 (.cons .here (.cons .here .refl))))).sub (.cons e_1 (.cons .here (.cons .here .refl)));exact H3
theorem Ke {st:Int} {t b:Nat} (hn:1≤n) (H:HS g h (qw a (xy x q)::R)):t_w n 173 [.ptr a 0,.int .i64 st,.iface t (.ptr b 0)] h λ_ h'=>HS g h' (qw a (xy { x with state:=st } { q with iv:=.iface t (.ptr b 0) })::R):=by
 refine t_e3 rfl omQ λk hk=>?_;unfold S173;try simp only[iZ]
 refine qW (qQ (qA H .here ⟨rfl,rfl⟩ (by simp[xy]) λh1 H1=>?_));refine qW (qQ (qA H1 .here ⟨rfl,rfl⟩ (by simp[xy]) λh2 H2=>?_));exact qj H2
theorem qKn {p:Int} (hn:3≤n) (hp:p<4611686018427387904) (H:HS g h (qw a (xy x q)::R)):t_w n 169 [.ptr a 0,.int .i64 p] h λ_ h'=>
  ∃b,HS g h' (qw b (wA (Jc x p).f)::qw a (xy (Jc x p) { q with iv:=.iface 195 (.ptr b 0),fv:=.ptr b 0 })::R):=by
 refine t_e2 rfl omQ λk hk=>?_;unfold S169;try simp only[iZ]
 refine qV ?_
 try dsimp only
 refine qW (qQ (qX H .here rfl ?_));refine qW (qQ (qn (qn (qX H .here rfl ?_))));refine qW (qQ (qn (qn (qX H .here rfl ?_))));refine qG (qqR omQ hp) ?_;rintro _ _ ⟨rfl,rfl⟩;refine qW (qQ (qn (qX H .here rfl ?_)));refine qW (qQ (qX H .here rfl ?_));refine qG (qgN omQ H) ?_;rintro _ h1 ⟨b,rfl,H1⟩;refine qW (qQ ?_);refine qA H1 e_1 ⟨rfl,rfl⟩ (by simp[xy]) λh2 H2=>?_;refine qd H .here rfl H .here rfl (HS.lt H .here)<|qd H .here rfl H .here rfl (HS.lt H .here)<|qd H .here rfl H .here rfl (HS.lt H .here) ?_;have H3:HS g h2 (qw a (xy { x with f:=Qg x.me p (ofM p x.set.stripes x.set.wide) x.set.spins x.stamp } { q with fv:=.ptr b 0 })::qw b (wA (Qg x.me p (ofM p x.set.stripes x.set.wide) x.set.spins x.stamp))::R):=H2;refine qW (qQ (qX H3 .here rfl ?_));refine qG (Ke omQ H3) λ_ h4 H4=>qj ⟨b,H4.pk [1,0] 0⟩
theorem NQ {st:Int} (hn:4≤n) (hr:x.r.length≤16) (H:HS g h (qw a (xy x q)::RdsC q.db x.r::R)):t_w n 171 [.ptr a 0,.int .i64 st] h λ_ h'=>
  ∃b,HS g h' (ExtC b (y7 x st).e::qw a (xy (y7 x st) { q with iv:=.iface 196 (.ptr b 0),ev:=.ptr b 0 })::RdsC q.db x.r::R):=by
 refine t_e2 rfl omQ λk hk=>?_;unfold S171;try simp only[iZ]
 refine qV ?_
 try dsimp only
 refine qW (qQ (qX H .here rfl ?_));refine qW (qQ (qn (qX H .here rfl ?_)));refine qW (qQ (qX H .here rfl ?_));refine qG (ZI omQ omQ (H.sel e_1)) λv h1 H1=>?_;refine qG (qk8 (sp:=x.set.spins) omQ omQ H1) ?_;rintro _ h2 ⟨b,rfl,H2⟩;refine qW (qQ ?_);refine qA H2 e_2 ⟨rfl,rfl⟩ (by simp[xy]) λh3 H3=>?_;refine qd H .here rfl H1 e_2 rfl (HS.lt H .here)<|qd H .here rfl H1 e_2 rfl (HS.lt H .here) ?_;have H4:HS g h3 (qw a (xy { x with e:=Vu x.me x.set.spins x.r } { q with ev:=.ptr b 0 })::ExtC b (Vu x.me x.set.spins x.r)::RdsC q.db x.r::R):=H3;refine qW (qQ (qX H4 .here rfl ?_));refine qG (Ke omQ H4) λ_ h5 H5=>qj ⟨b,H5.pk [1,0] 0⟩
end
end
section
variable {g h:AH} {L R:List SP}
section
variable {st:Int} {f:JV} {e:Q5} {c:Option zE} {iv fv ev cv:AV} {b:Nat}
theorem InnC.fetI (hst:st=3) (hc:c=none) (q:cv=.nilp∧fv=.ptr b 0∧iv=.iface 195 (.ptr b 0)) (H:HS g h (qw b (wA f)::R)):HS g h (InnC st f e c iv fv ev cv::R):=by subst hst;subst hc;exact HS.exI b (HS.allI (HS.purI q H))
theorem InnC.fetE (hst:st=3) (hc:c=none) (H:HS g h (InnC st f e c iv fv ev cv::R)):∃b,(cv=.nilp∧fv=.ptr b 0∧iv=.iface 195 (.ptr b 0))∧HS g h (qw b (wA f)::R):=by subst hst;subst hc;exact InnC.fet H
theorem InnC.extI (hst:st=4∨st=5) (hc:c=none) (q:cv=.nilp∧ev=.ptr b 0∧iv=.iface 196 (.ptr b 0)) (H:HS g h (ExtC b e::R)):HS g h (InnC st f e c iv fv ev cv::R):=by subst hc;unfold InnC;rw[iQ omQ,iJ hst];exact HS.exI b (HS.allI (HS.purI q H))
theorem InnC.extE (hst:st=4∨st=5) (hc:c=none) (H:HS g h (InnC st f e c iv fv ev cv::R)):∃b,(cv=.nilp∧ev=.ptr b 0∧iv=.iface 196 (.ptr b 0))∧HS g h (ExtC b e::R):=by subst hc;unfold InnC at H;dsimp only at H;rw[iQ omQ,iJ hst]at H;obtain⟨b,H⟩:=H.exE;exact⟨b,H.allE.purE⟩
theorem InnC.noI (hst:st≠3∧st≠4∧st≠5) (hc:c=none) (q:cv=.nilp) (H:HS g h R):HS g h (InnC st f e c iv fv ev cv::R):=by subst hc;unfold InnC;rw[iQ omQ,iQ omQ];exact HS.purI q H
theorem InnC.noE (hc:c=none) (H:HS g h (InnC st f e c iv fv ev cv::R)):cv=.nilp∧HS g h R:=by subst hc;exact InnC.nil H
theorem InnC.comI {d:zE} (hc:c=some d) (q:cv=.ptr b 0∧(st=6→iv=.iface 197 (.ptr b 0))) (H:HS g h (ComC b d::R)):HS g h (InnC st f e c iv fv ev cv::R):=by subst hc;exact HS.exI b (HS.allI (HS.purI q H))
theorem InnC.comE {d:zE} (hc:c=some d) (H:HS g h (InnC st f e c iv fv ev cv::R)):∃b,(cv=.ptr b 0∧(st=6→iv=.iface 197 (.ptr b 0)))∧HS g h (ComC b d::R):=by subst hc;obtain⟨b,H⟩:=(show HS g h (.ex (λb':Nat=>SP.all [.pur (cv=.ptr b' 0∧(st=6→iv=.iface 197 (.ptr b' 0))),ComC b' d])::R)from H).exE;exact⟨b,H.allE.purE⟩
end
section
variable {n a:Nat} {x:jG} {q:qQt}
theorem qJD (hn:18≤n) (B:kU x) (hj:JobOk True x.v x.job) (hc:x.c=none) (hcv:q.cv=.nilp) (H:HS g h (qw a (xy x q)::JobC q.vb x.job q.rv q.bv q.gv::ViewC q.vb x.v::RdsC q.db x.r::R)) :
  t_w n 117 [.ptr a 0] h λ_ h'=>HS g h' (AttC a (yW x)::R):=by
 refine t_e1 rfl omQ λk hk=>?_;unfold S117;try simp only[iZ]
 have D:=Ud B.good B.fr hj;unfold yW;refine qG (jQE omQ B.good B.fr hj H) ?_;rintro _ h1 ⟨rfl,gv,H1⟩;generalize(y8 x).1.1=kd at*;generalize(y8 x).1.2=er at*;generalize(y8 x).2=y at*;obtain⟨e1,e2,e3,e4,e5⟩:=D.same;have hyc:y.c=none:=by rw[e5,hc]
 have hyr:y.r.length≤16:=by rw[e3];exact B.r
 rw[← e3]at H1;generalize hA:gY y kd er=A;refine qC rfl (qC rfl ?_);refine ji [] (λ_ h'=>HS g h' (AttC a A::R)) (λj hj=>?_) λ_ h' H'=>qk (qj H');unfold gY at hA;have hhi:=D.good.ok.hi;by_cases c1:kd=1
 ·rw[iJ c1]at hA;subst hA;refine qg c1 (qZ ?_);have hnd:=D.need c1;have hk:=D.kept.1;refine qW (qQ (qX H1 .here rfl ?_));refine qG (Mk omQ (H1.sel e_2)) ?_;rintro _ _ ⟨rfl,rfl⟩;refine qG (qKn omQ omQ H1) ?_;rintro _ h2 ⟨b,H2⟩;refine hj _ _ (AttC.I (q:={ q with gv:=gv,iv:=.iface 195 (.ptr b 0),fv:=.ptr b 0 }) ?_);have H3:=InnC.fetI (st:=3) (e:=y.e) (ev:=q.ev) rfl hyc ⟨hcv,rfl,rfl⟩ H2;exact H3.pk [1,1,1,1,0] 0
 rw[iQ c1]at hA;refine qK c1 (qJ ?_);by_cases c3:kd=3
 ·rw[iJ c3]at hA;subst hA;refine qg c3 (qZ ?_);refine qW (qQ ?_);refine qA H1 .here ⟨rfl,rfl⟩ (by simp[xy]) λh2 H2=>?_;refine qG (NQ (x:={ y with blocking:=true }) omQ hyr (H2.pk [0,2] 0)) ?_;rintro _ h3 ⟨b,H3⟩;refine hj _ _ (AttC.I (q:={ q with gv:=gv,iv:=.iface 196 (.ptr b 0),ev:=.ptr b 0 }) ?_);have H4:=InnC.extI (st:=5) (f:=y.f) (fv:=q.fv) (c:=y.c) (cv:=q.cv) (.inr rfl) hyc ⟨hcv,rfl,rfl⟩ H3;exact H4.pk [1,2,2,1,0] 0
 rw[iQ c3]at hA;refine qK c3 (qJ ?_);have gone:∀{fin err:Int} {h2:AH},HS g h2 (qw a (xy (xd y fin err (-1)) { q with gv:=gv })::JobC q.vb y.job q.rv q.bv gv::ViewC q.vb y.v::RdsC q.db y.r::R)→HS g h2 (AttC a (xd y fin err (-1))::R):=λ{fin err h2} H2=>by
  refine AttC.I (q:={ q with gv:=gv }) ?_;have H3:=InnC.noI (st:=7) (f:=y.f) (e:=y.e) (c:=y.c) (iv:=q.iv) (fv:=q.fv) (ev:=q.ev) (cv:=q.cv) od hyc hcv H2;exact H3.pk [1,1,1,1,0] 0
 by_cases c4:kd=4
 ·rw[iJ c4]at hA;subst hA;refine qg c4 (qZ ?_);refine qG (Qe omQ H1) λ_ h2 H2=>?_;exact hj _ _ (gone H2)
 rw[iQ c4]at hA;refine qK c4 (qJ ?_);refine qW (qQ (qX H1 .here rfl ?_));refine qG (Jx omQ (H1.sel e_2) D.good.ok) λv h2 H2=>?_;have hmo:=U9 D.good.ok;refine qm H2 .here ?_;by_cases c5:jZ y.v.lv=[]
 ·rw[iJ c5]at hA;subst hA;refine qg (by rw[c5];rfl) (qZ ?_);refine qG (Qe omQ (H2.pk [2,2,1,1] 1)) λ_ h3 H3=>?_;exact qj (gone H3)
 ·rw[iQ c5]at hA;have hml:0<(jZ y.v.lv).length:=List.length_pos_iff.2 c5;refine qK omQ (qJ ?_);refine qV ?_
  try dsimp only
  refine qW (qQ (qX H2 e_2 rfl ?_));refine qW (qQ (qn (qX H2 e_2 rfl ?_)));refine qW (qQ (qX H2 e_2 rfl ?_));refine qW (qQ (qX H2 e_2 rfl ?_));refine qG (ZI omQ omQ (H2.sel e_4)) λv2 h3 H3=>?_;refine qW (qQ (qn (qn (qX H3 e_4 rfl ?_))));refine qW (qQ (qn (qn (qX H3 e_4 rfl ?_))));refine qG (qvH (sp:=y.set.spins) omQ omQ hml omQ (λc h=>by have:=hmo.2 c h;omega) (H3.pk [0,1] 0)) ?_;rintro _ h4 ⟨b,rfl,H4⟩;refine qW (qQ ?_);refine qA H4 e_3 ⟨rfl,rfl⟩ (by simp[xy]) λh5 H5=>?_;refine qd H2 e_2 rfl H3 e_4 rfl (HS.lt H2 e_2)<|qd H2 e_2 rfl H3 e_4 rfl (HS.lt H2 e_2)<|qd H2 e_2 rfl H3 e_4 rfl (HS.lt H2 e_2)<|qd H2 e_2 rfl H3 e_4 rfl (HS.lt H2 e_2)<|qd H2 e_2 rfl H3 e_4 rfl (HS.lt H2 e_2) ?_;have H6:HS g h5 (qw a (xy { y with c:=some (XL y.me y.set.spins y.stamp y.r (jZ y.v.lv) y.set.stripes y.set.wide) } { q with gv:=gv,cv:=.ptr b 0 })::ComC b (XL y.me y.set.spins y.stamp y.r (jZ y.v.lv) y.set.stripes y.set.wide)::RdsC q.db y.r::ViewC q.vb y.v::JobC q.vb y.job q.rv q.bv gv::R):=H5;refine qW (qQ (qX H6 .here rfl ?_));refine qG (Ke omQ H6) λ_ h6 H7=>?_;subst hA;refine hj _ _ (AttC.I (q:={ q with gv:=gv,cv:=.ptr b 0,iv:=.iface 197 (.ptr b 0) }) ?_);have H8:=InnC.comI (st:=6) (f:=y.f) (e:=y.e) (fv:=q.fv) (ev:=q.ev) rfl ⟨rfl,λ_=>rfl⟩ (H7.sel e_1);exact H8.pk [1,3,2,1,0] 0
theorem qWo (r:List xP) (x:xP):(kE r x).1=0∨(kE r x).2=r:=by
 unfold kE
 split
 ·exact .inr rfl
 ·split
  ·split<;>exact .inr rfl
  ·split
   ·exact .inr rfl
   ·exact .inl rfl
theorem Z2 (hn:20≤n) (B:kU x) (hj:JobOk True x.v x.job) (hw:0≤x.f.word∧x.f.word<18446744073709551616) (hc:x.c=none) {b:Nat} (hq:q.cv=.nilp∧q.fv=.ptr b 0) (H:HS g h (qw a (xy x q)::JobC q.vb x.job q.rv q.bv q.gv::ViewC q.vb x.v::RdsC q.db x.r::qw b (wA x.f)::R)) :
  t_w n 228 [.ptr a 0] h λ_ h'=>HS g h' (AttC a (yL x)::R):=by
 refine t_e1 rfl omQ λk hk=>?_;unfold S228;try simp only[iZ]
 generalize hA:yL x=A;unfold yL at hA;refine qW (qQ (qX H .here (x:=.ptr b 0) (by rw[← hq.2];rfl) ?_));refine qG (UE omQ H (s:=e_4)) ?_;rintro _ _ ⟨rfl,rfl⟩;by_cases c6:x.f.p.fin=6
 ·rw[iJ c6]at hA;subst hA;refine qg c6 (qZ ?_);refine qG (NQ omQ B.r (H.pk [0,2] 0)) ?_;rintro _ h3 ⟨b',H3⟩;refine qj (AttC.I (q:={ q with iv:=.iface 196 (.ptr b' 0),ev:=.ptr b' 0 }) ?_);have H4:=InnC.extI (st:=4) (f:=x.f) (fv:=q.fv) (c:=x.c) (cv:=q.cv) (.inl rfl) hc ⟨hq.1,rfl,rfl⟩ H3;exact H4.pk [1,2,2,1,0] 1
 rw[iQ c6]at hA;refine qK c6 (qJ ?_);refine qV ?_
 try dsimp only
 refine qW (qQ (qX H .here rfl ?_));refine qW (qQ (qX H .here (x:=.ptr b 0) (by rw[← hq.2];rfl) ?_));refine qG (qq1 omQ H e_4) ?_;rintro _ h1 ⟨rfl,H1⟩;refine qG (qgu omQ B.r (H1.sel e_3)) ?_;rintro _ h2 ⟨rfl,H2⟩;refine qd H .here rfl H1 .here rfl (HS.lt H .here)<|ji [] (λ_ h'=>HS g h' (AttC a A::R)) (λj hj'=>?_) λ_ h' H'=>qk (qj H');have hx:=Kd hw;by_cases c0:(kE x.r (vY x.f)).1=0
 ·rw[iJ c0]at hA;subst hA;refine qg c0 (qZ ?_);refine qV ?_
  try dsimp only
  refine qW (qQ (qX H2 e_1 rfl ?_));refine qW (qQ (qX H2 e_1 rfl ?_));refine qG (Mk omQ (H2.sel e_3)) ?_;rintro _ _ ⟨rfl,rfl⟩;refine qW (qQ (qX H2 e_1 (x:=.ptr b 0) (by rw[← hq.2];rfl) ?_));refine qG (qj2 omQ H2 e_4) ?_;rintro _ _ ⟨rfl,rfl⟩;refine qG (qJR omQ (H2.sel e_3) B.good.ok) ?_;rintro _ h3 ⟨rfl,H3⟩;refine qd H2 e_1 (by rw[← hq.2];rfl) H2 e_1 (by rw[← hq.2];rfl) (HS.lt H2 e_1)<|qd H2 e_1 rfl H2 e_1 rfl (HS.lt H2 e_1)<|qd H2 e_1 rfl H2 e_1 rfl (HS.lt H2 e_1)<|qG (qJD (x:={ x with r:=(kE x.r (vY x.f)).2,v:=(xW x.v x.v.need (yP x.f)).2 }) omQ ?_ (hj.know hx) hc hq.1 (H3.pk [2,2,0,0] 1)) λ_ h4 H4=>hj' _ _ H4;exact⟨B.set,X7 B.good hx,by rw[kX.2];exact B.sz,by rw[kX.1];exact B.fr,KQ B.r,(hj.know hx).same λh=>h.elim,B.c⟩
 rw[iQ c0]at hA;refine qK c0 (qJ ?_);have hsame:(kE x.r (vY x.f)).2=x.r:=(qWo x.r (vY x.f)).resolve_left c0;rw[hsame]at H2;have gone:∀{fin err:Int} {h2:AH},HS g h2 (qw a (xy (xd x fin err (-1)) q)::RdsC q.db x.r::JobC q.vb x.job q.rv q.bv q.gv::ViewC q.vb x.v::qw b (wA x.f)::R)→HS g h2 (AttC a (xd x fin err (-1))::R):=λ{fin err h2} H2=>by
  refine AttC.I (q:=q) ?_;have H3:=InnC.noI (st:=7) (f:=x.f) (e:=x.e) (c:=x.c) (iv:=q.iv) (fv:=q.fv) (ev:=q.ev) (cv:=q.cv) od hc hq.1 H2;exact H3.pk [1,2,2,1,0] 1
 by_cases c14:(kE x.r (vY x.f)).1=14
 ·rw[iJ c14]at hA;subst hA;refine qg c14 (qZ ?_);refine qG (Qe omQ (H2.sel e_1)) λ_ h3 H3=>?_;exact hj' _ _ (gone H3)
 ·rw[iQ c14]at hA;subst hA;refine qK c14 (qJ ?_);refine qG (Qe omQ (H2.sel e_1)) λ_ h3 H3=>?_;exact hj' _ _ (gone H3)
theorem XS (hn:4≤n) (O:∀c,x.c=some c→xg c) (H:HS g h (AttC a x::R)):t_w n 98 [.ptr a 0] h λr h'=>r=.bool (zh x)∧HS g h' (AttC a x::R):=by
 refine t_e1 rfl omQ λk hk=>?_;unfold S98;try simp only[iZ]
 obtain⟨q,H1⟩:=AttC.E H;refine qW (qQ (qX H1 .here rfl ?_));unfold zh;by_cases c8:x.state=8
 ·rw[iV (λh=>h c8),Bool.false_and];refine q9 c8<|qV<|qT<|qE (qV ?_);refine qT<|qV<|zK<|qV<|qT<|qE ?_
  exact qj ⟨rfl,H⟩
 rw[iG (show x.state≠8 from c8),Bool.true_and];refine jX c8 ?_;cases hc:x.c with
 |none=>
  obtain⟨e,H2⟩:=InnC.noE hc (H1.sel e_4);refine qV<|qa<|qW (qQ (qX ‹_› .here rfl ?_))
  rw[e];refine Zd (qD (qV ?_));refine qT<|qV<|zK<|qV<|qT<|qE ?_
  exact qj ⟨rfl,H⟩
 |some c=>
  obtain⟨b,e,H2⟩:=InnC.comE hc (H1.sel e_4);refine qV<|qa<|qW (qQ (qX ‹_› e_1 rfl ?_))
  rw[e.1];refine UM (qD (qV ?_));(try dsimp only);refine qa<|qW (qQ (qX ‹_› e_1 rfl ?_))
  rw[e.1];refine qG (qQd omQ H2) ?_;rintro _ _ ⟨rfl,rfl⟩;cases hw:wo c with
  |true=>
   refine qV<|qs<|qV<|qa<|qD (qD ?_)
   exact qj ⟨rfl,H⟩
  |false=>
   refine qV<|qe<|qW (qQ (qX ‹_› e_1 rfl ?_))
   rw[e.1];refine qG (UI omQ H2) ?_;rintro _ _ ⟨rfl,rfl⟩;by_cases c2:c.p.fin=2
   ·refine qg c2 ?_;rw[iG c2];refine qV<|qa<|qE (qD ?_)
    exact qj ⟨rfl,H⟩
   ·refine qK c2 ?_;rw[iV c2];refine qV<|qa<|qE (qD ?_)
    exact qj ⟨rfl,H⟩
theorem qYd (hn:22≤n) (O:zm x) (h3:3≤x.state) (h6:x.state≤6) (H:HS g h (AttC a x::R)):t_w n 174 [.ptr a 0] h λ_ h'=>HS g h' (AttC a (yA x)::R):=by
 refine t_e1 rfl omQ λk hk=>?_;unfold S174;try simp only[iZ]
 obtain⟨q,H1⟩:=AttC.E H;generalize hA:yA x=A;unfold yA at hA;refine qW (qQ (qX H1 .here rfl ?_));refine ji [] (λ_ h'=>HS g h' (AttC a A::R)) (λj hj=>?_) λ_ h' H'=>qk (qj H');by_cases c3:x.state=3
 ·rw[iJ c3]at hA;subst hA;refine qg c3 (qZ ?_);obtain⟨b,e,H2⟩:=InnC.fetE c3 (O.c0 omQ) (H1.sel e_4);refine qG (Z2 omQ O.b (O.job.same λ_=>by omega) (O.f c3).2 (O.c0 omQ) ⟨e.1,e.2.1⟩ (H2.pk [1,1,1,1,0] 0)) λ_ h3 H3=>hj _ _ H3
 rw[iQ c3]at hA;refine qK c3 (qJ ?_);by_cases c4:x.state=4
 ·rw[iJ c4]at hA;subst hA;refine qg c4 (qZ ?_);have hnd:=O.need omQ omQ;have hhi:=O.good.ok.hi;obtain⟨b,e,H2⟩:=InnC.extE (.inl c4) (O.c0 omQ) (H1.sel e_4);obtain⟨sv,H3⟩:=ExtC.E H2;refine qW (qQ (qX H1 .here (x:=.ptr b 0) (by rw[← e.2.1];rfl) ?_));refine qG (Mn omQ H3 .here) ?_;rintro _ _ ⟨rfl,rfl⟩;refine qW (qQ ?_);refine qA H2 e_1 ⟨rfl,rfl⟩ (by simp[xy]) λh4 H4=>?_;have H4:HS g h4 (qw a (xy { x with stamp:=wZ x.e } q)::ExtC b x.e::JobC q.vb x.job q.rv q.bv q.gv::ViewC q.vb x.v::RdsC q.db x.r::R):=H4;refine qW (qQ (qX H4 .here rfl ?_));refine qG (Mk omQ (H4.sel e_3)) ?_;rintro _ _ ⟨rfl,rfl⟩;refine qG (qKn omQ omQ H4) ?_;rintro _ h5 ⟨b',H5⟩;refine hj _ _ (AttC.I (q:={ q with iv:=.iface 195 (.ptr b' 0),fv:=.ptr b' 0 }) ?_);have H6:=InnC.fetI (st:=3) (e:=x.e) (ev:=q.ev) (c:=x.c) (cv:=q.cv) rfl (O.c0 omQ) ⟨e.1,rfl,rfl⟩ H5;exact H6.pk [1,2,2,2,0] 1
 rw[iQ c4]at hA;refine qK c4 (qJ ?_);by_cases c5:x.state=5
 ·rw[iJ c5]at hA;subst hA;refine qg c5 (qZ ?_);obtain⟨b,e,H2⟩:=InnC.extE (.inr c5) (O.c0 omQ) (H1.sel e_4);obtain⟨sv,H3⟩:=ExtC.E H2;refine qW (qQ (qX H1 .here (x:=.ptr b 0) (by rw[← e.2.1];rfl) ?_));refine qG (Mn omQ H3 .here) ?_;rintro _ _ ⟨rfl,rfl⟩;refine qW (qQ ?_);refine qA H2 e_1 ⟨rfl,rfl⟩ (by simp[xy]) λh4 H4=>?_;have H4:HS g h4 (qw a (xy { x with stamp:=wZ x.e } q)::ExtC b x.e::JobC q.vb x.job q.rv q.bv q.gv::ViewC q.vb x.v::RdsC q.db x.r::R):=H4;refine qG (Qe omQ H4) λ_ h5 H5=>?_;refine hj _ _ (AttC.I (q:=q) ?_);have H6:=InnC.noI (st:=7) (f:=x.f) (e:=x.e) (c:=x.c) (iv:=q.iv) (fv:=q.fv) (ev:=q.ev) (cv:=q.cv) od (O.c0 omQ) e.1 H5;exact H6.pk [1,2,2,2,0] 1
 rw[iQ c5]at hA;refine qK c5 (qJ ?_);have c6:x.state=6:=by omega
 refine qg c6 (qZ ?_)
 split at hA
 ·rename_i c hc;subst hA;obtain⟨b,e,H2⟩:=InnC.comE hc (H1.sel e_4);refine qV ?_
  try dsimp only
  refine qW (qQ (qX H1 .here (x:=.ptr b 0) (by rw[← e.1];rfl) ?_));refine qG (UI omQ H2) ?_;rintro _ _ ⟨rfl,rfl⟩;refine qW (qQ (qX H1 .here (x:=.ptr b 0) (by rw[← e.1];rfl) ?_));refine qG (qkt omQ H2) ?_;rintro _ _ ⟨rfl,rfl⟩;refine qG (Qe omQ (H2.sel e_1)) λ_ h5 H5=>?_;refine qd H1 .here (by rw[← e.1];rfl) H1 .here (by rw[← e.1];rfl) (HS.lt H1 .here)<|hj _ _ (AttC.I (q:=q) ?_);have H6:=InnC.comI (st:=7) (f:=x.f) (e:=x.e) (iv:=q.iv) (fv:=q.fv) (ev:=q.ev) (b:=b) hc ⟨e.1,λh=>by cases h⟩ (H5.sel (P:=ComC b c) e_1);exact H6.pk [1,1,1,1,0] 0
 ·rename_i hc;exact absurd hc (O.c6 c6)
end
end
section
variable {g h:AH} {L R:List SP}
section
variable {n a:Nat} {x:jG} {q:qQt}
theorem InnC.out {st st':Int} {f:JV} {e:Q5} {c:Option zE} {iv fv ev cv:AV} (h7:st'=7∨st'=8) (H:HS g h (InnC st f e c iv fv ev cv::R)):HS g h (InnC st' f e c iv fv ev cv::R):=by
 cases c with
 |none=>obtain⟨q,H⟩:=InnC.noE rfl H;exact InnC.noI omQ rfl q H
 |some d=>obtain⟨b,q,H⟩:=InnC.comE rfl H;exact InnC.comI rfl ⟨q.1,λh=>by omega⟩ H
theorem Vk (hn:24≤n) (O:zm x) (h3:3≤x.state) (h6:x.state≤6) (H:HS g h (AttC a x::R)):t_w n 118 [.ptr a 0] h λ_ h'=>HS g h' (AttC a (xu x)::R):=by
 (refine qB rfl omQ λk hk=>?_;show wp (S118 (callT tab qx k) _ _) _;unfold S118;try simp only[iI,uU,iZ])
 obtain⟨q,H1⟩:=AttC.E H;have fin:∀{K2:AV→AH→Go.Ae.R} {Q:AV→AH→Prop},wp (K2 (.int .i64 (xI x).1) h) Q→wp (yR (callT tab qx k) [(127,73),(195,290),(196,294),(197,156),(329,218)] q.iv [] h K2) Q:=λ{K2 Q} w=>by
  unfold xI at w;by_cases c3:x.state=3
  ·rw[iJ c3]at w;obtain⟨b,e,H2⟩:=InnC.fetE c3 (O.c0 omQ) (H1.sel e_4);rw[e.2.2];refine ka rfl (UE omQ H2 .here) ?_;rintro _ _ ⟨rfl,rfl⟩;exact w
  ·rw[iQ c3]at w;by_cases c6:x.state=6
   ·rw[iJ c6]at w
    split at w
    ·rename_i c hc;obtain⟨b,e,H2⟩:=InnC.comE hc (H1.sel e_4);rw[e.2 c6];refine ka rfl (UI omQ H2) ?_;rintro _ _ ⟨rfl,rfl⟩;exact w
    ·rename_i hc;exact absurd hc (O.c6 c6)
   ·rw[iQ c6]at w;obtain⟨b,e,H2⟩:=InnC.extE omQ (O.c0 omQ) (H1.sel e_4);obtain⟨sv,H3⟩:=ExtC.E H2;rw[e.2.2];refine ka rfl (qVA omQ H3 .here) ?_;rintro _ _ ⟨rfl,rfl⟩;exact w
 have by_:∀{K2:AV→AH→Go.Ae.R} {Q:AV→AH→Prop},wp (K2 (.int .i64 (xI x).2) h) Q→wp (yR (callT tab qx k) [(127,119),(195,373),(196,381),(197,384),(329,376)] q.iv [] h K2) Q:=λ{K2 Q} w=>by
  unfold xI at w;by_cases c3:x.state=3
  ·rw[iJ c3]at w;obtain⟨b,e,H2⟩:=InnC.fetE c3 (O.c0 omQ) (H1.sel e_4);rw[e.2.2];refine ka rfl (jQF omQ H2 .here) ?_;rintro _ _ ⟨rfl,rfl⟩;exact w
  ·rw[iQ c3]at w;by_cases c6:x.state=6
   ·rw[iJ c6]at w
    split at w
    ·rename_i c hc;obtain⟨b,e,H2⟩:=InnC.comE hc (H1.sel e_4);rw[e.2 c6];refine ka rfl (jQo omQ H2) ?_;rintro _ _ ⟨rfl,rfl⟩;exact w
    ·rename_i hc;exact absurd hc (O.c6 c6)
   ·rw[iQ c6]at w;obtain⟨b,e,H2⟩:=InnC.extE omQ (O.c0 omQ) (H1.sel e_4);obtain⟨sv,H3⟩:=ExtC.E H2;rw[e.2.2];refine ka rfl (jQb omQ H3 .here) ?_;rintro _ _ ⟨rfl,rfl⟩;exact w
 refine qW (qQ (qX H1 .here rfl (fin ?_)));have OL:=OY O h3 h6;show wp _ λ_ h'=>HS g h' (AttC a (xz (vk x))::R);refine ji [] (λs h'=>s=(.ptr a 0,())∧HS g h' (AttC a (vk x)::R)) (λj hj=>?_) ?_
 rotate_left
 ·rintro _ h2 ⟨rfl,H2⟩;refine qG (XS omQ OL.c H2) ?_;rintro _ h3 ⟨rfl,H3⟩;unfold xz;cases hw:zh (vk x)with
  |false=>exact qJ (qk (qj H3))
  |true=>
   refine qZ ?_;have hcs:∃c,(vk x).c=some c:=by
    unfold zh at hw;cases hc:(vk x).c with
    |none=>rw[hc]at hw;simp at hw
    |some c=>exact⟨c,rfl⟩
   obtain⟨c,hc⟩:=hcs;obtain⟨q2,H4⟩:=AttC.E H3;obtain⟨b,e,H5⟩:=InnC.comE hc (H4.sel e_4);refine qW (qQ (qX H4 .here (x:=.ptr b 0) (by rw[← e.1];rfl) ?_));refine qG (qG2 omQ (OL.c c hc).now H5) ?_;rintro _ _ ⟨rfl,rfl⟩;refine qW (qQ ?_);refine qA H4 .here ⟨rfl,rfl⟩ (by simp[xy]) λh5 H6=>qk (qj ?_);rw[iJ rfl];have H7:HS g h5 (qw a (xy { vk x with stamp:=wy c } q2)::JobC q2.vb (vk x).job q2.rv q2.bv q2.gv::ViewC q2.vb (vk x).v::RdsC q2.db (vk x).r::InnC (vk x).state (vk x).f (vk x).e (vk x).c q2.iv q2.fv q2.ev q2.cv::R):=H6;rw[hc]at H7 ⊢;exact AttC.I H7
 generalize hL:vk x=Y at*;unfold vk at hL;by_cases c0:(xI x).1=0
 ·rw[iJ c0]at hL;subst hL;exact qg c0 (qZ (hj _ _ ⟨rfl,H⟩))
 rw[iQ c0]at hL;refine qK c0 (qJ ?_);by_cases c5:(xI x).1=5
 ·rw[iJ c5]at hL;subst hL;refine qg c5 (qZ ?_);refine qW (qQ (qX H1 .here rfl (by_ ?_)));refine qG (Qe omQ H1) λ_ h2 H2=>hj _ _ ⟨rfl,AttC.I (q:=q) ?_⟩;have H3:=InnC.out (st':=7) (.inl rfl) (H2.sel e_4);exact H3.pk [1,1,1,1,0] 0
 ·rw[iQ c5]at hL;subst hL;refine qK c5 (qJ ?_);exact qG (qYd omQ O h3 h6 H) λ_ h2 H2=>hj _ _ ⟨rfl,H2⟩
theorem qxc {an:AnM} (hn:26≤n) (O:zm x) (ha:Yh an) (H:HS g h (AttC a x::R)):t_w n 72 [.ptr a 0,.agg (xw an)] h λ_ h'=>HS g h' (AttC a (jU x an)::R):=by
 (refine qB rfl omQ λk hk=>?_;show wp (S72 (callT tab qx k) _ _ _) _;unfold S72;try simp only[iI,uU,iZ])
 have hst:=O.st;obtain⟨q,H0⟩:=AttC.E H;refine qP H0 rfl λb0 h1 H1=>?_;generalize hA:jU x an=A;unfold jU at hA;refine qW (qQ (qX H1 e_1 rfl ?_));by_cases c8:x.state=8
 ·rw[iJ c8]at hA;subst hA;exact qg c8 (qZ (qj (AttC.I H1.drop)))
 rw[iQ c8]at hA;refine qK c8 (qJ ?_);refine qQ (qX H1 .here rfl ?_);by_cases ce:an.err=0
 rotate_left
 ·rw[iJ ce]at hA;subst hA;refine jX ce (qZ ?_);refine qQ (qX H1 .here rfl ?_);refine qG (Qe omQ (H1.sel e_1)) λ_ h2 H2=>?_;refine qW (qQ ?_);refine qA H2 .here ⟨rfl,rfl⟩ (by simp[xy]) λh3 H3=>qj (AttC.I (q:=q) ?_);have H4:=InnC.out (st':=8) (.inr rfl) (H3.sel e_5);exact H4.pk [1,2,2,2,0] 1
 rw[iQ (λh=>h ce)]at hA;refine q9 ce (qJ ?_);refine qW (qQ (qX H1 e_1 rfl ?_));refine ji [] (λ_ h'=>HS g h' (AttC a A::R)) (λj hj=>?_) λ_ h' H'=>qk (qj H');by_cases c0:x.state=0
 ·rw[iJ c0]at hA;subst hA;refine qg c0 (qZ ?_);refine qW (qQ ?_);refine qA H1 e_1 ⟨rfl,rfl⟩ (by simp[xy]) λh2 H2=>hj _ _ (AttC.I (q:=q) ?_);obtain⟨e,H3⟩:=InnC.noE (O.c0 omQ) (H2.sel e_5);have H4:=InnC.noI (st:=1) (f:=x.f) (e:=x.e) (c:=x.c) (iv:=q.iv) (fv:=q.fv) (ev:=q.ev) od (O.c0 omQ) e H3;exact H4.pk [1,2,2,2,0] 1
 rw[iQ c0]at hA;refine qK c0 (qJ ?_);by_cases c1:x.state=1
 ·rw[iJ c1]at hA;subst hA;refine qg c1 (qZ ?_);refine qV ?_
  try dsimp only
  refine qQ (qX H1 .here rfl ?_);refine qQ (qX H1 .here rfl ?_);refine qW (qQ ?_);refine qA H1 e_1 ⟨rfl,rfl⟩ (by simp[xy]) λh2 H2=>?_;refine qW (qQ ?_);refine qA H2 .here ⟨rfl,rfl⟩ (by simp[xy]) λh3 H3=>?_;refine qW (qQ ?_);refine qA H3 .here ⟨rfl,rfl⟩ (by simp[xy]) λh4 H4=>?_;refine qd H2 e_1 rfl H3 e_1 rfl (HS.lt H1 .here)<|qd H1 .here rfl H2 e_1 rfl (HS.lt H1 .here)<|qd H1 .here rfl H2 e_1 rfl (HS.lt H1 .here)<|qW (qQ ?_);refine qA H4 .here ⟨rfl,rfl⟩ (by simp[xy]) λh5 H5=>hj _ _ (AttC.I (q:=q) ?_);obtain⟨e,H6⟩:=InnC.noE (O.c0 omQ) (H5.sel e_5);have H7:=InnC.noI (st:=2) (f:=x.f) (e:=x.e) (c:=x.c) (iv:=q.iv) (fv:=q.fv) (ev:=q.ev) od (O.c0 omQ) e H6;exact H7.pk [1,2,2,2,0] 1
 rw[iQ c1]at hA;refine qK c1 (qJ ?_);by_cases c2:x.state=2
 ·rw[iJ c2]at hA;subst hA;refine qg c2 (qZ ?_);obtain⟨e,H3⟩:=InnC.noE (O.c0 omQ) (H1.sel e_5);exact qG (qJD omQ O.b (O.job.same λ_=>by omega) (O.c0 omQ) e (H3.pk [1,1,1,1] 1)) λ_ h4 H4=>hj _ _ H4
 rw[iQ c2]at hA;refine qK c2 (qJ ?_);by_cases c7:x.state=7
 ·rw[iJ c7]at hA;subst hA;refine qg c7 (qZ ?_);refine qW (qQ ?_);refine qA H1 e_1 ⟨rfl,rfl⟩ (by simp[xy]) λh2 H2=>hj _ _ (AttC.I (q:=q) ?_);have H3:=InnC.out (st':=8) (.inr rfl) (H2.sel e_5);exact H3.pk [1,2,2,2,0] 1
 rw[iQ c7]at hA;refine qK c7 (qJ ?_);refine qW (qQ (qX H1 e_1 rfl ?_));refine qF H1 .here rfl omQ rfl ?_;have hsx:∀{y:jG},y.state=x.state→3≤y.state∧y.state≤6:=λh=>by omega
 by_cases c3:x.state=3
 ·rw[iJ c3]at hA;subst hA;obtain⟨b,e,H2⟩:=InnC.fetE c3 (O.c0 omQ) (H1.sel e_5);rw[e.2.2];refine ka rfl (qjH omQ (O.f c3).1 H2) λ_ h3 H3=>?_;have H4:=InnC.fetI (st:=x.state) (e:=x.e) (ev:=q.ev) c3 (O.c0 omQ) e H3;have O':zm { x with f:=xo x.f an }:=⟨O.set,O.good,O.sz,O.fr,O.r,O.job,O.st,λh=>⟨GJ (O.f h).1,Kn (O.f h).2 ha⟩,O.need,O.e,O.c,O.c0,O.c6⟩;exact qG (Vk omQ O' (hsx rfl).1 (hsx rfl).2 (AttC.I (H4.pk [2,2,2,2,0] 1))) λ_ h5 H5=>hj _ _ H5
 rw[iQ c3]at hA;by_cases c6:x.state=6
 ·rw[iJ c6]at hA;subst hA;cases hc:x.c with
  |none=>exact absurd hc (O.c6 c6)
  |some c=>obtain⟨b,e,H2⟩:=InnC.comE hc (H1.sel e_5);rw[e.2 c6];have Oc:=O.c c hc;refine ka rfl (qkc omQ Oc H2) λ_ h3 H3=>?_;have H4:=InnC.comI (st:=x.state) (f:=x.f) (e:=x.e) (fv:=q.fv) (ev:=q.ev) (c:=some (zH c an)) rfl e H3;have O':zm { x with c:=some (zH c an) }:=⟨O.set,O.good,O.sz,O.fr,O.r,O.job,O.st,O.f,O.need,O.e,λc' h=>by cases h;exact Kp Oc ha,λh=>absurd h (by show¬x.state≤5;omega),λ_ h=>by cases h⟩;rw[hc]at hj;exact qG (Vk omQ O' (hsx rfl).1 (hsx rfl).2 (AttC.I (H4.pk [2,2,2,2,0] 1))) λ_ h5 H5=>hj _ _ H5
 rw[iQ c6]at hA;subst hA;obtain⟨b,e,H2⟩:=InnC.extE omQ (O.c0 omQ) (H1.sel e_5);rw[e.2.2];refine ka rfl (qjU omQ (O.e omQ omQ) H2) λ_ h3 H3=>?_;have H4:=InnC.extI (st:=x.state) (f:=x.f) (fv:=q.fv) omQ (O.c0 omQ) e H3;have O':zm { x with e:=yq x.e an }:=⟨O.set,O.good,O.sz,O.fr,O.r,O.job,O.st,O.f,O.need,λh1 h2=>Gx (O.e h1 h2),O.c,O.c0,O.c6⟩;exact qG (Vk omQ O' (hsx rfl).1 (hsx rfl).2 (AttC.I (H4.pk [2,2,2,2,0] 1))) λ_ h5 H5=>hj _ _ H5
theorem qzP (hn:4≤n) (O:zm x) (H:HS g h (AttC a x::R)):t_w n 69 [.ptr a 0] h λr h'=>r=opV (xA x)∧HS g h' (AttC a x::R):=by
 (refine qB rfl omQ λk hk=>?_;show wp (S69 (callT tab qx k) _ _) _;unfold S69;try simp only[iI,uU,iZ])
 have hst:=O.st;obtain⟨q,H0⟩:=AttC.E H;refine qP H0 rfl λb0 h1 H1=>?_;refine qW (qQ (qX H1 e_1 rfl ?_));unfold xA;have say:∀{o:OpM} {h':AH},HS g h' (qw b0 (yN o)::qKI a x q R)→wp (zO h' (.ptr b0 0) 10 λv=>some (.tup [v,.bool true],h')) λr h'=>r=opV (some o)∧HS g h' (AttC a x::R):=λ{o h'} H'=>by
  refine qF H' .here rfl omQ rfl<|qj ⟨rfl,AttC.I H'.drop⟩
 by_cases c0:x.state=0
 ·rw[iJ c0];refine qg c0 (qZ ?_);refine qW (qQ (qX H1 e_1 rfl ?_));refine qL rfl<|qf H1 .here rfl (by simp) rfl λh3 H3=>say H3
 rw[iQ c0];refine qK c0 (qJ ?_);by_cases c1:x.state=1
 ·rw[iJ c1];refine qg c1 (qZ ?_);refine qL rfl<|qf H1 .here rfl (by simp) rfl λh3 H3=>say H3
 rw[iQ c1];refine qK c1 (qJ ?_);by_cases c2:x.state=2
 ·rw[iJ c2];refine qg c2 (qZ ?_);refine qW (qQ (qX H1 e_1 rfl ?_));refine qW (qQ (qX H1 e_1 rfl ?_));refine ZU (qL rfl ?_);exact qf H1 .here rfl (by simp) rfl λh3 H3=>say H3
 rw[iQ c2];refine qK c2 (qJ ?_);by_cases c7:x.state=7
 ·rw[iJ c7];refine qg c7 (qZ ?_);refine qW (qQ (qX H1 e_1 rfl ?_));refine qL rfl<|qf H1 .here rfl (by simp) rfl λh3 H3=>say H3
 rw[iQ c7];refine qK c7 (qJ ?_);by_cases c8:x.state=8
 ·rw[iJ c8];refine qg c8 (qZ ?_);refine qL rfl<|qf H1 .here rfl (by simp) rfl λh3 H3=>?_;refine qF H3 .here rfl omQ rfl<|qj ⟨rfl,AttC.I H3.drop⟩
 rw[iQ c8];refine qK c8 (qJ ?_);refine qW (qQ (qX H1 e_1 rfl ?_));have inn:∀{o:Option OpM} {h':AH},HS g h' (qw b0 (yN (op0 0 0 0))::qKI a x q R)→wp (z8 (opV o) 0 λv=>z8 (opV o) 1 λv2=>jd h' (.ptr b0 0) v 10 λh2=>zO h2 (.ptr b0 0) 10 λv3=>some (.tup [v3,v2],h2)) λr h'=>r=opV o∧HS g h' (AttC a x::R):=λ{o h'} H'=>by
  refine qC rfl (qC rfl ?_);refine qf H' .here rfl (by show 0+10≤10;omega) rfl λh3 H3=>?_;refine qF H3 .here rfl omQ rfl<|qj ⟨rfl,AttC.I H3.drop⟩
 by_cases c3:x.state=3
 ·rw[iJ c3];obtain⟨b,e,H2⟩:=InnC.fetE c3 (O.c0 omQ) (H1.sel e_5);rw[e.2.2];refine ka rfl (qqP omQ H2) ?_;rintro _ h3 ⟨rfl,H3⟩;have H4:=InnC.fetI (st:=x.state) (e:=x.e) (ev:=q.ev) c3 (O.c0 omQ) e H3;exact inn (H4.pk [1,1,1,1,1,0] 0)
 rw[iQ c3];by_cases c6:x.state=6
 ·rw[iJ c6];cases hc:x.c with
  |none=>exact absurd hc (O.c6 c6)
  |some c=>obtain⟨b,e,H2⟩:=InnC.comE hc (H1.sel e_5);rw[e.2 c6];refine ka rfl (qqr omQ (O.c c hc) H2) ?_;rintro _ h3 ⟨rfl,H3⟩;have H4:=InnC.comI (st:=x.state) (f:=x.f) (e:=x.e) (fv:=q.fv) (ev:=q.ev) hc e H3;exact inn (H4.pk [1,1,1,1,1,0] 0)
 rw[iQ c6];obtain⟨b,e,H2⟩:=InnC.extE omQ (O.c0 omQ) (H1.sel e_5);rw[e.2.2];refine ka rfl (qqe omQ (O.e omQ omQ) H2) ?_;rintro _ h3 ⟨rfl,H3⟩;have H4:=InnC.extI (st:=x.state) (f:=x.f) (fv:=q.fv) omQ (O.c0 omQ) e H3;exact inn (H4.pk [1,1,1,1,1,0] 0)
end
end
section
variable {g h:AH} {L R:List SP}
section
variable {n:Nat} {s S:zv}
abbrev JJ (S:zv):List AV:=[.int .i64 S.words,.int .i64 S.stripes,.int .i64 S.wide,.int .i64 S.threads,.int .u64 S.start]
abbrev xB (S:zv):List AV:=[.int .i64 S.words,.int .i64 S.stripes,.int .i64 S.wide,.int .i64 S.threads,.int .u64 S.start,.int .i64 S.spins,.int .i64 S.writes,.int .i64 S.fuel]
theorem Z7 (hn:1≤n) (H:HS g h R):t_w n 59 [.agg (JJ s)] h λr h'=>r=.agg (JJ (jq s))∧HS g h' R:=by
 refine t_e1 rfl omQ λk hk=>?_;unfold S59;try simp only[iZ]
 refine qP H rfl λb0 h1 H1=>?_;refine qP H1 rfl λb1 h2 H2=>?_;refine qQ (qX H2 e_1 rfl (ju (zD ?_)));refine qQ (qX H2 e_1 rfl (ju (zD ?_)));refine qQ (qX H2 e_1 rfl (ju (zD ?_)));refine qQ (qX H2 e_1 rfl (ju (zD ?_)));refine qQ (qX H2 e_1 rfl (ju ?_));refine qL rfl<|qf H2 .here rfl (by simp) rfl λh3 H3=>?_;refine qF H3 .here rfl omQ rfl<|qj ⟨rfl,H3.drop.drop⟩
theorem Vn (hn:2≤n) (H:HS g h R):t_w n 27 [.agg (xB s)] h λr h'=>r=.agg (xB (jq s))∧HS g h' R:=by
 refine t_e1 rfl omQ λk hk=>?_;unfold S27;try simp only[iZ]
 refine qP H rfl λb0 h1 H1=>?_;refine qP H1 rfl λb1 h2 H2=>?_;refine qV ?_
 try dsimp only
 refine qQ (qF H2 e_1 rfl omQ rfl ?_);refine qG (Z7 omQ H2) ?_;rintro _ h3 ⟨rfl,H3⟩;refine qQ (qX H3 e_1 rfl (ju (zD ?_)));refine qQ (qX H3 e_1 rfl (ju (zD ?_)));refine qQ (qX H3 e_1 rfl (ju (zD ?_)));refine qL rfl<|qf H3 .here rfl (by simp) rfl λh4 H4=>?_;refine qd H2 e_1 rfl H3 e_1 rfl (HS.lt H2 e_1)<|qd H2 e_1 rfl H3 e_1 rfl (HS.lt H2 e_1)<|qd H2 e_1 rfl H3 e_1 rfl (HS.lt H2 e_1)<|qF H4 .here rfl omQ rfl<|qj ⟨rfl,H4.drop.drop⟩
theorem qg5 {w:Int} (hn:1≤n) (hw:32≤w∧w≤256) (H:HS g h R):t_w n 60 [.int .i64 w] h λr h'=>∃b v,r=.ptr b 0∧HS g h' (qw b [v]::qy 22 1 w.toNat v ((List.replicate w.toNat (0:Int)).map (.int .u64))::R):=by
 refine t_e1 rfl omQ λk hk=>?_;unfold S60;try simp only[iZ]
 refine ju (zD ?_);rw[show max ((32:Nat):Int) (min w ((256:Nat):Int))=((w.toNat:Nat):Int) by omega];refine Xe H omQ λv h1 H1=>?_;rw[show List.replicate w.toNat (AV.int .u64 ((0:Nat):Int))=(List.replicate w.toNat (0:Int)).map (.int .u64) by rw[List.map_replicate];rfl]at H1;have o1:=H1.one .here;refine qL (by simp only[yM,o1.1];rfl)<|qP H1 (by simp only[qp,List.all_cons,o1.2];rfl) λb h2 H2=>qj ⟨b,v,rfl,H2⟩
theorem qva {w:Int} (hn:1≤n) (hw:1≤w∧w≤4) (H:HS g h R):t_w n 63 [.int .i64 w] h λr h'=>∃b v,r=.ptr b 0∧HS g h' (qw b [v]::qy 22 1 w.toNat v ((List.replicate w.toNat (0:Int)).map (.int .u64))::R):=by
 refine t_e1 rfl omQ λk hk=>?_;unfold S63;try simp only[iZ]
 refine ju (zD ?_);rw[show max ((1:Nat):Int) (min w ((4:Nat):Int))=((w.toNat:Nat):Int) by omega];refine Xe H omQ λv h1 H1=>?_;rw[show List.replicate w.toNat (AV.int .u64 ((0:Nat):Int))=(List.replicate w.toNat (0:Int)).map (.int .u64) by rw[List.map_replicate];rfl]at H1;have o1:=H1.one .here;refine qL (by simp only[yM,o1.1];rfl)<|qP H1 (by simp only[qp,List.all_cons,o1.2];rfl) λb h2 H2=>qj ⟨b,v,rfl,H2⟩
theorem qXD:∀k:Nat,vE [AV.int .u64 ((0:Nat):Int),.bool false,.int .i64 ((0:Nat):Int)] k=(List.replicate k lk0).flatMap zA:=by
 intro k
 induction k with
 |zero=>rfl
 |succ k ih=>rw[List.replicate_succ,List.flatMap_cons,← ih];rfl
theorem qw8 {w z:Int} (hn:2≤n) (hw:1≤w∧w≤16) (hz:1≤z∧z≤16) (H:HS g h R):t_w n 61 [.int .i64 w,.int .i64 z] h λr h'=>∃b v,r=.ptr b 0∧HS g h' (qw b [v,.int .i64 z]::qy 77 3 w.toNat v ((List.replicate w.toNat lk0).flatMap zA)::R):=by
 refine t_e2 rfl omQ λk hk=>?_;unfold S61;try simp only[iZ]
 refine qG (Ue omQ) ?_;rintro _ _ ⟨rfl,rfl⟩;rw[show max 1 (min w ((16:Nat):Int))=((w.toNat:Nat):Int) by omega];refine Gb (ln:=w.toNat) (cp:=w.toNat) H rfl (Nat.le_refl _) omQ λv h1 H1=>?_;rw[List.take_of_length_le (by rw[kH];exact Nat.le_refl _),qXD]at H1;refine qG (Ue omQ) ?_;rintro _ _ ⟨rfl,rfl⟩;rw[show max 1 (min z ((16:Nat):Int))=z by omega];have o1:=H1.one .here;refine qL (by simp only[yM,o1.1];rfl)<|qP H1 (by simp only[qp,List.all_cons,o1.2];rfl) λb h2 H2=>qj ⟨b,v,rfl,H2⟩
theorem qv0 {w:Int} (hn:1≤n) (hw:w≤4611686018427387903) (H:HS g h R):t_w n 62 [.int .u64 w] h λr h'=>∃b,r=.ptr b 0∧HS g h' (qw b [.int .u64 w]::R):=by
 refine t_e1 rfl omQ λk hk=>?_;unfold S62;try simp only[iZ]
 refine ju ?_;rw[show min w ((4611686018427387903:Nat):Int)=w by omega];refine qL rfl<|qP H rfl λb h2 H2=>qj ⟨b,rfl,H2⟩
theorem qg9 (hn:4≤n) (hs:0≤s.start) (H:HS g h R):t_w n 28 [.agg (JJ s)] h λr h'=>∃p,r=.ptr p 0∧HS g h' (MemC p (jq s) (wk (jq s))::R):=by
 refine t_e1 rfl omQ λk hk=>?_;unfold S28;try simp only[iZ]
 have O:=yi hs;refine qP H rfl λb0 h1 H1=>?_;refine qF H1 .here rfl omQ rfl<|qG (Z7 omQ H1) ?_;rintro _ h2 ⟨rfl,H2⟩;refine qf H2 .here rfl (by simp) rfl λh3 H3=>?_;generalize jq s=S at*;refine qV ?_
 try dsimp only
 refine qF H3 .here rfl omQ rfl<|qQ (qX H3 .here rfl ?_);refine qG (qg5 omQ O.words H3) ?_;rintro _ h4 ⟨hb,wv,rfl,H4⟩;refine qQ (qX H4 e_2 rfl ?_);refine qQ (qX H4 e_2 rfl ?_);refine qG (qw8 omQ O.stripes O.wide H4) ?_;rintro _ h5 ⟨tb,lv,rfl,H5⟩;refine qQ (qX H5 e_4 rfl ?_);refine qG (qv0 omQ O.start.2 H5) ?_;rintro _ h6 ⟨cb,rfl,H6⟩;refine qQ (qX H6 e_5 rfl ?_);refine qG (qva omQ O.threads H6) ?_;rintro _ h7 ⟨sb,sv,rfl,H7⟩;refine qL rfl<|qP H7 rfl λp h8 H8=>?_;refine qd H5 e_4 rfl H6 e_5 rfl (HS.lt H3 .here)<|qd H4 e_2 rfl H5 e_4 rfl (HS.lt H3 .here)<|qd H3 .here rfl H4 e_2 rfl (HS.lt H3 .here)<|qd H4 e_2 rfl H5 e_4 rfl (HS.lt H3 .here)<|qd H3 .here rfl H4 e_2 rfl (HS.lt H3 .here)<|qd H3 .here rfl H4 e_2 rfl (HS.lt H3 .here)<|qd H3 .here rfl H4 e_2 rfl (HS.lt H3 .here)<|zn H6 e_5 rfl H7 e_7 rfl rfl omQ (HS.lt H3 .here)<|zn H5 e_4 rfl H6 e_5 rfl rfl omQ (HS.lt H3 .here)<|zn H4 e_2 rfl H5 e_4 rfl rfl omQ (HS.lt H3 .here)<|zn H3 .here rfl H4 e_2 rfl rfl omQ (HS.lt H3 .here)<|qj ⟨p,rfl,MemC.I (hb:=hb) (tb:=tb) (cb:=cb) (sb:=sb) (wv:=wv) (lv:=lv) (sv:=sv) ?_⟩;unfold qXf wk;simp only[List.length_replicate];exact H8.pk [0,5,5,3,3,2,0,0] 1
theorem Me {m:Nat} {e:TypeId} {v:AV} {xs:List AV} {R2:List SP} (hn:1≤n) (H:HS g h L) (s:Sel L (qy e 1 m v xs) R2) (ha:qp xs=true) (hm:m≤1000000) :
  t_w n 158 [v] h λr h'=>HS g h' (qy 3 1 m r xs::L):=by
 refine t_e1 rfl omQ λk hk=>?_;unfold S158;try simp only[iZ]
 refine JS H s (λh1 h2=>?_) (qJ ?_)
 ·subst h1 h2;obtain rfl:xs=[]:=iA (by simpa using H.sl_len s);exact qZ (qj H.nils)
 ·refine qh (l:=[]) H rfl rfl rfl rfl λv2 h2 H2=>?_;refine jf H2 (H2.sl (.there s)) omQ omQ ha λv3 h3 H3=>?_;rw[Nat.zero_add,List.nil_append]at H3;exact qj H3
theorem Vt {me:Int} (hn:6≤n) (hs:0≤s.start) (H:HS g h R):t_w n 167 [.int .i64 me,.agg (xB s)] h λr h'=>∃a vb db,r=.ptr a 0∧
  HS g h' (qw a (xy (GK me (jq s) (.sweep [] 0)) ⟨.nilp,.nils,.nili,.nilp,.nilp,.nilp,0,vb,db⟩)::RdsC db []::ViewC vb (w7 (jq s).words (jq s).writes)::R):=by
 refine t_e2 rfl omQ λk hk=>?_;unfold S167;try simp only[iZ]
 refine qP H rfl λb0 h1 H1=>?_;refine qF H1 .here rfl omQ rfl<|qG (Vn omQ H1) ?_;rintro _ h2 ⟨rfl,H2⟩;refine qf H2 .here rfl (by simp) rfl λh3 H3=>?_;generalize jq s=S at*;refine qV ?_
 try dsimp only
 refine qF H3 .here rfl omQ rfl<|qQ (qn (qX H3 .here rfl ?_));refine qQ (qX H3 .here rfl ?_);refine qG (qVl omQ H3) ?_;rintro _ h4 ⟨vb,rfl,H4⟩;refine qG (qge omQ H4) ?_;rintro _ h5 ⟨db,rfl,H5⟩;refine qL rfl<|qP H5 rfl λa h6 H6=>?_;refine zn H4 e_1 rfl H5 e_2 rfl rfl omQ (HS.lt H3 .here)<|zn H3 .here rfl H4 e_1 rfl rfl omQ (HS.lt H3 .here)<|qj ⟨a,vb,db,rfl,H6.pk [0,0,0] 1⟩
theorem qvb {me:Int} {l:List qR} {sv:AV} (hn:10≤n) (hs:0≤s.start) (hc:(zb l).2=0) (S:Rd g R 5 l.length sv (l.flatMap jg)) (H:HS g h R) :
  t_w n 115 [.int .i64 me,.agg (xB s),.agg [sv]] h λr h'=>∃a,r=.ptr a 0∧HS g h' (AttC a (yY me s l)::R):=by
 refine t_e3 rfl omQ λk hk=>?_;unfold S115;try simp only[iZ]
 have hle:=(gu hc).le;refine qP H rfl λb0 h1 H1=>?_;refine qP H1 (vQ (kh (S.sl H))) λb1 h2 H2=>?_;refine qF H2 e_1 rfl omQ rfl<|qG (Vt omQ hs H2) ?_;rintro _ h3 ⟨a,vb,db,rfl,H3⟩;refine qF H3 e_3 rfl omQ rfl<|qW (qQ (qX H3 .here rfl ?_));refine qW (qQ (qn (qX H3 .here rfl ?_)));refine qG (qVb omQ H3 S.more.more.more.more.more omQ) ?_;rintro _ h4 ⟨ib,rfl,H4⟩;refine qW (qQ ?_);refine qA H4 e_1 ⟨rfl,rfl⟩ (by simp[xy]) λh5 H5=>qj ⟨a,rfl,?_⟩;have hm:KL l=qO l:=by unfold KL;rw[iJ hc]
 rw[hm,hc]at H5;refine AttC.I (q:=⟨.ptr ib 0,.nils,.nili,.nilp,.nilp,.nilp,0,vb,db⟩) ?_;have H6:=JobC.PI (p:=⟨l,J7,0,0,jj (jq s).fuel⟩) ⟨rfl,rfl,rfl⟩ (H5.sel e_1);have H7:=InnC.noI (st:=0) (f:=Qg 0 0 0 0 0) (e:=Vu 0 0 []) (c:=none) (iv:=.nili) (fv:=.nilp) (ev:=.nilp) od rfl rfl H6;exact H7.pk [2,1,2,1,0] 2
theorem qWF {me:Int} {bs:List Int} {e:TypeId} {sv:AV} {R2:List SP} (hn:8≤n) (hs:0≤s.start) (hb:bs.length≤1000000) (H:HS g h L) (S:Sel L (qy e 1 bs.length sv (bs.map (.int .i64))) R2) :
  t_w n 114 [.int .i64 me,.agg (xB s),sv] h λr h'=>∃a,r=.ptr a 0∧HS g h' (AttC a (yr me s bs)::L):=by
 refine t_e3 rfl omQ λk hk=>?_;unfold S114;try simp only[iZ]
 refine qP H rfl λb0 h1 H1=>?_;refine qF H1 .here rfl omQ rfl<|qG (Vt omQ hs H1) ?_;rintro _ h3 ⟨a,vb,db,rfl,H3⟩;refine qG (Me omQ H3 (.there (.there (.there (.there S)))) (Zy (λ_=>rfl) _) hb) λbv h4 H4=>?_;have o4:=H4.one .here;refine qW (qQ ?_);refine qA H4 e_1 o4 (by simp[xy]) λh5 H5=>qj ⟨a,rfl,?_⟩;refine AttC.I (q:=⟨.nilp,bv,.nili,.nilp,.nilp,.nilp,0,vb,db⟩) ?_;have H6:=JobC.SI (vb:=vb) (k:=0) (rv:=.nilp) (gv:=0) ⟨rfl,rfl⟩ (H5.sel e_1);have H7:=InnC.noI (st:=0) (f:=Qg 0 0 0 0 0) (e:=Vu 0 0 []) (c:=none) (iv:=.nili) (fv:=.nilp) (ev:=.nilp) od rfl rfl H6;exact H7.pk [2,1,2,1,0] 1
section
variable {a:Nat} {x:jG} {q:qQt}
theorem qxi (hn:3≤n) (O:zm x) (H:HS g h (AttC a x::R)):t_w n 77 [.ptr a 0] h λr h'=>HS g h' (qy 140 2 x.r.length r (x.r.flatMap vw)::AttC a x::R):=by
 refine t_e1 rfl omQ λk hk=>?_;unfold S77;try simp only[iZ]
 obtain⟨q,H1⟩:=AttC.E H;have hr:=O.r;refine qW (qQ (qX H1 .here rfl ?_));refine qG (ZI omQ omQ (H1.sel e_3)) λv h2 H2=>qj<|HS.unsel e_1 (AttC.I (H2.pk [2,2,2,1,1,0] 0))
theorem qWc (hn:2≤n) (O:zm x) (H:HS g h (AttC a x::R)):t_w n 159 [.ptr a 0] h λr h'=>HS g h' (qy 164 2 x.v.K.length r (x.v.K.flatMap jP)::AttC a x::R):=by
 refine t_e1 rfl omQ λk hk=>?_;unfold S159;try simp only[iZ]
 obtain⟨q,H1⟩:=AttC.E H;refine qW (qQ (qX H1 .here rfl ?_));refine qG (qW6 omQ (H1.sel e_2) O.good.ok) λv h2 H2=>qj<|HS.unsel e_1 (AttC.I (H2.pk [2,2,1,1,1,0] 0))
theorem Q8 (hn:5≤n) (O:zm x) (H:HS g h (AttC a x::R)):t_w n 176 [.ptr a 0] h λr h'=>r=.bool (xM x)∧HS g h' (AttC a x::R):=by
 refine t_e1 rfl omQ λk hk=>?_;unfold S176;try simp only[iZ]
 obtain⟨q,H1⟩:=AttC.E H;refine qG (qVM omQ H1 .here) ?_;rintro _ _ ⟨rfl,rfl⟩;unfold xM;by_cases c:jS x=2
 ·refine qg c ?_;rw[iG c];refine qV<|qs<|qD ?_
  exact qj ⟨rfl,H⟩
 ·refine qK c ?_;rw[iV c];refine qV<|qe ?_;(try dsimp only)
  refine qG (XS omQ O.c H) ?_;rintro _ h2 ⟨rfl,H2⟩;refine qE<|qj ⟨rfl,H2⟩
theorem OP (hn:1≤n) (H:HS g h L) (s:Sel L (qw a (xy x q)) R):t_w n 78 [.ptr a 0] h λr h'=>r=.bool (vA x)∧h'=h:=by
 refine t_e1 rfl omQ λk hk=>?_;unfold S78;try simp only[iZ]
 refine qW (qQ (qX H s rfl ?_));unfold vA;by_cases c:x.state=8
 ·rw[iV (λh=>h c)];refine q9 c<|qV<|qT<|qE ?_
  exact qj ⟨rfl,rfl⟩
 ·rw[iG (show x.state≠8 from c)];refine jX c<|qV<|qa<|qW (qQ ?_)
  refine qX H s rfl<|qD<|qj ⟨rfl,rfl⟩
theorem qGM (hn:11≤n) (O:zm x) (H:HS g h (AttC a x::R)):t_w n 160 [.ptr a 0] h λr h'=>HS g h' (qy 164 2 (Gp x).length r ((Gp x).flatMap jP)::AttC a x::R):=by
 refine t_e1 rfl omQ λk hk=>?_;unfold S160;try simp only[iZ]
 refine qG (Q8 omQ O H) ?_;rintro _ h1 ⟨rfl,H1⟩;unfold Gp;cases hc:xM x with
 |false=>exact jA (qZ (qj H1.nils))
 |true=>refine jk (qJ ?_);obtain⟨q,H2⟩:=AttC.E H1;refine qW (qQ (qX H2 .here rfl ?_));refine qG (Jx omQ (H2.sel e_2) O.good.ok) λv h3 H3=>qj<|HS.unsel e_1 (AttC.I (H3.pk [2,2,1,1,1,0] 0))
theorem NS (hn:6≤n) (O:zm x) (H:HS g h (AttC a x::R)):t_w n 126 [.ptr a 0] h λr h'=>∃e,HS g h' (qy e 1 (zP x).length r ((zP x).map (.int .i64))::AttC a x::R):=by
 refine t_e1 rfl omQ λk hk=>?_;unfold S126;try simp only[iZ]
 refine qG (Q8 omQ O H) ?_;rintro _ h1 ⟨rfl,H1⟩;unfold zP;cases hc:xM x with
 |false=>exact jA (qZ (qj ⟨3,H1.nils⟩))
 |true=>
  refine jk (qJ ?_);rw[iJ rfl];obtain⟨q,H2⟩:=AttC.E H1;have hj:=O.job;cases hx:x.job with
  |sweep bs k=>rw[hx]at hj;obtain⟨e,H3⟩:=JobC.S (by rw[← hx];exact H2.sel e_1);have hbl:=hj.2;refine qW (qQ (qX H2 .here (x:=.nilp) (by rw[← e.1];rfl) ?_));refine ME (qZ ?_);refine qW (qQ (qX H2 .here rfl ?_));refine qG (Me omQ H3 .here (Zy (λ_=>rfl) _) omQ) λv h4 H4=>qj ⟨3,?_⟩;have H5:=JobC.SI (vb:=q.vb) (k:=k) e (H4.sel e_1);rw[← hx]at H5;exact HS.unsel e_1 (AttC.I (H5.pk [2,0,1,1,1,0] 0))
  |prog p=>obtain⟨ib,nx,e,H3⟩:=JobC.P (by rw[← hx];exact H2.sel e_1);refine qW (qQ (qX H2 .here (x:=.ptr ib 0) (by rw[← e.1];rfl) ?_));refine UC (qJ ?_);refine qW (qQ (qX H2 .here rfl ?_));refine qG (NW omQ (H2.sel e_2) O.good.ok) λv h4 H4=>qj ⟨3,?_⟩;exact HS.unsel e_1 (AttC.I (H4.pk [2,2,1,1,1,0] 0))
theorem M9 (hn:8≤n) (O:zm x) (H:HS g h (AttC a x::R)):t_w n 123 [.ptr a 0] h λr h'=>r=.str (zR x)∧HS g h' (AttC a x::R):=by
 refine t_e1 rfl omQ λk hk=>?_;unfold S123;try simp only[iZ]
 refine qG (Q8 omQ O H) ?_;rintro _ h1 ⟨rfl,H1⟩;unfold zR;cases hc:xM x with
 |false=>
  refine jA (qV ?_);refine qs<|qD (qZ ?_)
  exact qj ⟨rfl,H1⟩
 |true=>
  refine jk ?_;rw[iJ rfl];obtain⟨q,H2⟩:=AttC.E H1;have hj:=O.job;cases hx:x.job with
  |sweep bs k=>
   obtain⟨e,H3⟩:=JobC.S (by rw[← hx];exact H2.sel e_1);refine qV<|qe<|qW (qQ (qX ‹_› e_1 rfl ?_))
   rw[e.1];refine ME (qE (qZ ?_));exact qj ⟨rfl,H1⟩
  |prog p=>
   rw[hx]at hj;obtain⟨ib,nx,e,H3⟩:=JobC.P (by rw[← hx];exact H2.sel e_1);refine qV<|qe<|qW (qQ (qX ‹_› e_1 rfl ?_))
   rw[e.1];refine UC (qE (qJ (qW (qQ (qX ‹_› e_1 rfl ?_)))));rw[e.1];have ho:=hj.2.2.1.out;refine qG (Nm omQ H3 ho) ?_;rintro _ h4 ⟨o,rfl,H4⟩;refine qG (qVS omQ H4 omQ hj.2.2.1.its) ?_;rintro _ h5 ⟨rfl,H5⟩;refine qj ⟨rfl,AttC.I (q:=q) ?_⟩;have H6:=JobC.PI (p:=p) e H5.drop;rw[← hx]at H6;exact H6.pk [1,0,0,0,0] 0
end
end
end
section
variable {g h:AH} {L R:List SP}
def LimC (b:Nat) (r:List GN):SP:=.ex λsv=>.all [qw b [sv],qy 201 2 r.length sv (r.flatMap jP)]
section
variable {n b:Nat} {r:List GN}
theorem LimC.E (H:HS g h (LimC b r::R)):∃sv,HS g h (qw b [sv]::qy 201 2 r.length sv (r.flatMap jP)::R):=by obtain⟨sv,H⟩:=H.exE;exact⟨sv,H.allE⟩
theorem LimC.I {sv:AV} (H:HS g h (qw b [sv]::qy 201 2 r.length sv (r.flatMap jP)::R)):HS g h (LimC b r::R):=HS.exI sv H.allI
theorem qWM (hn:1≤n) (H:HS g h R):t_w n 65 [] h λv h'=>∃b,v=.ptr b 0∧HS g h' (LimC b []::R):=by
 refine t_e0 rfl omQ λk hk=>?_;unfold S65;try simp only[iZ]
 refine qL rfl<|qP H rfl λb h1 H1=>?_;refine qj ⟨b,rfl,LimC.I (sv:=.nils) ?_⟩;exact H1.nils.pk [1,0] 0
theorem qYI (hn:1≤n) (H:HS g h (LimC b r::R)):t_w n 177 [.ptr b 0] h λv h'=>v=.int .i64 (r.length:Int)∧h'=h:=by
 refine t_e1 rfl omQ λk hk=>?_;unfold S177;try simp only[iZ]
 obtain⟨sv,H1⟩:=LimC.E H;refine qW (qQ (qX H1 .here rfl ?_));refine qm H1 e_1<|qj ⟨rfl,rfl⟩
theorem Mu {z:Int} {bs:List Int} {bv:AV} (hn:1≤n) (hr:r.length+bs.length≤1000000) (H:HS g h (LimC b r::R)) (S:Rd g R 1 bs.length bv (bs.map (.int .i64))) :
  t_w n 125 [.ptr b 0,.int .u64 z,bv] h λ_ h'=>HS g h' (LimC b (r++bs.map λq=>(q,z))::R):=by
 refine t_e3 rfl omQ λk hk=>?_;unfold S125;try simp only[iZ]
 refine zu (S.more.sl H)<|jM (λc s h'=>∃i:Nat,s=(.int .i64 (i:Int),.int .i64 (bs.length:Int),bv,.int .u64 z,.ptr b 0,())∧i≤bs.length∧c=bs.length-i∧HS g h' (LimC b (r++(bs.take i).map λq=>(q,z))::R))
  ?_ omQ ⟨0,rfl,Nat.zero_le _,rfl,by rw[List.take_zero,List.map_nil,List.append_nil];exact H⟩
 rintro c ih s h1 hih ⟨i,rfl,hi,rfl,H⟩;by_cases hlt:i<bs.length
 ·refine jT omQ (qZ ?_);refine jO (S.more.sl H) (qVF hlt) ?_;obtain⟨sv,H1⟩:=LimC.E H;refine qW (qQ (qX H1 .here rfl ?_));refine qL rfl<|qh H1 rfl rfl rfl rfl λv2 h2 H2=>?_;refine jf (H2.sel e_2) (H2.sl .here) omQ (by rw[List.length_append,List.length_map,List.length_take];omega) rfl λv3 h3 H3=>?_;have o3:=H3.one .here;refine qW (qQ ?_);refine qA H3 e_2 o3 osQ λh4 H4=>?_;refine qc omQ<|hih (bs.length-(i+1)) _ _ omQ ⟨i+1,rfl,by omega,rfl,LimC.I (sv:=v3) ?_⟩;have er:r++(bs.take (i+1)).map (λq=>(q,z))=(r++(bs.take i).map λq=>(q,z))++[(bs[i],z)]:=by rw[List.take_add_one,iW hlt,List.append_assoc,List.map_append];rfl
  rw[er,List.length_append,List.flatMap_append];exact H4.pk [0,0] 1
 ·obtain rfl:i=bs.length:=by omega
  refine jD omQ (qJ (qk (qj ?_)));rw[List.take_length]at H;exact H
theorem qVu {sl:List Int} {v:AV} {z:Int} (hn:1≤n) (hl:sl.length≤1000) (S:Sl (λ_=>True) h 1 sl.length v (sl.map (.int .u64))) :
  t_w n 231 [v,.int .u64 z] h λr h'=>r=.bool (q8 sl z)∧h'=h:=by
 refine t_e2 rfl omQ λk hk=>?_;unfold S231;try simp only[iZ]
 refine zu S<|jM (λc s h'=>∃i:Nat,s=(.int .i64 (i:Int),.int .i64 (sl.length:Int),v,.int .u64 z,())∧i≤sl.length∧c=sl.length-i∧h'=h∧q8 sl z=q8 (sl.drop i) z)
  ?_ omQ ⟨0,rfl,Nat.zero_le _,rfl,rfl,rfl⟩
 rintro c ih s _ hih ⟨i,rfl,hi,rfl,rfl,hp⟩;by_cases hlt:i<sl.length
 ·refine jT omQ (qZ ?_);refine jO S (by rw[List.getElem?_map,iW hlt];rfl) ?_;have hd:sl.drop i=sl[i]::sl.drop (i+1):=List.drop_eq_getElem_cons hlt;have hcons:q8 (sl[i]::sl.drop (i+1)) z=(decide (sl[i]=0∨z<sl[i])&&q8 (sl.drop (i+1)) z):=rfl;rw[hd,hcons]at hp;refine qV ?_
  try dsimp only
  by_cases c0:sl[i]=0
  ·refine q9 c0 (qT ?_);refine qE (qJ ?_);refine qc omQ<|hih (sl.length-(i+1)) _ _ omQ ⟨i+1,rfl,by omega,rfl,rfl,?_⟩;rw[hp,iG (.inl c0),Bool.true_and]
  ·refine jX c0 (qa ?_);by_cases c1:z<sl[i]
   ·refine YV omQ (qD (qJ ?_));refine qc omQ<|hih (sl.length-(i+1)) _ _ omQ ⟨i+1,rfl,by omega,rfl,rfl,?_⟩;rw[hp,iG (.inr c1),Bool.true_and]
   ·refine Ji omQ (qD (qZ (qk (qj ⟨?_,rfl⟩))));rw[hp,iV (λh=>h.elim c0 c1),Bool.false_and]
 ·obtain rfl:i=sl.length:=by omega
  refine jD omQ (qJ (qk (qj ⟨?_,rfl⟩)));rw[hp,List.drop_length];rfl
theorem qv8 {sl:List Int} {v:AV} (hn:2≤n) (hl:sl.length≤1000) (hr:r.length≤1000000) (H:HS g h (LimC b r::R)) (S:Rd g R 1 sl.length v (sl.map (.int .u64))) :
  t_w n 178 [.ptr b 0,v] h λq h'=>
   HS g h' (qy 201 2 (r.filter λx=>q8 sl x.2).length q ((r.filter λx=>q8 sl x.2).flatMap jP)::LimC b (r.filter λx=>!q8 sl x.2)::R):=by
 refine t_e2 rfl omQ λk hk=>?_;unfold S178;try simp only[iZ]
 obtain⟨sv,H1⟩:=LimC.E H;refine qW (qQ (qX H1 .here rfl ?_));refine qm H1 e_1 ?_;have fl:∀(p:GN→Bool) (i:Nat),((r.take i).filter p).length≤r.length:=λp i=>Nat.le_trans (List.length_filter_le ..) (by rw[List.length_take];omega)
 refine jM (λc s h'=>∃(i:Nat) (qv wv:AV),s=(.int .i64 (i:Int),.int .i64 (r.length:Int),sv,wv,qv,v,.ptr b 0,())∧i≤r.length∧c=r.length-i∧
   HS g h' (qy 201 2 ((r.take i).filter λx=>q8 sl x.2).length qv (((r.take i).filter λx=>q8 sl x.2).flatMap jP)::qy 201 2 ((r.take i).filter λx=>!q8 sl x.2).length wv (((r.take i).filter λx=>!q8 sl x.2).flatMap jP)::
    qw b [sv]::qy 201 2 r.length sv (r.flatMap jP)::R))
  ?_ omQ ⟨0,.nils,.nils,rfl,Nat.zero_le _,rfl,H1.nils.nils⟩
 rintro c ih s h1 hih ⟨i,qv,wv,rfl,hi,rfl,H⟩;by_cases hlt:i<r.length
 ·refine jT omQ (qZ ?_)
  refine ji [] (λs h'=>∃(qv wv:AV),s=(.int .i64 (i:Int),.int .i64 (r.length:Int),sv,wv,qv,v,.ptr b 0,())∧
   HS g h' (qy 201 2 ((r.take (i+1)).filter λx=>q8 sl x.2).length qv (((r.take (i+1)).filter λx=>q8 sl x.2).flatMap jP)::qy 201 2 ((r.take (i+1)).filter λx=>!q8 sl x.2).length wv (((r.take (i+1)).filter λx=>!q8 sl x.2).flatMap jP)::
    qw b [sv]::qy 201 2 r.length sv (r.flatMap jP)::R)) (λj hj=>?_) ?_
  rotate_left
  ·rintro _ h2 ⟨qv,wv,rfl,H2⟩;refine qc omQ<|hih (r.length-(i+1)) _ _ omQ ⟨i+1,qv,wv,rfl,by omega,rfl,H2⟩
  refine zd (H.sl e_3) hlt omQ (vI (enc:=jP) (λ_=>rfl) (iW hlt))<|qP H rfl λb2 h2 H2=>?_;refine qf H2 .here rfl (by simp) rfl λh3 H3=>?_;refine qQ (qX H3 .here rfl ?_);refine qG (qVu (sl:=sl) omQ hl (S.more.more.more.more.more.sl H3)) ?_;rintro _ _ ⟨rfl,rfl⟩;have et:r.take (i+1)=r.take i++[r[i]]:=by rw[List.take_add_one,iW hlt];rfl
  have f1:=fl (λx=>q8 sl x.2) i;have f2:=fl (λx=>!q8 sl x.2) i;cases hp:q8 sl r[i].2 with
  |true=>refine qZ (qF H3 .here rfl omQ rfl ?_);refine qh H3 rfl rfl rfl rfl λv2 h4 H4=>?_;refine jf (H4.sel e_2) (H4.sl .here) omQ omQ rfl λv3 h5 H5=>hj _ _ ⟨v3,wv,rfl,?_⟩;rw[et,List.filter_append,List.filter_append,show[r[i]].filter (λx=>q8 sl x.2)=[r[i]] by simp[hp],show[r[i]].filter (λx=>!q8 sl x.2)=[] by simp[hp],List.append_nil,List.length_append,List.flatMap_append];exact H5.pk [0,2,2,2] 2
  |false=>refine qJ (qF H3 .here rfl omQ rfl ?_);refine qh H3 rfl rfl rfl rfl λv2 h4 H4=>?_;refine jf (H4.sel e_3) (H4.sl .here) omQ omQ rfl λv3 h5 H5=>hj _ _ ⟨qv,v3,rfl,?_⟩;rw[et,List.filter_append,List.filter_append,show[r[i]].filter (λx=>q8 sl x.2)=[] by simp[hp],show[r[i]].filter (λx=>!q8 sl x.2)=[r[i]] by simp[hp],List.append_nil,List.length_append,List.flatMap_append];exact H5.pk [3,0,2,2] 2
 ·obtain rfl:i=r.length:=by omega
  rw[List.take_length]at H;refine jD omQ (qJ ?_);have o1:=H.one e_1;refine qW (qQ ?_);refine qA H e_2 o1 osQ λh2 H2=>qk (qj ?_);have H3:=LimC.I (r:=r.filter λx=>!q8 sl x.2) (sv:=wv) (H2.sub (.cons .here (.cons e_1 .refl)));exact H3.pk [1,0] 1
end
end
section
variable {g h:AH} {L R:List SP}
theorem G3 {R:List SP} {P:SP}:∀{A:List SP} {i:Nat},A[i]? =some P→Sel (A++R) P (A.eraseIdx i++R):=by
 intro A
 induction A with
 |nil=>intro i h;cases h
 |cons x r ih=>
  intro i h;cases i with
  |zero=>cases h;exact .here
  |succ i=>exact .there (ih (by simpa using h))
def JobsC (js:List (List qR)) (v:AV):SP:=.ex λvs:List AV=>.all [.pur (vs.length=js.length),qy 51 1 js.length v vs,.all (List.zipWith zf vs js)]
structure qGl where
  rv:AV
  cv:AV
  fe:TypeId
  fv:AV
def Ky (r:Uw) (z:qGl):List AV:=[.int .i64 r.thread,.int .i64 r.job,.int .i64 r.try_,.bool r.sweep,.int .i64 r.kind,.int .i64 r.err,.int .u64 r.begin_,.int .u64 r.stamp,.int .i64 r.born,.int .i64 r.ended,z.rv,z.cv,z.fv,.str r.slate]
def O5 (r:Uw) (z:qGl):List SP:=[qy 164 2 r.reads.length z.rv (r.reads.flatMap jP),qy 164 2 r.cells.length z.cv (r.cells.flatMap jP),qy z.fe 1 r.frees.length z.fv (r.frees.map (.int .i64))]
def PastC (r:List Uw) (v:AV):SP:=.ex λzs:List (Uw×qGl)=>.all [.pur (zs.map (·.1)=r),qy 171 14 zs.length v (zs.flatMap λz=>Ky z.1 z.2),.all (zs.flatMap λz=>O5 z.1 z.2)]
def Q9 (r:YR):List AV:=[.int .i64 r.kind,.int .i64 r.err,.str r.slate,.int .u64 r.stamp]
def NowC (x:Option jG) (v:AV):SP:=match x with
 |none=>.pur (v=.nilp)
 |some x=>.ex λa:Nat=>.all [.pur (v=.ptr a 0),AttC a x]
structure MS where
  jv:AV
  gv:AV
  nv:AV
  pv:AV
  rv:AV
  lb:Nat
  sv:AV
def ym (t:qo) (q:MS):List AV:=[.int .i64 t.me,.int .i64 t.set.words,.int .i64 t.set.stripes,.int .i64 t.set.wide,.int .i64 t.set.threads,.int .u64 t.set.start,.int .i64 t.set.spins,.int .i64 t.set.writes,.int .i64 t.set.fuel,
 q.jv,.int .i64 t.job,.int .i64 t.state,.bool t.sweep,q.gv,.int .i64 t.tries,.int .i64 t.conf,q.nv,.int .i64 t.born,.bool t.alarm,q.pv,q.rv,.ptr q.lb 0,q.sv,.int .i64 t.by_,.int .u64 t.since,.bool t.yielding,.int .i64 t.pauses]
abbrev GG (b:Nat) (t:qo) (q:MS) (R:List SP):List SP :=
 qw b (ym t q)::JobsC t.jobs q.jv::qy 201 2 t.giving.length q.gv (t.giving.flatMap jP)::NowC t.now q.nv::PastC t.past q.pv::qy 53 4 t.results.length q.rv (t.results.flatMap Q9)::LimC q.lb t.rests::qy 22 1 t.slots.length q.sv (t.slots.map (.int .u64))::R
def ThdC (b:Nat) (t:qo):SP:=.ex λq:MS=>.all (GG b t q [])
section
variable {n b:Nat} {t:qo} {q:MS}
theorem ThdC.E (H:HS g h (ThdC b t::R)):∃q,HS g h (GG b t q R):=by obtain⟨q,H⟩:=H.exE;exact⟨q,H.allE⟩
theorem ThdC.I (H:HS g h (GG b t q R)):HS g h (ThdC b t::R):=HS.exI q (HS.allI H)
theorem NowC.E {x:jG} {v:AV} (H:HS g h (NowC (some x) v::R)):∃a,v=.ptr a 0∧HS g h (AttC a x::R):=by obtain⟨a,H⟩:=(show HS g h (.ex (λa:Nat=>SP.all [.pur (v=.ptr a 0),AttC a x])::R)from H).exE;have H:=H.allE.purE;exact⟨a,H.1,H.2⟩
theorem NowC.I {x:jG} {a:Nat} (H:HS g h (AttC a x::R)):HS g h (NowC (some x) (.ptr a 0)::R) :=
 show HS g h (.ex (λa':Nat=>SP.all [.pur (AV.ptr a 0=.ptr a' 0),AttC a' x])::R)from HS.exI a (HS.allI (HS.purI rfl H))
theorem JobsC.E {js:List (List qR)} {v:AV} (H:HS g h (JobsC js v::R)):∃vs:List AV,vs.length=js.length∧HS g h (qy 51 1 js.length v vs:: .all (List.zipWith zf vs js)::R):=by obtain⟨vs,H⟩:=H.exE;exact⟨vs,H.allE.purE⟩
theorem JobsC.I {js:List (List qR)} {v:AV} {vs:List AV} (hl:vs.length=js.length) (H:HS g h (qy 51 1 js.length v vs:: .all (List.zipWith zf vs js)::R)):HS g h (JobsC js v::R) :=
 HS.exI vs (HS.allI (HS.purI hl H))
theorem qVN {A R:List SP} {P:SP}:Sel (A++P::R) P (A++R):=by
 induction A with
 |nil=>exact .here
 |cons x r ih=>exact .there ih
theorem Jj (hn:11≤n) (B:ThrB t) (hr:t.giving.length≤1000000) (H:HS g h (ThdC b t::R)):t_w n 70 [.ptr b 0] h λ_ h'=>HS g h' (ThdC b (zV t)::R):=by
 refine t_e1 rfl omQ λk hk=>?_;unfold S70;try simp only[iZ]
 obtain⟨q,H0⟩:=ThdC.E H;refine qW (qQ (qA H0 .here ⟨rfl,rfl⟩ (by simp[ym]) λh1 H1=>?_));refine qW (qQ (qA H1 .here ⟨rfl,rfl⟩ (by simp[ym]) λh2 H2=>?_))
 let T:qo:={ t with born:=0,alarm:=false }
 refine ji [] (λs h'=>∃(x:jG) (a:Nat),s=(.ptr b 0,())∧zV t={ T with state:=1,now:=some x }∧HS g h' (GG b { T with now:=some x } { q with nv:=.ptr a 0 } R)) (λj hj=>?_) ?_
 rotate_left
 ·rintro _ h3 ⟨x,a,rfl,e,H3⟩;refine qW (qQ (qA H3 .here ⟨rfl,rfl⟩ (by simp[ym]) λh4 H4=>qk (qj ?_)));rw[e];exact ThdC.I H4
 have hjb:=B.job;obtain⟨vs,hvl,H3⟩:=JobsC.E (H2.sel e_1);refine qW (qQ (qX H2 .here rfl ?_));refine qW (qQ (qX H2 .here rfl ?_));refine qm H3 .here ?_;by_cases c:t.job=(t.jobs.length:Int)
 ·rw[show zV t={ t with born:=0,alarm:=false,state:=6,now:=none }from iJ c];refine qg c (qZ ?_);refine qW (qQ ?_);refine qA H2 .here ⟨rfl,rfl⟩ (by simp[ym]) λh4 H4=>?_;refine qW (qQ ?_);refine qA H4 .here ⟨rfl,rfl⟩ (by simp[ym]) λh5 H5=>qj<|ThdC.I (q:={ q with nv:=.nilp }) ?_;have H6:=(HS.purI (φ:=AV.nilp=.nilp) rfl H5);exact H6.pk [1,1,1,0] 1
 ·refine qK c (qJ ?_);by_cases hsw:t.sweep=true
  ·refine qW (qQ (qn (qX H2 .here (x:=.bool true) (by rw[← hsw];rfl) ?_)));refine qZ (qW (qQ (qn (qX H2 .here rfl ?_))));refine qm H2 e_2<|jM (λc s h'=>∃(i:Nat) (av:AV),s=(.int .i64 (i:Int),.int .i64 (t.giving.length:Int),q.gv,av,.ptr b 0,())∧i≤t.giving.length∧c=t.giving.length-i∧HS g h' (qy 3 1 i av (((t.giving.take i).map (·.1)).map (.int .i64))::GG b T q R))
    ?_ omQ ⟨0,.nils,rfl,Nat.zero_le _,rfl,H2.nils⟩
   rintro c ih s h3 hih ⟨i,av,rfl,hi,rfl,H⟩;by_cases hlt:i<t.giving.length
   ·refine jT omQ (qZ ?_);refine zd (H.sl e_3) hlt omQ (vI (enc:=jP) (λ_=>rfl) (iW hlt))<|qP H rfl λb2 h4 H4=>?_;refine qf H4 .here rfl (by simp) rfl λh5 H5=>?_;refine qQ (qX H5 .here rfl ?_);refine qh H5 rfl rfl rfl rfl λv2 h6 H6=>?_;refine jf (H6.sel e_2) (H6.sl .here) omQ omQ rfl λv3 h7 H7=>?_;refine qc omQ<|hih (t.giving.length-(i+1)) _ _ omQ ⟨i+1,v3,rfl,by omega,rfl,?_⟩;have et:((t.giving.take (i+1)).map (·.1)).map (AV.int .i64)=((t.giving.take i).map (·.1)).map (AV.int .i64)++[.int .i64 t.giving[i].1]:=by rw[List.take_add_one,iW hlt,List.map_append,List.map_append];rfl
    rw[et];exact H7.pk [0] 2
   ·obtain rfl:i=t.giving.length:=by omega
    refine jD omQ (qJ ?_);rw[List.take_length]at H;refine qW (qQ (qX H e_1 rfl ?_));refine qW (qQ (qF H e_1 rfl (by simp[ym]) rfl ?_));refine qG (qWF (bs:=t.giving.map (·.1)) omQ B.set.start.1 (by rw[List.length_map];omega) H (by rw[List.length_map];exact .here)) ?_;rintro _ h4 ⟨a,rfl,H4⟩;refine qW (qQ ?_);refine qA H4 e_2 ⟨rfl,rfl⟩ (by simp[ym]) λh5 H5=>?_;refine hj _ _ ⟨yr t.me t.set (t.giving.map (·.1)),a,rfl,by unfold zV;rw[iQ c,iJ hsw],?_⟩;have H6:=NowC.I (H5.sel (P:=AttC a (yr t.me t.set (t.giving.map (·.1)))) e_1);exact H6.pk [1,2,2,0] 2
  ·have hsf:t.sweep=false:=by simpa using hsw
   refine qW (qQ (qn (qX H2 .here (x:=.bool false) (by rw[← hsf];rfl) ?_)));refine qJ ?_;have hlt:t.job.toNat<t.jobs.length:=by omega
   have hje:t.jobs[t.job.toNat]? =some t.jobs[t.job.toNat]:=iW hlt;have hchk:=B.jobs _ (List.getElem_mem hlt);have hvlt:t.job.toNat<vs.length:=by omega
   refine qW (qQ (qX H2 .here rfl ?_));refine qW (qQ (qF H2 .here rfl (by simp[ym]) rfl ?_));refine qW (qQ (qX H2 .here rfl ?_));refine qW (qQ (qX H2 .here (x:=.int .i64 ((t.job.toNat:Nat):Int)) (by show some (AV.int .i64 t.job)=_;congr;omega) ?_));refine zd (l:=[vs[t.job.toNat]]) (H3.sl .here) hlt omQ (by rw[Nat.mul_one,List.drop_eq_getElem_cons hvlt];rfl) ?_;have H4:=(H3.sel (P:=.all (List.zipWith zf vs t.jobs)) e_1).allE;have hz:(List.zipWith zf vs t.jobs)[t.job.toNat]? =some (zf vs[t.job.toNat] t.jobs[t.job.toNat]):=by rw[List.getElem?_zipWith,iW hvlt,hje]
   refine qG (qvb omQ B.set.start.1 hchk.1 (H4.rd (G3 hz)) H4) ?_;rintro _ h5 ⟨a,rfl,H5⟩;have H6:HS g h5 (.all (List.zipWith zf vs t.jobs)::AttC a (yY t.me t.set t.jobs[t.job.toNat])::qy 51 1 t.jobs.length q.jv vs::qw b (ym T q)::_):=HS.allI (HS.unsel qVN H5);have H7:=JobsC.I hvl (H6.sel (P:=qy 51 1 t.jobs.length q.jv vs) e_2);refine qW (qQ ?_);refine qA H7 e_2 ⟨rfl,rfl⟩ (by simp[ym]) λh8 H8=>?_;refine hj _ _ ⟨yY t.me t.set t.jobs[t.job.toNat],a,rfl,by unfold zV;rw[iQ c,iQ hsw,hje];rfl,?_⟩;have H9:=NowC.I (H8.sel (P:=AttC a (yY t.me t.set t.jobs[t.job.toNat])) e_2);exact H9.pk [1,1,1,0] 1
theorem km (hn:12≤n) (B:ThrB { t with job:=t.job+1,sweep:=false,giving:=[],tries:=0,conf:=0 }) (H:HS g h (ThdC b t::R)):t_w n 67 [.ptr b 0] h λ_ h'=>HS g h' (ThdC b (jc t)::R):=by
 refine t_e1 rfl omQ λk hk=>?_;unfold S67;try simp only[iZ]
 obtain⟨q,H0⟩:=ThdC.E H;have hj:=B.job;have hjl:=B.jl;dsimp only at hj hjl;refine qW (qQ (qX H0 .here rfl ?_));refine qc omQ<|qW (qQ ?_);refine qA H0 .here ⟨rfl,rfl⟩ (by simp[ym]) λh1 H1=>?_;refine qL rfl<|qW (qQ ?_);refine qf H1 .here rfl (by simp[ym]) rfl λh2 H2=>?_;have H3:=ThdC.I (b:=b) (t:={ t with job:=t.job+1,sweep:=false,giving:=[],tries:=0,conf:=0 }) (q:={ q with gv:=.nils }) ((H2.nils (e:=201) (sz:=2)).sub (.cons e_1 (.cons e_1 (.cons .here (.drop .refl)))));exact qG (Jj omQ B (Nat.zero_le _) H3) λ_ h4 H4=>qj H4
theorem NF (hn:1≤n) (H:HS g h L) (s:Sel L (qw b (ym t q)) R):t_w n 34 [.ptr b 0] h λr h'=>r=.int .i64 t.state∧h'=h:=by
 refine t_e1 rfl omQ λk hk=>?_;unfold S34;try simp only[iZ]
 refine qW (qQ (qX H s rfl ?_));exact qj ⟨rfl,rfl⟩
end
end
section
variable {g h:AH} {L R:List SP}
theorem qvF {i:Int} (h:0≤i):min (2*vp i) 8=vp (i+1):=by
 unfold vp
 repeat' split
 all_goals omega
theorem qvn {c:Int}:vp (min c 8)=vp c:=by
 unfold vp
 repeat' split
 all_goals omega
section
variable {n b:Nat} {t:qo} {q:MS}
theorem ThrB.next (B:ThrB t) (hj:t.job<t.jobs.length):ThrB { t with job:=t.job+1,sweep:=false,giving:=[],tries:=0,conf:=0 }:=by have h1:=B.job;have h2:=B.rests;exact⟨B.set,B.me,B.jobs,B.jl,by show 0≤t.job+1∧t.job+1≤(t.jobs.length:Int);omega,by show t.rests.length+0≤9000*t.results.length;omega,B.slots,by show(0:Int)≤0∧(0:Int)≤(t.past.length:Int);omega,by show(0:Int)≤0∧(0:Int)≤0;omega,λ_=>rfl⟩
theorem qZE {draw:Int} (hn:12≤n) (B:ThrB t) (hg:t.giving.length≤1000000) (hd:0≤draw∧draw<256) (H:HS g h (ThdC b t::R)):t_w n 120 [.ptr b 0,.int .u8 draw] h λ_ h'=>HS g h' (ThdC b (xl t draw)::R):=by
 refine t_e2 rfl omQ λk hk=>?_;unfold S120;try simp only[iZ]
 obtain⟨q,H0⟩:=ThdC.E H;have hc:=B.conf;refine qW (qQ (qn (qX H0 .here rfl ?_)));refine ju<|jM (λc s h'=>∃i:Nat,s=(.int .i64 (i:Int),.int .i64 (min t.conf 8),.int .i64 (vp i),.int .u8 draw,.ptr b 0,())∧(i:Int)≤min t.conf 8∧c=(min t.conf 8).toNat-i∧h'=h)
  ?_ omQ ⟨0,rfl,by omega,rfl,rfl⟩
 rintro c ih s _ hih ⟨i,rfl,hi,rfl,rfl⟩;by_cases hlt:(i:Int)<min t.conf 8
 ·have hb:=ZF i;refine jT hlt (qZ ?_);refine UN omQ (ju (qc omQ ?_));refine hih ((min t.conf 8).toNat-(i+1)) _ _ omQ ⟨i+1,?_,by omega,rfl,rfl⟩;rw[show((2:Nat):Int)=2 from rfl,show((8:Nat):Int)=8 from rfl,qvF omQ]
  try rfl
 ·refine jD hlt (qJ ?_);have hie:(i:Int)=min t.conf 8:=by omega
  rw[hie,qvn];have hb:=ZF t.conf;refine xU omQ (qc omQ (JT omQ ?_));have em:draw.tmod (vp t.conf+((1:Nat):Int))=draw%(vp t.conf+1):=by rw[Int.tmod_eq_emod_of_nonneg hd.1];rfl
  rw[em];refine qW (qQ ?_);refine qA H0 .here ⟨rfl,rfl⟩ (by simp[ym]) λh1 H1=>?_;refine qW (qQ ?_);refine qA H1 .here ⟨rfl,rfl⟩ (by simp[ym]) λh2 H2=>?_;refine qW (qQ (qX H2 .here rfl ?_));unfold xl;have H3:HS g h2 (ThdC b { t with pauses:=draw%(vp t.conf+1),state:=3 }::R):=ThdC.I H2;by_cases c0:draw%(vp t.conf+1)=0
  ·rw[iJ c0];refine qg c0 (qZ ?_);rw[c0]at H3;exact qG (Jj (t:={ t with pauses:=0,state:=3 }) omQ ⟨B.set,B.me,B.jobs,B.jl,B.job,B.rests,B.slots,B.tries,B.conf,B.giv⟩ hg H3) λ_ h4 H4=>qk (qj H4)
  ·rw[iQ c0];exact qK c0 (qJ (qk (qj H3)))
theorem qYp (hn:12≤n) (O:ya t) (H:HS g h (ThdC b t::R)):t_w n 36 [.ptr b 0] h λ_ h'=>HS g h' (ThdC b (vV t)::R):=by
 refine t_e1 rfl omQ λk hk=>?_;unfold S36;try simp only[iZ]
 obtain⟨q,H0⟩:=ThdC.E H;unfold vV;refine qW (qQ (qX H0 .here rfl ?_));by_cases c:t.state=3
 ·rw[iJ c];have B:=O.b;have hp:=O.pau c;have hl:=B.len (by have:=O.res;split at this<;>omega);refine q9 c (qJ ?_);refine qW (qQ (qX H0 .here rfl ?_));refine zJ omQ<|qW (qQ ?_);refine qA H0 .here ⟨rfl,rfl⟩ (by simp[ym]) λh1 H1=>?_;refine qW (qQ (qX H1 .here rfl ?_));have H3:HS g h1 (ThdC b { t with pauses:=t.pauses-1 }::R):=ThdC.I H1;by_cases c0:t.pauses-1=0
  ·rw[iJ c0];refine qg c0 (qZ ?_);rw[c0]at H3;exact qG (Jj (t:={ t with pauses:=0 }) omQ ⟨B.set,B.me,B.jobs,B.jl,B.job,B.rests,B.slots,B.tries,B.conf,B.giv⟩ (by show t.giving.length≤_;omega) H3) λ_ h4 H4=>qj H4
  ·rw[iQ c0];exact qK c0 (qJ (qj H3))
 ·rw[iQ c];exact jX c (qZ (qj H))
theorem qKf (hn:13≤n) (C:kR t) (hs:t.slots.length≤5) (hsw:t.sweep=false) (hr:t.rests.length≤1000000) (H:HS g h (ThdC b t::R)):t_w n 128 [.ptr b 0] h λ_ h'=>HS g h' (ThdC b (xT t)::R):=by
 refine t_e1 rfl omQ λk hk=>?_;unfold S128;try simp only[iZ]
 obtain⟨q,H0⟩:=ThdC.E H;unfold xT;refine ji [] (λs h'=>s=(.ptr b 0,())∧HS g h' (ThdC b (if(t.slots.length:Int)=t.me then{ t with slots:=t.slots++[0] }else t)::R)) (λj hj=>?_) ?_
 ·refine qW (qQ (qX H0 .here rfl ?_));refine qm H0 e_7<|qW (qQ (qX H0 .here rfl ?_));by_cases c:(t.slots.length:Int)=t.me
  ·refine qg c (qZ ?_);refine qW (qQ (qX H0 .here rfl ?_));refine qh H0 rfl rfl rfl rfl λv2 h2 H2=>?_;refine jf (H2.sel e_8) (H2.sl .here) omQ omQ rfl λv3 h3 H3=>?_;have o3:=H3.one .here;refine qW (qQ ?_);refine qA H3 e_2 o3 (by simp[ym]) λh4 H4=>?_;refine hj _ _ ⟨rfl,?_⟩;rw[iJ c];refine ThdC.I (q:={ q with sv:=v3 }) ?_;have e:(t.slots++[(0:Int)]).length=t.slots.length+1:=by simp
   unfold GG;rw[e,List.map_append];exact H4.pk [0,2,2,2,2,2,2,0] 1
  ·exact qK c (qJ (hj _ _ ⟨rfl,by rw[iQ c];exact H⟩))
 ·rintro _ h1 ⟨rfl,H⟩;have key:∀u:qo,u=(if(t.slots.length:Int)=t.me then{ t with slots:=t.slots++[0] }else t)→kR u∧u.sweep=false∧u.rests=t.rests∧u.results=t.results∧u.slots.length≤6:=by
   rintro u rfl
   split
   ·have e:(t.slots++[(0:Int)]).length=t.slots.length+1:=by simp
    exact⟨C.go rfl rfl rfl rfl rfl rfl rfl (by show(t.slots++[(0:Int)]).length≤6;omega) C.tries C.conf rfl rfl,hsw,rfl,rfl,by show(t.slots++[(0:Int)]).length≤6;omega⟩
   ·exact⟨C,hsw,rfl,rfl,by omega⟩
  have key:=key _ rfl;generalize(if(t.slots.length:Int)=t.me then{ t with slots:=t.slots++[0] }else t)=u at*;obtain⟨CU,hus,hur,hue,hul⟩:=key;obtain⟨q,H0⟩:=ThdC.E H;refine qW (qQ (qX H0 .here rfl ?_));refine qm H0 e_7<|qW (qQ (qn (qn (qX H0 .here rfl ?_))));unfold xJ;by_cases c:(u.slots.length:Int)<u.set.threads
  ·rw[iJ c];exact jT c (qZ (qk (qj H)))
  ·rw[iQ c];refine jD c (qJ ?_);refine qW (qQ (qX H0 .here rfl ?_));refine qW (qQ (qX H0 .here rfl ?_));have H1:=H0.sel (P:=LimC q.lb u.rests) e_6;refine qG (qv8 (sl:=u.slots) omQ omQ (by rw[hur];exact hr) H1 (H1.drop.rd e_6)) ?_;intro v h2 H2;have hre:=CU.rests;have hf:=qJi (λr:GN=>q8 u.slots r.2) u.rests;refine qm H2 .here ?_;by_cases c0:(u.rests.filter λr=>q8 u.slots r.2)=[]
   ·rw[iJ c0];refine qg (by rw[c0];rfl) (qZ ?_);have H3:=ThdC.I (b:=b) (t:={ u with rests:=u.rests.filter λr=>!q8 u.slots r.2 }) (q:=q) (H2.sub (.cons e_2 (.cons e_2 (.cons e_2 (.cons e_2 (.cons e_2 (.cons e_2 (.cons e_1 (.cons e_1 (.drop .refl))))))))));have B2:ThrB { u with rests:=u.rests.filter λr=>!q8 u.slots r.2 }:=⟨CU.set,CU.me,CU.jobs,CU.jl,CU.job,by show(u.rests.filter λr=>!q8 u.slots r.2).length+u.giving.length≤9000*u.results.length;omega,hul,CU.tries,CU.conf,CU.giv⟩;exact qG (km omQ (B2.next CU.lt) H3) λ_ h4 H4=>qk (qj H4)
   ·rw[iQ c0];refine qK (λh0=>c0 (iA omQ)) (qJ ?_);have o2:=H2.one .here;refine qL (by simp only[yM,o2.1];rfl)<|qW (qQ ?_);refine qf H2 e_2 rfl (by simp[ym]) (by simp only[qp,AV.cells,List.all_cons,o2.2];rfl) λh3 H3=>?_;have H4:=ThdC.I (b:=b) (t:={ u with rests:=u.rests.filter (λr=>!q8 u.slots r.2),sweep:=true,giving:=u.rests.filter (λr=>q8 u.slots r.2),tries:=0,conf:=0 }) (q:={ q with gv:=v }) (H3.sub (.cons .here (.cons e_2 (.cons .here (.cons e_2 (.cons e_2 (.cons e_2 (.cons .here (.cons e_1 (.drop .refl))))))))));refine qG (Jj (t:={ u with rests:=u.rests.filter (λr=>!q8 u.slots r.2),sweep:=true,giving:=u.rests.filter (λr=>q8 u.slots r.2),tries:=0,conf:=0 }) omQ ⟨CU.set,CU.me,CU.jobs,CU.jl,CU.job,?_,hul,by show(0:Int)≤0∧(0:Int)≤(List.length _:Int);omega,by show(0:Int)≤0∧(0:Int)≤0;decide,nofun⟩ (by show(u.rests.filter λr=>q8 u.slots r.2).length≤1000000;rw[hur]at hf;rw[hur];omega) H4) λ_ h4 H4=>qk (qj H4);show(u.rests.filter λr=>!q8 u.slots r.2).length+(u.rests.filter λr=>q8 u.slots r.2).length≤9000*u.results.length;omega
end
end
section
variable {g h:AH} {L R:List SP}
section
variable {n a b:Nat} {t:qo} {q:MS} {x:jG}
abbrev thrV (a b:Nat) (t:qo) (x:jG) (q:MS) (R:List SP):List SP :=
 AttC a x::qw b (ym t { q with nv:=.ptr a 0 })::JobsC t.jobs q.jv::qy 201 2 t.giving.length q.gv (t.giving.flatMap jP)::PastC t.past q.pv::qy 53 4 t.results.length q.rv (t.results.flatMap Q9)::LimC q.lb t.rests::qy 22 1 t.slots.length q.sv (t.slots.map (.int .u64))::R
theorem thrV.I (hx:t.now=some x) (H:HS g h (thrV a b t x q R)):HS g h (ThdC b t::R):=by refine ThdC.I (q:={ q with nv:=.ptr a 0 }) ?_;have H1:=NowC.I H;unfold GG;rw[hx];exact H1.pk [1,1,1,0] 0
theorem ThdC.V (hx:t.now=some x) (H:HS g h (ThdC b t::R)):∃a q,HS g h (thrV a b t x q R):=by
 obtain⟨q,H0⟩:=ThdC.E H;unfold GG at H0;rw[hx]at H0;obtain⟨a,e,H1⟩:=NowC.E (H0.sel e_3);have eq:{ q with nv:=.ptr a 0 }=q:=by rw[← e]
 refine⟨a,q,?_⟩;unfold thrV;rw[eq];exact H1
theorem KI {a:Nat} (hn:1≤n) (H:HS g h L) (s:Sel L (AttC a x) R):t_w n 73 [.ptr a 0] h λr h'=>r=.int .i64 (jS x)∧h'=h:=by obtain⟨q,H1⟩:=AttC.E (H.sel s);exact qVM hn H1 .here
theorem qqn {a:Nat} (hn:1≤n) (H:HS g h L) (s:Sel L (AttC a x) R):t_w n 119 [.ptr a 0] h λr h'=>r=.int .i64 (QP x)∧h'=h:=by obtain⟨q,H1⟩:=AttC.E (H.sel s);exact qyn hn H1 .here
theorem qqh {a:Nat} (hn:1≤n) (H:HS g h L) (s:Sel L (AttC a x) R):t_w n 122 [.ptr a 0] h λr h'=>r=.int .i64 (xp x)∧h'=h:=by obtain⟨q,H1⟩:=AttC.E (H.sel s);exact qgO hn H1 .here
theorem Va {a:Nat} (hn:1≤n) (H:HS g h L) (s:Sel L (AttC a x) R):t_w n 124 [.ptr a 0] h λr h'=>r=.int .u64 x.stamp∧h'=h:=by obtain⟨q,H1⟩:=AttC.E (H.sel s);exact qV6 hn H1 .here
theorem U2 {a:Nat} (hn:1≤n) (H:HS g h L) (s:Sel L (AttC a x) R):t_w n 71 [.ptr a 0] h λr h'=>r=.tup [.int .u64 x.begin_,.bool x.begun]∧h'=h:=by obtain⟨q,H1⟩:=AttC.E (H.sel s);exact qWP hn H1 .here
theorem qv6 {pick:Int} (hn:12≤n) (O:zm x) (H:HS g h (thrV a b t x q R)):t_w n 100 [.ptr b 0,.int .i64 pick] h λr h'=>
  ∃z:qGl,r=.agg (Ky (jb t x pick) z)∧HS g h' (O5 (jb t x pick) z++thrV a b t x q R):=by
 refine t_e2 rfl omQ λk hk=>?_;unfold S100;try simp only[iZ]
 refine qP H rfl λv0 h1 H1=>?_;refine qW (qQ (qX H1 e_2 rfl ?_));refine qG (U2 omQ H1 e_1) ?_;rintro _ _ ⟨rfl,rfl⟩;refine qC rfl (qC rfl ?_);refine qG (KI omQ H1 e_1) ?_;rintro _ _ ⟨rfl,rfl⟩;refine ji [] (λs h'=>s=(.int .i64 (if zh x=true then 2 else jS x),.int .u64 x.begin_,.ptr a 0,.ptr v0 0,.int .i64 pick,.ptr b 0,())∧HS g h' (AttC a x::qw v0 [.int .i64 0,.int .i64 0,.int .i64 0,.bool false,.int .i64 0,.int .i64 0,.int .u64 0,.int .u64 0,.int .i64 0,.int .i64 0,.nils,.nils,.nils,.str []]::qw b (ym t { q with nv:=.ptr a 0 })::(thrV a b t x q R).drop 2)) (λj hj=>?_) ?_
 ·refine qG (XS omQ O.c (H1.sel e_1)) ?_;rintro _ h2 ⟨rfl,H2⟩;cases hw:zh x with
  |true=>exact qZ (hj _ _ ⟨by rw[hw];rfl,H2⟩)
  |false=>exact qJ (hj _ _ ⟨by rw[hw];rfl,H2⟩)
 ·rintro _ h12 ⟨rfl,H12⟩;refine qV ?_
  try dsimp only
  refine qW (qQ (qX H12 e_2 rfl ?_));refine qW (qQ (qX H12 e_2 rfl ?_));refine qW (qQ (qn (qX H12 e_2 rfl ?_)));refine qW (qQ (qn (qX H12 e_2 rfl ?_)));refine qG (qqh omQ H12 .here) ?_;rintro _ _ ⟨rfl,rfl⟩;refine qG (Va omQ H12 .here) ?_;rintro _ _ ⟨rfl,rfl⟩;refine qW (qQ (qX H12 e_2 rfl ?_));refine qG (qWc omQ O H12) λrv h42 H42=>?_;refine qG (qGM omQ O (H42.sel e_1)) λcv h44 H44=>?_;refine qG (NS omQ O (H44.sel e_1)) ?_;rintro fv h46 ⟨fe,H46⟩;refine qG (M9 omQ O (H46.sel e_1)) ?_;rintro _ h48 ⟨rfl,H48⟩;have o1:=H48.one (v:=rv) e_3;have o2:=H48.one (v:=cv) e_2;have o3:=H48.one (v:=fv) e_1;refine qL (by simp only[yM,o1.1,o2.1,o3.1];rfl)<|qf H48 e_4 rfl (by simp) (by simp only[qp,Ky,AV.cells,List.all_cons,o1.2,o2.2,o3.2];rfl) λh50 H50=>?_;refine qd H46 e_5 rfl H48 e_5 rfl (HS.lt H12 e_2)<|qd H44 e_4 rfl H46 e_5 rfl (HS.lt H12 e_2)<|qd H42 e_3 rfl H44 e_4 rfl (HS.lt H12 e_2)<|qd H12 e_2 rfl H42 e_3 rfl (HS.lt H12 e_2)<|qd H12 e_2 rfl H12 e_2 rfl (HS.lt H12 e_2)<|qd H12 e_2 rfl H12 e_2 rfl (HS.lt H12 e_2)<|qd H46 e_5 rfl H48 e_5 rfl (HS.lt H12 e_2)<|qd H44 e_4 rfl H46 e_5 rfl (HS.lt H12 e_2)<|qd H42 e_3 rfl H44 e_4 rfl (HS.lt H12 e_2)<|qd H12 e_2 rfl H42 e_3 rfl (HS.lt H12 e_2)<|qd H12 e_2 rfl H12 e_2 rfl (HS.lt H12 e_2)<|qd H12 e_2 rfl H12 e_2 rfl (HS.lt H12 e_2)<|qd H46 e_5 rfl H48 e_5 rfl (HS.lt H12 e_2)<|qd H44 e_4 rfl H46 e_5 rfl (HS.lt H12 e_2)<|qd H42 e_3 rfl H44 e_4 rfl (HS.lt H12 e_2)<|qd H12 e_2 rfl H42 e_3 rfl (HS.lt H12 e_2)<|qd H12 e_2 rfl H12 e_2 rfl (HS.lt H12 e_2)<|qd H12 e_2 rfl H12 e_2 rfl (HS.lt H12 e_2)<|qd H46 e_5 rfl H48 e_5 rfl (HS.lt H12 e_2)<|qd H44 e_4 rfl H46 e_5 rfl (HS.lt H12 e_2)<|qd H42 e_3 rfl H44 e_4 rfl (HS.lt H12 e_2)<|qd H12 e_2 rfl H42 e_3 rfl (HS.lt H12 e_2)<|qd H12 e_2 rfl H12 e_2 rfl (HS.lt H12 e_2)<|qd H12 e_2 rfl H12 e_2 rfl (HS.lt H12 e_2)<|qd H46 e_5 rfl H48 e_5 rfl (HS.lt H12 e_2)<|qd H44 e_4 rfl H46 e_5 rfl (HS.lt H12 e_2)<|qd H42 e_3 rfl H44 e_4 rfl (HS.lt H12 e_2)<|qd H12 e_2 rfl H42 e_3 rfl (HS.lt H12 e_2)<|qd H12 e_2 rfl H12 e_2 rfl (HS.lt H12 e_2)<|qd H12 e_2 rfl H12 e_2 rfl (HS.lt H12 e_2)<|qk (qF H50 .here rfl omQ rfl ?_);refine qj ⟨⟨rv,cv,fe,fv⟩,rfl,?_⟩;exact H50.pk [4,3,2,1] 1
end
end
section
variable {g h:AH} {L R:List SP}
section
variable {n a b:Nat} {t:qo} {q:MS} {x:jG}
theorem qgf (hn:14≤n) (C:kR t) (hsw:t.sweep=false) (hr:t.rests.length≤1000000) (H:HS g h (ThdC b t::R)):t_w n 127 [.ptr b 0] h λ_ h'=>HS g h' (ThdC b (yj t)::R):=by
 refine t_e1 rfl omQ λk hk=>?_;unfold S127;try simp only[iZ]
 obtain⟨q,H0⟩:=ThdC.E H;unfold yj;refine qW (qQ (qX H0 .here rfl ?_));refine qG (qYI omQ (H0.sel e_6)) ?_;rintro _ _ ⟨rfl,rfl⟩;by_cases c:t.rests=[]
 ·rw[iJ c];refine qg (by rw[c];rfl) (qZ ?_);exact qG (km omQ (C.toThrB.next C.lt) H) λ_ h1 H1=>qj H1
 ·rw[iQ c];refine qK (λh0=>c (iA omQ)) (qJ ?_);refine qW (qQ ?_);refine qA H0 .here ⟨rfl,rfl⟩ (by simp[ym]) λh1 H1=>?_;refine qW (qQ ?_);refine qA H1 .here ⟨rfl,rfl⟩ (by simp[ym]) λh2 H2=>?_;have H3:=ThdC.I (b:=b) (t:={ t with state:=5,slots:=[] }) (q:={ q with sv:=.nils }) ((H2.nils (e:=22) (sz:=1)).sub (.cons e_1 (.cons e_1 (.cons e_1 (.cons e_1 (.cons e_1 (.cons e_1 (.cons e_1 (.cons .here (.drop .refl))))))))));refine qG (qKf (t:={ t with state:=5,slots:=[] }) omQ (C.go rfl rfl rfl rfl rfl rfl rfl (Nat.zero_le _) C.tries C.conf rfl rfl) (Nat.zero_le _) hsw hr H3) λ_ h4 H4=>qj H4
theorem Mr {w:Int} (hn:14≤n) (C:kR t) (hsw:t.sweep=false) (hs:t.slots.length≤4) (hr:t.rests.length≤1000000) (H:HS g h (ThdC b t::R)):t_w n 76 [.ptr b 0,.int .u64 w] h λ_ h'=>HS g h' (ThdC b (xT { t with slots:=t.slots++[w] })::R):=by
 refine t_e2 rfl omQ λk hk=>?_;unfold S76;try simp only[iZ]
 obtain⟨q,H0⟩:=ThdC.E H;refine qW (qQ (qX H0 .here rfl ?_));refine qh H0 rfl rfl rfl rfl λv2 h2 H2=>?_;refine jf (H2.sel e_8) (H2.sl .here) omQ omQ rfl λv3 h3 H3=>?_;have o3:=H3.one .here;refine qW (qQ ?_);refine qA H3 e_2 o3 (by simp[ym]) λh4 H4=>?_;have e:(t.slots++[w]).length=t.slots.length+1:=by simp
 have H5:HS g h4 (ThdC b { t with slots:=t.slots++[w] }::R):=by refine ThdC.I (q:={ q with sv:=v3 }) ?_;unfold GG;rw[e,List.map_append];exact H4.pk [0,2,2,2,2,2,2,0] 1
 exact qG (qKf (t:={ t with slots:=t.slots++[w] }) omQ (C.go rfl rfl rfl rfl rfl rfl rfl (by show(t.slots++[w]).length≤6;omega) C.tries C.conf rfl rfl) (by show(t.slots++[w]).length≤5;omega) hsw hr H5) λ_ h4 H4=>qj H4
theorem qzt {fin:Int} (hn:14≤n) (C:kR t) (hr:t.rests.length+t.giving.length≤1000000) (H:HS g h (ThdC b t::R)):t_w n 121 [.ptr b 0,.int .i64 fin] h λ_ h'=>HS g h' (ThdC b (vZ t fin)::R):=by
 refine t_e2 rfl omQ λk hk=>?_;unfold S121;try simp only[iZ]
 obtain⟨q,H0⟩:=ThdC.E H;unfold vZ;refine ji [] (λs h'=>s=(.ptr b 0,())∧HS g h' (ThdC b (if fin=4 then{ t with rests:=t.rests++t.giving }else t)::R)) (λj hj=>?_) ?_
 ·by_cases c:fin=4
  ·refine qg c (qZ ?_);refine qW (qQ (qn (qX H0 .here rfl ?_)));refine qm H0 e_2<|jM (λc s h'=>∃i:Nat,s=(.int .i64 (i:Int),.int .i64 (t.giving.length:Int),q.gv,.ptr b 0,())∧i≤t.giving.length∧c=t.giving.length-i∧HS g h' (GG b { t with rests:=t.rests++t.giving.take i } q R))
    ?_ omQ ⟨0,rfl,Nat.zero_le _,rfl,by rw[List.take_zero,List.append_nil];exact H0⟩
   rintro c ih s h3 hih ⟨i,rfl,hi,rfl,H⟩;by_cases hlt:i<t.giving.length
   ·refine jT omQ (qZ ?_);refine zd (H.sl e_2) hlt omQ (vI (enc:=jP) (λ_=>rfl) (iW hlt))<|qP H rfl λb2 h4 H4=>?_;refine qf H4 .here rfl (by simp) rfl λh5 H5=>?_;refine qW (qQ (qX H5 e_1 rfl ?_));refine qQ (qX H5 .here rfl ?_);refine qQ (qX H5 .here rfl ?_);refine qh H5 rfl rfl rfl rfl λv2 h6 H6=>?_;have H7:=H6.sel (P:=LimC q.lb (t.rests++t.giving.take i)) e_8;refine qG (Mu (bs:=[t.giving[i].1]) omQ (by rw[List.length_append,List.length_take];show _+1≤_;omega) H7 (H7.drop.rd .here)) λ_ h8 H8=>?_;refine qc omQ<|hih (t.giving.length-(i+1)) _ _ omQ ⟨i+1,rfl,by omega,rfl,?_⟩;have et:t.rests++t.giving.take (i+1)=(t.rests++t.giving.take i)++[(t.giving[i].1,t.giving[i].2)]:=by rw[List.take_add_one,iW hlt,List.append_assoc];rfl
    unfold GG;rw[et];exact H8.pk [3,3,3,3,3,3,0,2] 2
   ·obtain rfl:i=t.giving.length:=by omega
    refine jD omQ (qJ ?_);rw[List.take_length]at H;exact hj _ _ ⟨rfl,by rw[iJ c];exact ThdC.I H⟩
  ·exact qK c (qJ (hj _ _ ⟨rfl,by rw[iQ c];exact H⟩))
 ·rintro _ h1 ⟨rfl,H⟩;refine qG (km omQ ?_ H) λ_ h4 H4=>qk (qj H4);have h1:=C.job;have h2:=C.rests;have h3:=C.lt
  split
  ·exact⟨C.set,C.me,C.jobs,C.jl,by show 0≤t.job+1∧t.job+1≤(t.jobs.length:Int);omega,by rw[List.length_append];omega,C.slots,by show(0:Int)≤0∧(0:Int)≤(t.past.length:Int);omega,by show(0:Int)≤0∧(0:Int)≤0;omega,λ_=>rfl⟩
  ·exact C.toThrB.next C.lt
theorem qq7 {an:AnM} {draw:Int} (hn:13≤n) (B:ThrB t) (hg:t.giving.length≤1000000) (hd:0≤draw∧draw<256) (H:HS g h (ThdC b t::R)):t_w n 75 [.ptr b 0,.agg (xw an),.int .u8 draw] h λ_ h'=>
  HS g h' (ThdC b (if an.err=0∧an.word≠0∧(t.yielding=false∨an.word=t.since)then{ t with yielding:=true,since:=an.word }else xl t draw)::R):=by
 refine t_e3 rfl omQ λk hk=>?_;unfold S75;try simp only[iZ]
 obtain⟨q,H0⟩:=ThdC.E H;refine qP H0 rfl λv0 h1 H1=>?_;have no:∀c:¬(an.err=0∧an.word≠0∧(t.yielding=false∨an.word=t.since)),wp (zz (callT tab qx k) (.fn 120 [] []) [.ptr b 0,.int .u8 draw] h1 λ_ h'=>some (.tup [],h')) λ_ h'=>
  HS g h' (ThdC b (if an.err=0∧an.word≠0∧(t.yielding=false∨an.word=t.since)then{ t with yielding:=true,since:=an.word }else xl t draw)::R):=λc=>by
  rw[iQ c];exact qG (qZE omQ B hg hd (ThdC.I H1.drop)) λ_ h2 H2=>qj H2
 refine qQ (qX H1 .here rfl ?_);by_cases c1:an.err=0
 ·refine qg c1<|qV ?_
  try dsimp only
  refine qa (qQ (qX H1 .here rfl ?_));by_cases c2:an.word=0
  ·refine q9 c2 (qD ?_);refine qV ?_
   try dsimp only
   refine qT (qV ?_)
   try dsimp only
   refine zK (qV ?_)
   try dsimp only
   refine qT (qE (qJ ?_));exact no λh=>h.2.1 c2
  ·refine jX c2 (qD ?_);refine qV ?_
   try dsimp only
   refine qa ?_
   have yes:∀c:(t.yielding=false∨an.word=t.since),wp (qt (.ptr v0 0) 0 λv22=>jN h1 v22 λv23=>xm (.ptr b 0) λv24=>qt v24 25 λv25=>jd h1 v25 (.bool true) 1 λh26=>xm (.ptr b 0) λv27=>qt v27 24 λv28=>
     jd h26 v28 v23 1 λh29=>Jz v22 none v23 h1 h26 h1.nx (some (.tup [],h29))) λ_ h'=>
      HS g h' (ThdC b (if an.err=0∧an.word≠0∧(t.yielding=false∨an.word=t.since)then{ t with yielding:=true,since:=an.word }else xl t draw)::R):=λc=>by
    rw[iJ ⟨c1,c2,c⟩];refine qn (qX H1 .here rfl ?_);refine qW (qQ ?_);refine qA H1 e_1 ⟨rfl,rfl⟩ (by simp[ym]) λh2 H2=>?_;refine qW (qQ ?_);refine qA H2 .here ⟨rfl,rfl⟩ (by simp[ym]) λh3 H3=>?_;refine qd H1 .here rfl H2 e_1 rfl (HS.lt H1 .here)<|qj (ThdC.I (H3.pk [0] 1))
   by_cases c3:t.yielding=false
   ·refine qW (qQ (qX H1 e_1 (x:=.bool false) (by rw[← c3];rfl) ?_));refine jA (qV ?_)
    try dsimp only
    refine qs (qV ?_)
    try dsimp only
    refine qa (qD ?_)
    try dsimp only
    refine qD (qZ ?_);refine qV<|yes (.inl c3)
   ·have c3':t.yielding=true:=by simpa using c3
    refine qW (qQ (qX H1 e_1 (x:=.bool true) (by rw[← c3'];rfl) ?_));refine jk (qV ?_)
    try dsimp only
    refine qe (qQ (qX H1 .here rfl ?_));refine qW (qQ (qX H1 e_1 rfl ?_));by_cases c4:an.word=t.since
    ·refine qg c4<|qV ?_
     try dsimp only
     refine qa (qE ?_)
     try dsimp only
     refine qD (qZ ?_);refine qV<|yes (.inr c4)
    ·refine qK c4<|qV ?_
     try dsimp only
     refine qa (qE ?_)
     try dsimp only
     refine qD (qJ ?_);exact no λh=>by rcases h.2.2 with h |h;exact c3 h;exact c4 h
 ·refine qK c1<|qV ?_
  try dsimp only
  refine qT (qE (qV ?_))
  try dsimp only
  refine qT (qV ?_)
  try dsimp only
  refine zK (qV ?_)
  try dsimp only
  refine qT (qE (qJ ?_));exact no λh=>c1 h.1
theorem PastC.E {r:List Uw} {v:AV} (H:HS g h (PastC r v::R)):∃zs:List (Uw×qGl),zs.map (·.1)=r∧HS g h (qy 171 14 zs.length v (zs.flatMap λz=>Ky z.1 z.2):: .all (zs.flatMap λz=>O5 z.1 z.2)::R):=by obtain⟨zs,H⟩:=H.exE;exact⟨zs,H.allE.purE⟩
theorem PastC.I {r:List Uw} {v:AV} {zs:List (Uw×qGl)} (hl:zs.map (·.1)=r) (H:HS g h (qy 171 14 zs.length v (zs.flatMap λz=>Ky z.1 z.2):: .all (zs.flatMap λz=>O5 z.1 z.2)::R)):HS g h (PastC r v::R) :=
 HS.exI zs (HS.allI (HS.purI hl H))
theorem KX {A B:List SP} (H:HS g h (.all A::(B++R))):HS g h (.all (A++B)::R):=by refine HS.allI ?_;rw[List.append_assoc];exact H.allE
theorem qqE {draw pick:Int} (hn:15≤n) (C:kR t) (hx:t.now=some x) (hp:t.past.length≤1000000) (hcf:t.tries≤1000000) (hrs:(t.results.length:Int)≤t.job+(if t.sweep=true then 1 else 0)) (hd:0≤draw∧draw<256) (H:HS g h (ThdC b t::R)) :
  t_w n 74 [.ptr b 0,.int .u8 draw,.int .i64 pick] h λ_ h'=>HS g h' (ThdC b (zk t x draw pick)::R):=by
 refine t_e3 rfl omQ λk hk=>?_;unfold S74;try simp only[iZ]
 have hN:=C.now x hx;have O:=hN.1;have hrl:t.rests.length+t.giving.length≤63000:=C.len (by split at hrs<;>omega);have hT:=C.tries;have hCf:=C.conf;have hjl:=C.jl;have hjb:=C.job;obtain⟨a,q,H0⟩:=ThdC.V hx H;refine qW (qQ (qX H0 e_1 rfl ?_));refine qV ?_
 try dsimp only
 refine qW (qQ (qX H0 e_1 rfl ?_));refine qG (qv6 omQ O H0) ?_;rintro _ h1 ⟨z,rfl,H1⟩;have o1:=H1.one (v:=z.rv) .here;have o2:=H1.one (v:=z.cv) e_1;have o3:=H1.one (v:=z.fv) e_2;have a1:qp (Ky (jb t x pick) z)=true:=by simp only[qp,Ky,List.all_cons,o1.2,o2.2,o3.2];rfl
 refine qh H1 rfl rfl rfl a1 λv2 h2 H2=>?_;obtain⟨zs,hzs,H3⟩:=PastC.E (H2.sel e_8);have hzl:zs.length=t.past.length:=by rw[← hzs,List.length_map]
 refine jf H3 (H3.sl e_2) omQ omQ a1 λv3 h3 H4=>?_;have op:=H4.one .here;refine qW (qQ ?_);refine qA H4 e_7 op (by simp[ym]) λh4 H5=>?_;refine qd H0 e_1 rfl H1 e_4 rfl (HS.lt H0 e_1) ?_
 try dsimp only
 have B1:=KX (A:=zs.flatMap λz=>O5 z.1 z.2) (B:=O5 (jb t x pick) z) (H5.sub (.cons e_2 (.cons e_3 (.cons e_3 (.cons e_3 .refl)))));have eA:(zs++[(jb t x pick,z)]).flatMap (λz=>O5 z.1 z.2)=(zs.flatMap λz=>O5 z.1 z.2)++O5 (jb t x pick) z:=by rw[List.flatMap_append];simp
 have eB:(zs++[(jb t x pick,z)]).flatMap (λz=>Ky z.1 z.2)=(zs.flatMap λz=>Ky z.1 z.2)++Ky (jb t x pick) z:=by rw[List.flatMap_append];simp
 have eC:(zs++[(jb t x pick,z)]).length=zs.length+1:=by simp
 have B2:=PastC.I (v:=v3) (zs:=zs++[(jb t x pick,z)]) (r:=t.past++[jb t x pick]) (by rw[List.map_append,hzs];rfl) (by rw[eA,eB,eC];exact B1.pk [2,0] 0);have H6:HS g h4 (thrV a b { t with past:=t.past++[jb t x pick] } x { q with pv:=v3 } R):=B2.pk [3,1,2,2,0,1,1,1] 1;refine qW (qQ (qn (qX H6 e_1 (x:=.int .i64 t.tries) rfl ?_)));refine qc omQ<|qW (qQ (qn ?_));refine qA H6 e_1 ⟨rfl,rfl⟩ (by simp[ym]) λh5 H7=>?_;have H8:HS g h5 (thrV a b { t with past:=t.past++[jb t x pick],tries:=t.tries+1 } x { q with pv:=v3 } R):=H7.pk [1,0] 0;have hpl:(t.past++[jb t x pick]).length=t.past.length+1:=by simp
 have hps:((t.past++[jb t x pick]).length:Int)=(t.past.length:Int)+1:=by rw[hpl];rfl
 generalize{ q with pv:=v3 }=q at*;refine qV ?_
 try dsimp only
 unfold zk;refine qG (KI omQ H8 .here) ?_;rintro _ _ ⟨rfl,rfl⟩;by_cases c5:jS x=5
 ·rw[iJ c5];refine qg c5 (qZ ?_);refine qW (qQ (qn (qX H8 e_1 (x:=.int .i64 t.conf) rfl ?_)));refine qc omQ<|qW (qQ (qn ?_));refine qA H8 e_1 ⟨rfl,rfl⟩ (by simp[ym]) λh6 H9=>?_;have HA:HS g h6 (thrV a b { t with past:=t.past++[jb t x pick],tries:=t.tries+1,conf:=t.conf+1 } x q R):=H9.pk [1,0] 0;have C3:kR { t with past:=t.past++[jb t x pick],tries:=t.tries+1,conf:=t.conf+1 } :=
   C.go rfl rfl rfl rfl rfl rfl rfl C.slots (by show 0≤t.tries+1∧t.tries+1≤((t.past++[jb t x pick]).length:Int);omega) (by show 0≤t.conf+1∧t.conf+1≤t.tries+1;omega) rfl rfl
  have no:∀c:¬(0≤QP x∧QP x<t.set.threads),wp (zz (callT tab qx k) (.fn 120 [] []) [.ptr b 0,.int .u8 draw] h6 λ_ h'=>z7 [] h' λh'=>some (.tup [],h')) λ_ h'=>
    HS g h' (ThdC b (if 0≤QP x∧QP x<t.set.threads then{ t with past:=t.past++[jb t x pick],tries:=t.tries+1,conf:=t.conf+1,state:=2,by_:=QP x,yielding:=false }else xl { t with past:=t.past++[jb t x pick],tries:=t.tries+1,conf:=t.conf+1 } draw)::R):=λc=>by
   rw[iQ c];exact qG (qZE omQ C3.toThrB (by show t.giving.length≤_;omega) hd (thrV.I hx HA)) λ_ h2 H2=>qk (qj H2)
  refine qV ?_
  try dsimp only
  refine qG (qqn omQ HA .here) ?_;rintro _ _ ⟨rfl,rfl⟩;by_cases d1:0≤QP x
  ·refine zc d1 (qa ?_);refine qG (qqn omQ HA .here) ?_;rintro _ _ ⟨rfl,rfl⟩;refine qW (qQ (qn (qn (qX HA e_1 rfl ?_))));by_cases d2:QP x<t.set.threads
   ·refine jT d2 (qD ?_);refine qd HA e_1 rfl HA e_1 rfl (HS.lt HA e_1) ?_
    try dsimp only
    refine qZ ?_;rw[iJ ⟨d1,d2⟩];refine qG (qqn omQ HA .here) ?_;rintro _ _ ⟨rfl,rfl⟩;refine qW (qQ ?_);refine qA HA e_1 ⟨rfl,rfl⟩ (by simp[ym]) λh7 HB=>?_;refine qW (qQ ?_);refine qA HB .here ⟨rfl,rfl⟩ (by simp[ym]) λh8 HC=>?_;refine qW (qQ ?_);refine qA HC .here ⟨rfl,rfl⟩ (by simp[ym]) λh9 HD=>?_;refine qj<|thrV.I hx (HD.pk [1,0] 0)
   ·refine jD d2 (qD ?_);refine qd HA e_1 rfl HA e_1 rfl (HS.lt HA e_1) ?_
    try dsimp only
    exact qJ (no λh=>d2 h.2)
  ·refine zF d1 (qT (qE ?_))
   try dsimp only
   exact qJ (no λh=>d1 h.1)
 ·rw[iQ c5];refine qK c5 (qJ ?_);have C2:∀s:Int,kR { t with past:=t.past++[jb t x pick],tries:=t.tries+1,state:=s }:=λs=>
   C.go rfl rfl rfl rfl rfl rfl rfl C.slots (by show 0≤t.tries+1∧t.tries+1≤((t.past++[jb t x pick]).length:Int);omega) (by show 0≤t.conf∧t.conf≤t.tries+1;omega) rfl rfl
  refine qG (KI omQ H8 .here) ?_;rintro _ _ ⟨rfl,rfl⟩;by_cases c3:jS x=3
  ·rw[iJ c3];refine qg c3 (qZ ?_);by_cases ca:t.alarm=true
   ·rw[iJ ca];refine qW (qQ (qX H8 e_1 (x:=.bool true) (by rw[← ca];rfl) ?_));refine qZ<|qG (Jj omQ (C2 t.state).toThrB (by show t.giving.length≤_;omega) (thrV.I hx H8)) λ_ h6 H6=>qj H6
   ·have cf:t.alarm=false:=by simpa using ca
    rw[iQ ca];refine qW (qQ (qX H8 e_1 (x:=.bool false) (by rw[← cf];rfl) ?_));refine qJ (qW (qQ ?_));refine qA H8 e_1 ⟨rfl,rfl⟩ (by simp[ym]) λh6 H9=>?_;refine qk (qj ?_);exact thrV.I hx (H9.pk [1,0] 0)
  ·rw[iQ c3];refine qK c3 (qJ ?_);by_cases cs:t.sweep=true
   ·rw[iJ cs];refine qW (qQ (qn (qX H8 e_1 (x:=.bool true) (by rw[← cs];rfl) ?_)));refine qZ (qG (KI omQ H8 .here) ?_);rintro _ _ ⟨rfl,rfl⟩;exact qG (qzt omQ (C2 t.state) (by show t.rests.length+t.giving.length≤_;omega) (thrV.I hx H8)) λ_ h6 H6=>qk (qj H6)
   ·have cf:t.sweep=false:=by simpa using cs
    rw[iQ cs];refine qW (qQ (qn (qX H8 e_1 (x:=.bool false) (by rw[← cf];rfl) ?_)));refine qJ (qV ?_)
    try dsimp only
    refine qV ?_
    try dsimp only
    refine qW (qQ (qX H8 e_1 rfl ?_));refine qG (KI omQ H8 .here) ?_;rintro _ _ ⟨rfl,rfl⟩;refine qG (qqh omQ H8 .here) ?_;rintro _ _ ⟨rfl,rfl⟩;refine qG (M9 omQ O H8) ?_;rintro _ h6 ⟨rfl,H9⟩;refine qG (Va omQ H9 .here) ?_;rintro _ _ ⟨rfl,rfl⟩;refine qL rfl<|qh H9 rfl rfl rfl rfl λv4 h7 HA=>?_;have hrl7:t.results.length≤7:=by split at hrs<;>omega
    refine jf (HA.sel (P:=qy 53 4 t.results.length q.rv (t.results.flatMap Q9)) e_6) (HA.sl .here) omQ omQ rfl λv5 h8 HB=>?_;have o5:=HB.one .here;refine qW (qQ ?_);refine qA HB e_3 o5 (by simp[ym]) λh9 HC=>?_;refine qd H9 e_1 rfl H9 e_1 rfl (HS.lt H8 e_1)<|qd H8 e_1 rfl H9 e_1 rfl (HS.lt H8 e_1)<|qd H8 e_1 rfl H8 e_1 rfl (HS.lt H8 e_1)<|qd H8 e_1 rfl H8 e_1 rfl (HS.lt H8 e_1) ?_
    try dsimp only
    have eR:(t.results++[(⟨jS x,xp x,zR x,x.stamp⟩:YR)]).length=t.results.length+1:=by simp
    have eF:(t.results++[(⟨jS x,xp x,zR x,x.stamp⟩:YR)]).flatMap Q9=t.results.flatMap Q9++Q9 ⟨jS x,xp x,zR x,x.stamp⟩:=by rw[List.flatMap_append];simp
    have HD:HS g h9 (thrV a b { t with past:=t.past++[jb t x pick],tries:=t.tries+1,results:=t.results++[⟨jS x,xp x,zR x,x.stamp⟩] } x { q with rv:=v5 } R):=by unfold thrV;rw[eR,eF];exact HC.pk [3,0,2,2,2,0,1,1] 1
    refine qV ?_
    try dsimp only
    refine qW (qQ (qX HD e_1 rfl ?_));refine qG (Va omQ HD .here) ?_;rintro _ _ ⟨rfl,rfl⟩;refine qG (NS omQ O HD) ?_;rintro fv hA ⟨fe,HE⟩;have hfl:=wK O (hN.2.2.2.trans cf);have HF:=HE.sel (P:=LimC q.lb t.rests) e_7;refine qG (Mu omQ omQ HF (HF.drop.rd .here)) λ_ hB HG=>?_;refine qd HD e_1 rfl HE e_2 rfl (HS.lt HD e_1)<|qd HD e_1 rfl HD e_1 rfl (HS.lt HD e_1) ?_
    try dsimp only
    have HH:=thrV.I (t:={ t with past:=t.past++[jb t x pick],tries:=t.tries+1,results:=t.results++[⟨jS x,xp x,zR x,x.stamp⟩],rests:=t.rests++(zP x).map λb=>(b,x.stamp) }) hx
     (HG.pk [2,2,2,2,2,2,0,1] 1)
    have e2:(t.rests++(zP x).map λb=>(b,x.stamp)).length=t.rests.length+(zP x).length:=by simp
    have hgl:=C.giv cf;have hre:=C.rests;rw[hgl,List.length_nil]at hre;have C4:kR { t with past:=t.past++[jb t x pick],tries:=t.tries+1,results:=t.results++[⟨jS x,xp x,zR x,x.stamp⟩],rests:=t.rests++(zP x).map λb=>(b,x.stamp) } :=
     ⟨⟨C.set,C.me,C.jobs,C.jl,C.job,by rw[eR,e2,hgl,List.length_nil];omega,
      C.slots,by show 0≤t.tries+1∧t.tries+1≤((t.past++[jb t x pick]).length:Int);omega,by show 0≤t.conf∧t.conf≤t.tries+1;omega,C.giv⟩,C.now,C.lt,C.some⟩
    exact qG (qgf omQ C4 cf (by show(t.rests++(zP x).map λb=>(b,x.stamp)).length≤1000000;omega) HH) λ_ hC HI=>qk (qj HI)
end
end
section
variable {g h:AH} {L R:List SP}
section
variable {n a b:Nat} {t:qo} {q:MS} {x:jG}
theorem ya.rl (O:ya t):t.rests.length+t.giving.length≤63000:=O.b.len (by have:=O.res;split at this<;>omega)
theorem qx1 {an:AnM} {draw pick:Int} (hn:27≤n) (O:ya t) (ha:Yh an) (hd:0≤draw∧draw<256) (hp:t.past.length≤900000) (H:HS g h (ThdC b t::R)) :
  t_w n 37 [.ptr b 0,.agg (xw an),.int .u8 draw,.int .i64 pick] h λ_ h'=>HS g h' (ThdC b (zB t an draw pick)::R):=by
 refine t_e4 rfl omQ λk hk=>?_;unfold S37;try simp only[iZ]
 have hrl:=O.rl;have hT:=O.b.tries;have hres:=O.res;obtain⟨q,H0⟩:=ThdC.E H;refine qP H0 rfl λv0 h1 H1=>?_;refine qW (qQ (qX H1 e_1 rfl ?_));refine qV ?_
 try dsimp only
 unfold zB;by_cases c1:t.state=1
 ·rw[iJ c1];refine qg c1 (qZ ?_);have C:=O.c omQ;cases hx:t.now with
  |none=>exact absurd hx C.some
  |some x=>
   have hN:=C.now x hx;have hS:=GO x an;have hr:(t.results.length:Int)≤t.job+(if t.sweep=true then 1 else 0):=by
    by_cases hs:t.sweep=true
    ·rw[iJ ⟨by omega,.inl hs⟩]at hres;rw[iJ hs];exact hres
    ·rw[iQ (λh=>by rcases h.2 with h |h;exact hs h;omega)]at hres;rw[iQ hs];exact hres
   have C':∀b:Int,kR { t with now:=some (jU x an),born:=b }:=λb=>⟨⟨C.set,C.me,C.jobs,C.jl,C.job,C.rests,C.slots,C.tries,C.conf,C.giv⟩,λy hy=>by
    cases hy
    exact⟨Kh hN.1 ha,hS.me.trans hN.2.1,hS.set.trans hN.2.2.1,hS.sw.trans hN.2.2.2⟩,C.lt,nofun⟩
   obtain⟨a,q,H2⟩:=ThdC.V hx (ThdC.I (H1.pk [1,1,1,1,1,1,1,1,0] 0));refine qW (qQ (qX H2 e_1 rfl ?_));refine qG (U2 omQ H2 .here) ?_;rintro _ _ ⟨rfl,rfl⟩;refine qC rfl (qC rfl ?_);refine qW (qQ (qX H2 e_1 rfl ?_));refine qF H2 e_8 rfl omQ rfl<|qG (qxc omQ hN.1 ha H2) λ_ h3 H3=>?_;unfold gr;dsimp only;generalize hy:jU x an=y at H3 C' ⊢;generalize hbo:(if y.begun=true∧x.begun=false then pick else t.born)=bo;have key:∀(bo:Int) (h':AH),HS g h' (thrV a b { t with now:=some y,born:=bo } y q (qw v0 (xw an)::R))→
     wp (xm (.ptr b 0) λv28=>qt v28 16 λv29=>jN h' v29 λv30=>zz (callT tab qx k) (.fn 73 [] []) [v30] h' λv31 h32=>zG .neq v31 (.int .i64 ((0:Nat):Int)) λv33=>zt v33
      (zz (callT tab qx k) (.fn 74 [] []) [.ptr b 0,.int .u8 draw,.int .i64 pick] h32 λ_ h35=>z7 [] h35 λh9=>some (.tup [],h9)) (z7 [] h32 λh9=>some (.tup [],h9)))
      λ_ h'=>HS g h' (ThdC b (if jS y=0 then{ t with now:=some y,born:=bo }else zk { t with now:=some y,born:=bo } y draw pick)::R):=λbo h' H4=>by
    refine qW (qQ (qX H4 e_1 rfl ?_));refine qG (KI omQ H4 .here) ?_;rintro _ _ ⟨rfl,rfl⟩;have H5:=thrV.I (t:={ t with now:=some y,born:=bo }) rfl H4;have H5:=H5.sub (.cons .here (.drop .refl));by_cases c:jS y=0
    ·rw[iJ c];exact q9 c (qJ (qk (qj H5)))
    ·rw[iQ c];refine jX c (qZ ?_);exact qG (qqE omQ (C' bo) rfl (by show t.past.length≤_;omega) (by show t.tries≤_;omega) hr hd H5) λ_ h6 H6=>qk (qj H6)
   refine qV ?_
   try dsimp only
   refine qW (qQ (qX H3 e_1 rfl ?_));refine qG (U2 omQ H3 .here) ?_;rintro _ _ ⟨rfl,rfl⟩;refine qC rfl (qC rfl ?_);refine qV ?_
   try dsimp only
   have H4:HS g _ (thrV a b { t with now:=some y,born:=t.born } y q (qw v0 (xw an)::R)):=H3;by_cases d1:y.begun=true
   ·rw[d1];refine qa ?_;by_cases d2:x.begun=true
    ·rw[d2];rw[d1,d2,iQ (λh=>by cases h.2)]at hbo;subst hbo;refine jk (qD (qJ ?_));exact key _ _ H4
    ·have d2':x.begun=false:=by simpa using d2
     rw[d2'];rw[d1,d2',iJ ⟨rfl,rfl⟩]at hbo;subst hbo;refine jA (qD (qZ ?_));refine qW (qQ ?_);refine qA H3 e_1 ⟨rfl,rfl⟩ (by simp[ym]) λh5 H5=>?_;exact key pick _ (H5.pk [1,0] 0)
   ·have d1':y.begun=false:=by simpa using d1
    rw[d1'];rw[d1',iQ (λh=>by cases h.1)]at hbo;subst hbo;refine qT (qE (qJ ?_));exact key _ _ H4
 ·rw[iQ c1];refine qK c1 (qJ ?_);have H2:=ThdC.I (b:=b) (t:=t) (q:=q) H1.drop;by_cases c2:t.state=2
  ·rw[iJ c2];refine qg c2 (qZ ?_);refine qF H1 .here rfl omQ rfl<|qG (qq7 omQ O.b omQ hd H2) λ_ h6 H6=>qk (qj H6)
  ·rw[iQ c2];refine qK c2 (qJ ?_);by_cases c5:t.state=5
   ·rw[iJ c5];refine qg c5 (qZ ?_);have C:=O.c omQ;have hsl:=O.slo c5;have h4:=C.set.threads;refine qV ?_
    try dsimp only
    refine qQ (qX H1 .here rfl ?_);by_cases ce:an.err=0
    ·refine q9 ce (qJ ?_)
     try dsimp only
     refine qQ (qX H1 .here rfl ?_);rw[iQ (λh=>h ce)];exact qG (Mr omQ C (O.sw5 c5) omQ omQ H2) λ_ h6 H6=>qk (qj H6)
    ·refine jX ce (qZ ?_);refine qQ (qA H1 .here ⟨rfl,rfl⟩ (by simp[xw]) λh3 H3=>?_)
     try dsimp only
     refine qQ (qX H3 .here rfl ?_);rw[iJ ce];exact qG (Mr omQ C (O.sw5 c5) omQ omQ (ThdC.I H3.drop)) λ_ h6 H6=>qk (qj H6)
   ·rw[iQ c5];exact qK c5 (qJ (qk (qj H2)))
theorem qxC (hn:5≤n) (O:ya t) (H:HS g h (ThdC b t::R)):t_w n 35 [.ptr b 0] h λr h'=>r=opV (xL t)∧HS g h' (ThdC b t::R):=by
 refine t_e1 rfl omQ λk hk=>?_;unfold S35;try simp only[iZ]
 obtain⟨q,H0⟩:=ThdC.E H;refine qP H0 rfl λv0 h1 H1=>?_;refine qW (qQ (qX H1 e_1 rfl ?_));unfold xL;have say:∀{o:OpM} {h':AH},HS g h' (qw v0 (yN o)::GG b t q R)→wp (zO h' (.ptr v0 0) 10 λv=>some (.tup [v,.bool true],h')) λr h'=>r=opV (some o)∧HS g h' (ThdC b t::R):=λ{o h'} H'=>by
  refine qF H' .here rfl omQ rfl<|qj ⟨rfl,ThdC.I H'.drop⟩
 by_cases c1:t.state=1
 ·rw[iJ c1];refine qg c1 (qZ ?_);have C:=O.c omQ;cases hx:t.now with
  |none=>exact absurd hx C.some
  |some x=>have hN:=C.now x hx;obtain⟨a,q,H2⟩:=ThdC.V hx (ThdC.I (H1.pk [1,1,1,1,1,1,1,1,0] 0));refine qW (qQ (qX H2 e_1 rfl ?_));refine qG (qzP omQ hN.1 H2) ?_;rintro _ h3 ⟨rfl,H3⟩;refine qC rfl (qC rfl ?_);refine qf H3 e_8 rfl (by simp) rfl λh4 H4=>?_;refine qF H4 .here rfl omQ rfl<|qj ⟨rfl,thrV.I hx (H4.drop.pk [0] 0)⟩
 ·rw[iQ c1];refine qK c1 (qJ ?_);by_cases c2:t.state=2
  ·rw[iJ c2];refine qg c2 (qZ ?_);refine qW (qQ (qX H1 e_1 rfl ?_));refine qL rfl<|qf H1 .here rfl (by simp) rfl λh3 H3=>say H3
  ·rw[iQ c2];refine qK c2 (qJ ?_);by_cases c5:t.state=5
   ·rw[iJ c5];refine qg c5 (qZ ?_);refine qW (qQ (qX H1 e_1 rfl ?_));refine qm H1 e_8<|qL rfl<|qf H1 .here rfl (by simp) rfl λh3 H3=>say H3
   ·rw[iQ c5];refine qK c5 (qJ ?_);refine qL rfl<|qf H1 .here rfl (by simp) rfl λh3 H3=>?_;refine qF H3 .here rfl omQ rfl<|qj ⟨rfl,ThdC.I H3.drop⟩
theorem qGU {r:List xP} {st ver:Int} {i:Nat} (hi:i<r.length):vN (r.drop i) st ver=(decide (r[i].1=st∧r[i].2≠ver)||vN (r.drop (i+1)) st ver):=by unfold vN;rw[List.drop_eq_getElem_cons hi,List.any_cons]
theorem qgF {st ver:Int} (hn:12≤n) (O:ya t) (H:HS g h (ThdC b t::R)):t_w n 38 [.ptr b 0,.int .i64 st,.int .u64 ver] h λ_ h'=>HS g h' (ThdC b (xN t st ver)::R):=by
 refine t_e3 rfl omQ λk hk=>?_;unfold S38;try simp only[iZ]
 have hrl:=O.rl;cases hx:t.now with
 |none=>
  obtain⟨q,H0⟩:=ThdC.E H;have e:q.nv=.nilp:=by have H1:=H0.sel (P:=NowC t.now q.nv) e_3;rw[hx]at H1;exact H1.purE.1
  refine qW (qQ (qX H0 .here (x:=.nilp) (by rw[← e];rfl) ?_));have eW:xN t st ver=t:=by
   unfold xN
   split
   ·rfl
   ·rename_i h1;rw[hx]at h1;cases h1
  rw[eW];exact ME (qZ (qj H))
 |some x=>
  have eW:xN t st ver=if vN x.r st ver=true then(if t.state=4 then zV t else if t.state=1∧vA x=true then{ t with alarm:=true }else t)else t:=by
   unfold xN
   split
   ·rename_i h1;rw[hx]at h1;cases h1
   ·rename_i y h1;rw[hx]at h1;cases h1;rfl
  rw[eW];have C:=O.c (λh6=>by have:=(O.fin h6).2;rw[hx]at this;cases this);have hN:=C.now x hx;have hr:=hN.1.r;obtain⟨a,q,H0⟩:=ThdC.V hx H;refine qW (qQ (qX H0 e_1 rfl ?_));refine UC (qJ ?_);refine qW (qQ (qX H0 e_1 rfl ?_));refine qG (qxi omQ hN.1 H0) λv h1 H1=>?_;refine qm H1 .here<|jM (λc s h'=>∃i:Nat,s=(.int .i64 (i:Int),.int .i64 (x.r.length:Int),v,.int .u64 ver,.int .i64 st,.ptr b 0,())∧i≤x.r.length∧c=x.r.length-i∧vN x.r st ver=vN (x.r.drop i) st ver∧HS g h' (qy 140 2 x.r.length v (x.r.flatMap vw)::thrV a b t x q R))
   ?_ omQ ⟨0,rfl,Nat.zero_le _,rfl,rfl,H1⟩
  rintro c ih s h3 hih ⟨i,rfl,hi,rfl,hs,H⟩;have HT:=(thrV.I (t:=t) hx H.drop);by_cases hlt:i<x.r.length
  ·refine jT omQ (qZ ?_);refine zd (H.sl .here) hlt omQ (vI (enc:=vw) (λ_=>rfl) (iW hlt))<|qP H rfl λb2 h4 H4=>?_;refine qf H4 .here rfl (by simp) rfl λh5 H5=>?_;rw[qGU hlt]at hs;have H6:HS g h5 (qy 140 2 x.r.length v (x.r.flatMap vw)::thrV a b t x q R):=H5.drop;have on:∀c:¬(x.r[i].1=st∧x.r[i].2≠ver),wp (ih (.int .i64 (i+((1:Nat):Int)),.int .i64 (x.r.length:Int),v,.int .u64 ver,.int .i64 st,.ptr b 0,()) h5 []) λ_ h'=>HS g h' (ThdC b (if vN x.r st ver=true then(if t.state=4 then zV t else if t.state=1∧vA x=true then{ t with alarm:=true }else t)else t)::R):=λc=>by
    rw[iV c,Bool.false_or]at hs;exact hih (x.r.length-(i+1)) _ _ omQ ⟨i+1,rfl,by omega,rfl,hs,H6⟩
   refine qQ (qX H5 .here rfl ?_);by_cases c1:x.r[i].1=st
   ·refine q9 c1<|qV ?_
    try dsimp only
    refine qe (qQ (qX H5 .here rfl ?_));by_cases c2:x.r[i].2=ver
    ·refine qg c2 (qE (qZ ?_));exact qc omQ (on λh=>h.2 c2)
    ·refine qK c2 (qE (qJ ?_));rw[iG ⟨c1,c2⟩,Bool.true_or]at hs;rw[iJ hs];refine qV ?_
     try dsimp only
     refine qW (qQ (qX H6 e_2 rfl ?_));have HT:=(thrV.I (t:=t) hx H6.drop);by_cases c4:t.state=4
     ·rw[iJ c4];refine qg c4 (qZ ?_);exact qG (Jj omQ C.toThrB omQ HT) λ_ h7 H7=>qk (qj H7)
     ·rw[iQ c4];refine qK c4 (qJ ?_);refine qW (qQ (qX H6 e_2 rfl ?_));refine qV ?_
      try dsimp only
      by_cases c5:t.state=1
      ·refine qg c5 (qa ?_);refine qW (qQ (qX H6 e_2 rfl ?_));obtain⟨q2,H7⟩:=AttC.E (H6.sel e_1);refine qG (OP omQ H7 .here) ?_;rintro _ _ ⟨rfl,rfl⟩;by_cases c6:vA x=true
       ·rw[c6,iJ ⟨c5,rfl⟩];refine qD (qZ ?_);refine qW (qQ ?_);refine qA H6 e_2 ⟨rfl,rfl⟩ (by simp[ym]) λh8 H8=>?_;refine qk (qj ?_);exact thrV.I hx (H8.pk [2,0] 1)
       ·have c6':vA x=false:=by simpa using c6
        rw[c6',iQ (λh=>by cases h.2)];exact qD (qJ (qk (qj HT)))
      ·rw[iQ (λh=>c5 h.1)];exact qK c5 (qT (qE (qJ (qk (qj HT)))))
   ·refine jX c1<|qV ?_
    try dsimp only
    refine qs (qD (qZ ?_));exact qc omQ (on λh=>c1 h.1)
  ·obtain rfl:i=x.r.length:=by omega
   refine jD omQ (qJ ?_);rw[List.drop_length]at hs;rw[hs];exact qk (qj HT)
end
end
end Go.Proofs.YtbiljkdgeekpbacGreatDoor
