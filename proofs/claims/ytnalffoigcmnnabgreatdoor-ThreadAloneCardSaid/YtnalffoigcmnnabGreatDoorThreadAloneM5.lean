/- Lemmas for 'quietus/quietuslaw27.ThreadAlone': Blocks given back: by the program, by the documents own text;A program run whole on words: by the programs own code;A thread alone: plain: what comes of it, ... No condition. -/
import Derived.Test.YtnalffoigcmnnabGreatDoorThreadAloneM4
import Derived.Test.YtnalffoigcmnnabGreatDoorThreadAloneM1
import Derived.Test.YtnalffoigcmnnabGreatDoorThreadAloneM3
namespace Go.Proofs.YtnalffoigcmnnabGreatDoor
open Go Go.Ae
set_option maxRecDepth 100000
section
open Go Go.Ae arenaPlays
set_option maxRecDepth 100000
variable {g h:AH} {L R:List SP}
def Shp (v:AV):Prop:=v=.nils∨∃b o n cp x,v=.slice b o n cp x
theorem shp {e:TypeId} {sz n:Nat} {v:AV} {xs:List AV} (H:HS g h L) (s:Sel L (qy e sz n v xs) R):Shp v:=by
 obtain⟨D,h1,⟨rfl,rfl,_⟩ |⟨b,cp,o,ys,rfl,_⟩⟩:=H.p s
 ·exact .inl rfl
 ·exact .inr ⟨_,_,_,_,_,rfl⟩
abbrev qgs:List AV:=[.int .i64 ((0:Nat):Int),.int .i64 ((0:Nat):Int),.str [],.nils,.nils,.nils]
theorem qzh {er k:Int} {wv:AV} (h:Shp wv):yF qgs [(0,1,.int .i64 k),(1,1,.int .i64 er),(5,1,wv)]=some [.int .i64 k,.int .i64 er,.str [],.nils,.nils,wv]:=by
 rcases h with rfl |⟨b,o,n,cp,x,rfl⟩<;>rfl
theorem qxt {k:Int} {cv wv:AV} (h1:Shp cv) (h2:Shp wv):yF qgs [(0,1,.int .i64 k),(3,1,cv),(5,1,wv)]=some [.int .i64 k,.int .i64 ((0:Nat):Int),.str [],cv,.nils,wv]:=by
 rcases h1 with rfl |⟨b,o,n,cp,x,rfl⟩<;>rcases h2 with rfl |⟨b,o,n,cp,x,rfl⟩<;>rfl
theorem all6 {er k:Int} {cv wv:AV} (h1:Shp cv) (h2:Shp wv):qm [.int .i64 k,.int .i64 er,.str [],cv,.nils,wv]=true:=by
 rcases h1 with rfl |⟨b,o,n,cp,x,rfl⟩<;>rcases h2 with rfl |⟨b,o,n,cp,x,rfl⟩<;>rfl
def yQ:VM→List Int→Int×VM
 |M,[]=>(0,M)
 |M,b::bs=>if(zG M b).1=0 then yQ (zG M b).2 bs else((zG M b).1,(zG M b).2)
def NV (q:Int×VM):List Cl:=if q.1=0 then jJ q.2.lv else[]
def VA (zs:List Int) (q:Int×VM):List Int:=jI zs (NV q)
def qJo (q:Int×VM) (cv wv:AV):AV:=.agg [.int .i64 (if q.1=0 then 2 else 4),.int .i64 q.1,.str [],cv,.nils,wv]
def OutS (g:AH) (R:List SP) (zs:List Int) (q:Int×VM) (r:AV) (h':AH):Prop :=
 ∃cv wv e1 e2,r=qJo q cv wv∧(shut wv=true∧Vb wv)∧HS g h' (qy e1 2 (NV q).length cv ((NV q).flatMap jA)::qy e2 1 (VA zs q).length wv ((VA zs q).map (.int .u64))::R)
theorem qW4 {n:Nat} (hn:14≤n) {zs bs:List Int} {a0 a1:AV} {m:Int} (H:HS g h R) (S:Rd g R 1 zs.length a0 (zs.map (.int .u64))) (hcut:Z2 g R a0 zs) (S1:Rd g R 1 bs.length a1 (bs.map (.int .i64)))
  (hz:∀z∈zs,0≤z∧z<18446744073709551616) (hl:zs.length<100000) (hb:bs.length<100000) :
  t_w n 16 [a0,a1,.int .i64 m] h (OutS g R zs (yQ (jM zs m) bs)):=by
 refine t_e3 (S:=S16) rfl omQ λk hk=>?_;unfold S16;try simp only[iZ]
 refine qO H rfl λb h1 H=>?_;refine qG (MH omQ H S.more) ?_;rintro _ h2 ⟨v,rfl,H⟩;have G0:=qZh (m:=m) hz;have F0:frS (jM zs m).lv=0:=rfl;refine xW (S1.sl H.drop.drop) ?_
 refine jN (λc s h'=>∃(i:Nat) (M:VM),s=(.int .i64 (i:Int),.int .i64 (bs.length:Int),a1,.ptr v 0,.ptr b 0,a0,())∧i≤bs.length∧c=bs.length-i∧jk M∧frS M.lv=0∧yQ (jM zs m) bs=yQ M (bs.drop i)∧
  HS g h' (ViewC v M::qg b [.int .i64 ((0:Nat):Int),.int .i64 ((0:Nat):Int),.str [],.nils,.nils,.nils]::R)) ?_ (m:=bs.length) (by show _<1000000000;omega) ⟨0,_,rfl,by omega,by omega,G0,F0,rfl,H⟩
 clear H G0 F0;rintro c ih s h3 hih ⟨i,M,rfl,h1,rfl,G,hf,hM,H⟩;dsimp only;rw[hM];refine zy (λhlt=>qZ ?_) λhge=>qJ ?_
 ·have hi:i<bs.length:=by omega
  refine zJ (x:=.int .i64 bs[i]) (S1.sl H.drop.drop) (by rw[List.getElem?_map,iW hi];rfl) ?_;refine qG (Ot omQ H G.ok) ?_;rintro _ h4 ⟨rfl,H⟩;have G2:=G.give (b:=bs[i]);rw[List.drop_eq_getElem_cons hi];by_cases e0:(zG M bs[i]).1=0
  ·have hg:yQ M (bs[i]::bs.drop (i+1))=yQ (zG M bs[i]).2 (bs.drop (i+1)):=iJ e0;rw[e0];refine jY omQ ?_;refine qJ (qc omQ ?_);rw[List.drop_eq_getElem_cons hi,hg]at hM;rw[hg,← hM];exact hih (bs.length-(i+1)) _ _ omQ ⟨i+1,_,rfl,by omega,rfl,G2.1,by rw[G2.2];exact hf,hM,H⟩
  ·have hg:yQ M (bs[i]::bs.drop (i+1))=((zG M bs[i]).1,(zG M bs[i]).2):=iQ e0;rw[hg];generalize(zG M bs[i]).1=er at*;generalize(zG M bs[i]).2=M2 at*;refine jj omQ (qZ ?_);refine qG (Yz (cs:=[]) omQ H S.more.more (vM (vM hcut)) (λ_ _=>.nils) hl osQ) ?_;rintro wv h5 ⟨e,hsr,H5⟩;have w1:=shp H5 .here;refine qH (qzh w1) ?_;refine qe H5 (b:=b) e_2 rfl (by show 0+6≤6;omega) (all6 (.inl rfl) w1) λh6 H6=>?_;have H6:HS g h6 (qg b [.int .i64 ((4:Nat):Int),.int .i64 er,.str [],.nils,.nils,wv]::qy e 1 (jI zs []).length wv ((jI zs []).map (.int .u64))::ViewC v M2::R):=H6;refine qk (qD H6 (b:=b) (l:=[.int .i64 ((4:Nat):Int),.int .i64 er,.str [],.nils,.nils,wv]) .here rfl omQ rfl (qj ?_));refine⟨.nils,wv,0,e,?_,hsr,?_⟩
   ·unfold qJo;rw[iQ e0];rfl
   ·have hc:NV (er,M2)=[]:=iQ e0;unfold VA;rw[hc];exact((H6.drop).sub (L':=qy e 1 (jI zs []).length wv ((jI zs []).map (.int .u64))::R) (.cons .here (.drop (.refl)))).nils
 ·have hd:bs.drop i=[]:=List.drop_of_length_le omQ;rw[hd];show wp _ (OutS g R zs (0,M));refine qG (Qh omQ H G.ok) λc1 h4 H4=>?_;refine qG (Qh omQ (H4.sel e_1) G.ok) λc2 h5 H5=>?_;have hml:(jJ M.lv).length<100000:=by
   have h1:=JY M.lv [];have h2:=G.ok.lvs.held;have h3:=G.ok.lvs.le;have h4:(jJ M.lv).length≤([]:List Cl).length+yb M.lv:=h1;simp at h4;omega
  refine qG (Yz omQ H5 S.more.more.more.more (vM (vM (vM (vM hcut)))) (H5.rd .here) hl hml) ?_;rintro wv h6 ⟨e,hsr,H6⟩;have w1:=shp H6 .here;have w2:=shp H6 e_3;refine qH (qxt w2 w1) ?_;refine qe H6 (b:=b) e_4 rfl (by show 0+6≤6;omega) (all6 w2 w1) λh7 H7=>?_
  have H7:HS g h7 (qg b [.int .i64 ((2:Nat):Int),.int .i64 ((0:Nat):Int),.str [],c1,.nils,wv]::qy e 1 (jI zs (jJ M.lv)).length wv ((jI zs (jJ M.lv)).map (.int .u64))::qy 181 2 (jJ M.lv).length c2 ((jJ M.lv).flatMap jA)::
   ViewC v M::qy 181 2 (jJ M.lv).length c1 ((jJ M.lv).flatMap jA)::R):=H7
  refine qk (qD H7 (b:=b) (l:=[.int .i64 ((2:Nat):Int),.int .i64 ((0:Nat):Int),.str [],c1,.nils,wv]) .here rfl omQ rfl (qj ?_));refine⟨c1,wv,181,e,rfl,hsr,?_⟩;have hc:NV ((0:Int),M)=jJ M.lv:=iJ rfl;unfold VA;rw[hc];exact H7.sub (.cons e_4 (.cons e_1 (.drop (.drop (.drop (.refl))))))
end
section
variable {g h:AH} {L R:List SP}
abbrev yM (l:List qR) (n:Nat) (zs:List Int) (m:Int):RM:=jg l (qL l) n YX (jM zs m)
def zf (r:RM):List Cl:=if r.kind=2 then jJ r.v.lv else[]
def ju (r:RM):List Int:=if r.kind=2 then vo r.v.lv else[]
def JL (r:RM):List UInt8:=if r.kind=2 then qQl r.s.out else[]
def qJC (r:RM) (cv fv wv:AV):List AV:=[.int .i64 r.kind,.int .i64 r.err,.str (JL r),cv,fv,wv]
theorem qgd {er k:Int} {tx:List UInt8} {cv fv wv:AV} (h1:Shp cv) (h2:Shp fv) (h3:Shp wv):qm [.int .i64 k,.int .i64 er,.str tx,cv,fv,wv]=true:=by
 rcases h1 with rfl |⟨b,o,n,cp,x,rfl⟩<;>rcases h2 with rfl |⟨b,o,n,cp,x,rfl⟩<;>rcases h3 with rfl |⟨b,o,n,cp,x,rfl⟩<;>rfl
theorem GQ {v:AV} (h:Shp v):One v:=by
 rcases h with rfl |⟨b,o,n,cp,x,rfl⟩<;>exact⟨rfl,rfl⟩
theorem qkP {n:Nat} (hn:18≤n) {l:List qR} {pv wv:AV} {zs:List Int} {fuel m:Int} (H:HS g h R) (S:Rd g R 5 l.length pv (l.flatMap jK)) (Sw:Rd g R 1 zs.length wv (zs.map (.int .u64))) (hcut:Z2 g R wv zs) (hz:OkN zs) (hzl:zs.length<100000) (hc:(xB l).2=0) (Q:Quiet l) :
  t_w n 14 [wv,.agg [pv],.int .i64 fuel,.int .i64 m] h λr h'=>∃cv fv av e1 e2 e3,r=.agg (qJC (yM l (zv fuel) zs m) cv fv av)∧(shut av=true∧Vb av)∧
   HS g h' (qy e1 2 (zf (yM l (zv fuel) zs m)).length cv ((zf (yM l (zv fuel) zs m)).flatMap jA)::qy e2 1 (ju (yM l (zv fuel) zs m)).length fv ((ju (yM l (zv fuel) zs m)).map (.int .i64))::
    qy e3 1 (jI zs (zf (yM l (zv fuel) zs m))).length av ((jI zs (zf (yM l (zv fuel) zs m))).map (.int .u64))::R):=by
 refine t_e4 (S:=S14) rfl omQ λk hk=>?_;unfold S14;try simp only[iZ]
 have F:=QM hc;have hle:=F.le;refine qO H (yh (kj (S.sl H))) λb0 h1 H1=>?_;refine qO H1 rfl λb1 h2 H2=>?_;refine qG (MH (zs:=zs) omQ H2 Sw.more.more) ?_;rintro _ h3 ⟨v,rfl,H3⟩;refine qD H3 (b:=b0) (off:=0) e_2 rfl omQ (l:=[pv]) rfl ?_;refine qG (qX0 omQ H3 S.more.more.more omQ) ?_;rintro _ h4 ⟨x,rfl,H4⟩;have hm:Gn l=qL l:=by unfold Gn;rw[iJ hc]
 rw[hm,hc]at H4;have hfz:zv fuel≤400:=by unfold zv;omega
 have G0:=Kr (l:=l) (m:=m) hz;have f0:=Xe zs m;refine qG (qX2 (V:=jM zs m) omQ F Q G0 omQ omQ H4) ?_;rintro _ h5 ⟨rfl,nx,H5⟩;obtain⟨RB,rfr,_,_,rk⟩:=Gs F Q (zv fuel) G0 omQ;unfold yM;generalize jg l (qL l) (zv fuel) YX (jM zs m)=RM at*;refine qG (qXM omQ H5) ?_;rintro _ h5 ⟨rfl,rfl⟩;refine qH (l:=[.int .i64 RM.kind,.int .i64 RM.err,.str [],.nils,.nils,.nils]) rfl ?_;refine qO H5 rfl λb2 h6 H6=>?_;refine qe H6 (b:=b2) .here rfl (by show 0+6≤6;omega) rfl λh7 H7=>?_;have H7:HS g h7 (qg b2 [.int .i64 RM.kind,.int .i64 RM.err,.str [],.nils,.nils,.nils]::IntC x v l 0 (qL l) RM.s RM.err (if RM.kind=1 then 0 else RM.kind) (RM.left:Int) nx::ViewC v RM.v::qg b1 [.int .i64 ((0:Nat):Int),.int .i64 ((0:Nat):Int),.str [],.nils,.nils,.nils]::qg b0 [pv]::R):=H7;clear H1 H2 H3 H4 H5 H6
 refine jT [] (λs h'=>s=(.ptr b2 0,.ptr b1 0,wv,())∧∃cv fv e1 e2,HS g h' (qg b2 [.int .i64 RM.kind,.int .i64 RM.err,.str (JL RM),cv,fv,.nils]::qy e1 2 (zf RM).length cv ((zf RM).flatMap jA)::qy e2 1 (ju RM).length fv ((ju RM).map (.int .i64))::
   qg b1 [.int .i64 ((0:Nat):Int),.int .i64 ((0:Nat):Int),.str [],.nils,.nils,.nils]::R)) ?_ ?_
 rotate_left
 ·rintro s h8 ⟨rfl,cv,fv,e1,e2,H8⟩;dsimp only;have hcs:(zf RM).length<100000:=by
   unfold zf
   split
   ·have h1:=JY RM.v.lv [];have h2:=RB.good.ok.lvs.held;have h3:=RB.good.ok.lvs.le;simp at h1;unfold jJ;omega
   ·simp
  have w1:=shp H8 e_1;have w2:=shp H8 e_2;refine qQ (qK ‹_› .here rfl ?_);refine qG (Yz (zs:=zs) (cs:=zf RM) omQ H8 (Sw.more.more.more.more) (vM (vM (vM (vM hcut)))) (H8.rd e_1) hzl hcs) ?_;rintro av h9 ⟨e3,hsr,H9⟩;have w3:=shp H9 .here;refine qQ (qw H9 (b:=b2) e_1 (GQ w3) (by show 5<6;omega) λh10 H10=>?_)
  have H10:HS g h10 (qg b2 (qJC RM cv fv av)::qy e3 1 (jI zs (zf RM)).length av ((jI zs (zf RM)).map (.int .u64))::qy e1 2 (zf RM).length cv ((zf RM).flatMap jA)::qy e2 1 (ju RM).length fv ((ju RM).map (.int .i64))::
   qg b1 [.int .i64 ((0:Nat):Int),.int .i64 ((0:Nat):Int),.str [],.nils,.nils,.nils]::R):=H10
  refine qD H10 (b:=b2) (off:=0) .here rfl omQ (l:=qJC RM cv fv av) rfl ?_;refine qe H10 (b:=b1) e_4 rfl (by show 0+6≤6;omega) (qgd w1 w2 w3) λh11 H11=>?_;have H11:HS g h11 (qg b1 (qJC RM cv fv av)::qg b2 (qJC RM cv fv av)::qy e3 1 (jI zs (zf RM)).length av ((jI zs (zf RM)).map (.int .u64))::qy e1 2 (zf RM).length cv ((zf RM).flatMap jA)::qy e2 1 (ju RM).length fv ((ju RM).map (.int .i64))::R):=H11;refine qk (qD H11 (b:=b1) (off:=0) .here rfl omQ (l:=qJC RM cv fv av) rfl ?_);exact qj ⟨cv,fv,av,e1,e2,e3,rfl,hsr,H11.sub (.cons e_3 (.cons e_3 (.cons e_2 (.drop (.drop .refl)))))⟩
 intro j hj;refine qQ (qK ‹_› .here rfl ?_);by_cases k2:RM.kind=2
 ·refine qx k2 ?_;refine qZ (qG (Mm omQ (H7.sel (P:=IntC x v l 0 (qL l) RM.s RM.err (if RM.kind=1 then 0 else RM.kind) (RM.left:Int) nx) e_1) RB.gb.out) ?_);rintro _ h8 ⟨p,rfl,H8⟩;refine qG (qXr omQ H8 (by have:=RB.gb.out;omega) RB.gb.its) ?_;rintro _ h9 ⟨rfl,H9⟩;refine qG (Qh omQ (H9.sel (P:=ViewC v RM.v) e_3) RB.good.ok) λcv h10 H10=>?_;refine qG (Mj omQ (H10.sel (P:=ViewC v RM.v) e_1) RB.good.ok) λfv h11 H11=>?_;clear H8 H9 H10;have w1:=shp H11 .here;have w2:=shp H11 e_2;refine qQ (qw H11 (b:=b2) e_5 (x:=.str (qQl RM.s.out)) ⟨rfl,rfl⟩ (by show 2<6;omega) λh12 H12=>?_);refine qQ (qw H12 (b:=b2) .here (GQ w2) (by show 3<6;omega) λh13 H13=>?_);refine qQ (qw H13 (b:=b2) .here (GQ w1) (by show 4<6;omega) λh14 H14=>?_)
  skip
  have t1:JL RM=qQl RM.s.out:=iJ k2;have t2:zf RM=jJ RM.v.lv:=iJ k2;have t3:ju RM=vo RM.v.lv:=iJ k2;refine hj _ _ ⟨rfl,cv,fv,181,3,?_⟩;rw[t1,t2,t3];have H15:HS g h14 (qg b2 [.int .i64 RM.kind,.int .i64 RM.err,.str (qQl RM.s.out),cv,fv,.nils]::_):=H14;exact H15.sub (.cons .here (.cons e_2 (.cons .here (.cons e_3 (.drop (.drop (.drop (.drop .refl))))))))
 ·refine qX k2 ?_;refine qJ ?_;have t1:JL RM=[]:=iQ k2;have t2:zf RM=[]:=iQ k2;have t3:ju RM=[]:=iQ k2;refine hj _ _ ⟨rfl,.nils,.nils,181,3,?_⟩;rw[t1,t2,t3];have H8:=(H7.nils (e:=3) (sz:=1)).nils (e:=181) (sz:=2);exact H8.sub (.cons e_2 (.cons .here (.cons .here (.drop (.drop (.cons .here (.drop .refl)))))))
end
section
def Xo:Nat→Nat→jE→jL→jE×jL
 | 0,_,t,M=>(t,M)
 |n+1,i,t,M=>match yt t with
  |none=>(t,M)
  |some o=>Xo n (i+1) (xH t (jm M o).1 0 ((i:Int)+1)) (jm M o).2
inductive Kb:Nat→Nat→jE→jL→jE→jL→Prop
  |nil {i:Nat} {t:jE} {M:jL}:Kb i 0 t M t M
  |cons {i m:Nat} {t u:jE} {M N:jL} {o:OpM} (hn:yt t=some o) (r:Kb (i+1) m (xH t (jm M o).1 0 ((i:Int)+1)) (jm M o).2 u N):Kb i (m+1) t M u N
theorem Kb.run {i m:Nat} {t u:jE} {M N:jL} (s:Kb i m t M u N):∀n,Xo (m+n) i t M=Xo n (i+m) u N:=by
 induction s with
 |nil=>intro n;rw[Nat.zero_add];rfl
 |cons hn r ih=>
  intro n;rename_i i m t u M N o;rw[show m+1+n=(m+n)+1 by omega];have e:Xo ((m+n)+1) i t M=Xo (m+n) (i+1) (xH t (jm M o).1 0 ((i:Int)+1)) (jm M o).2:=by show(match yt t with |none=>(t,M) |some o=>Xo (m+n) (i+1) (xH t (jm M o).1 0 ((i:Int)+1)) (jm M o).2)=_;rw[hn]
  rw[e,ih,show i+1+m=i+(m+1) by omega]
theorem Kb.trans {i m k:Nat} {t u v:jE} {M N P:jL} (s:Kb i m t M u N):Kb (i+m) k u N v P→Kb i (m+k) t M v P:=by
 induction s with
 |nil=>intro r;rw[Nat.zero_add];exact r
 |cons hn r ih=>rename_i i m t u M N o;intro q;rw[show m+1+k=(m+k)+1 by omega];exact .cons hn (ih (by rw[show i+1+m=i+(m+1) by omega];exact q))
structure qq8 (t u:jE):Prop where
  res:∃r,u.results=t.results++r
  past:u.past.length≤t.past.length+1
structure QN (t u:jE):Prop where
  res:u.results=t.results
  past:u.past=t.past
theorem QN.refl (t:jE):QN t t:=⟨rfl,rfl⟩
theorem QN.trans {t u v:jE} (a:QN t u) (b:QN u v):QN t v:=⟨b.res.trans a.res,b.past.trans a.past⟩
theorem Q6 (t:jE):QN t (zp t):=by unfold zp;split<;>exact⟨rfl,rfl⟩
theorem yC (t:jE):QN t (zY t):=(QN.trans (u:={ t with job:=t.job+1,sweep:=false,giving:=[],tries:=0,conf:=0 }) ⟨rfl,rfl⟩ (Q6 _))
theorem UE (t:jE) (d:Int):QN t (xP t d):=by
 unfold xP
 split
 ·exact(QN.trans (u:={ t with pauses:=0,state:=3 }) ⟨rfl,rfl⟩ (Q6 _))
 ·exact⟨rfl,rfl⟩
theorem Ml (t:jE):QN t (yr t):=by
 have key:∀u:jE,QN u (vK u):=λu=>by
  unfold vK
  split
  ·exact .refl u
  ·split
   ·exact(QN.trans (u:={ u with rests:=u.rests.filter λr=>!q9 u.slots r.2 }) ⟨rfl,rfl⟩ (yC _))
   ·exact(QN.trans (u:={ u with rests:=u.rests.filter (λr=>!q9 u.slots r.2),sweep:=true,giving:=u.rests.filter (λr=>q9 u.slots r.2),tries:=0,conf:=0 }) ⟨rfl,rfl⟩ (Q6 _))
 unfold yr
 split
 ·exact(QN.trans (u:={ t with slots:=t.slots++[0] }) ⟨rfl,rfl⟩ (key _))
 ·exact key t
theorem qGH (t:jE):QN t (vy t):=by
 unfold vy
 split
 ·exact yC t
 ·exact(QN.trans (u:={ t with state:=5,slots:=[] }) ⟨rfl,rfl⟩ (Ml _))
theorem Vz (t:jE) (f:Int):QN t (vL t f):=by
 unfold vL
 split
 ·exact(QN.trans (u:={ t with rests:=t.rests++t.giving }) ⟨rfl,rfl⟩ (yC _))
 ·exact yC t
theorem qq8.of {t u v:jE} (a:QN u v) {r:List KZ} (h:u.results=t.results++r) (hp:u.past.length≤t.past.length+1):qq8 t v:=⟨⟨r,a.res.trans h⟩,by rw[a.past];exact hp⟩
theorem qQ2 (t:jE) (x:jQ) (d p:Int):qq8 t (xJ t x d p):=by
 have h1:(t.past++[jP t x p]).length≤t.past.length+1:=by simp
 have h0:t.results=t.results++[]:=(List.append_nil _).symm;unfold xJ;dsimp only
 split
 ·split
  ·exact⟨⟨[],h0⟩,h1⟩
  ·exact .of (u:={ t with past:=t.past++[jP t x p],tries:=t.tries+1,conf:=t.conf+1 }) (UE _ _) h0 h1
 ·split
  ·split
   ·exact .of (u:={ t with past:=t.past++[jP t x p],tries:=t.tries+1 }) (Q6 _) h0 h1
   ·exact⟨⟨[],h0⟩,h1⟩
  ·split
   ·exact .of (u:={ t with past:=t.past++[jP t x p],tries:=t.tries+1 }) (Vz _ _) h0 h1
   ·exact .of (u:={ t with past:=t.past++[jP t x p],tries:=t.tries+1,results:=t.results++[⟨jc x,xc x,zE x,x.stamp⟩],rests:=t.rests++(zD x).map λb=>(b,x.stamp) }) (qGH _) rfl h1
theorem Nk (t:jE) (a:AnM) (d p:Int):qq8 t (xH t a d p):=by
 have h0:t.results=t.results++[]:=(List.append_nil _).symm;have hr:qq8 t t:=⟨⟨[],h0⟩,Nat.le_succ _⟩;unfold xH
 split
 ·split
  ·exact hr
  ·rename_i x _;unfold kz;dsimp only
   split
   ·exact⟨⟨[],h0⟩,Nat.le_succ _⟩
   ·have G:=qQ2 { t with now:=some (jb x a),born:=if(jb x a).begun=true∧x.begun=false then p else t.born } (jb x a) d p;exact⟨G.res,G.past⟩
 ·split
  ·split
   ·exact⟨⟨[],h0⟩,Nat.le_succ _⟩
   ·exact .of (u:=t) (UE _ _) h0 (Nat.le_succ _)
  ·split
   ·exact .of (u:={ t with slots:=t.slots++[if a.err≠0 then 0 else a.word] }) (Ml _) h0 (Nat.le_succ _)
   ·exact hr
def ThrW (t:jE):Prop:=∀x,t.now=some x→JS x
theorem ThrW.same {t u:jE} (W:ThrW t) (h:u.now=t.now):ThrW u:=λx hx=>W x (h▸hx)
theorem Q5 (t:jE):ThrW (zp t):=by
 unfold zp
 split
 ·exact λx h=>by cases h
 ·intro x h;cases h
  split
  ·exact qZr
  ·exact qZr
theorem gL (t:jE):ThrW (zY t):=Q5 _
theorem Ux {t:jE} (W:ThrW t) (d:Int):ThrW (xP t d):=by
 unfold xP
 split
 ·exact Q5 _
 ·exact W.same rfl
theorem Me {t:jE} (W:ThrW t):ThrW (yr t):=by
 have key:∀u:jE,ThrW u→ThrW (vK u):=λu W=>by
  unfold vK
  split
  ·exact W
  ·split
   ·exact gL _
   ·exact Q5 _
 unfold yr
 split
 ·exact key _ (W.same rfl)
 ·exact key _ W
theorem qJ7 {t:jE} (W:ThrW t) (x:jQ) (d p:Int):ThrW (xJ t x d p):=by
 unfold xJ;dsimp only
 split
 ·split
  ·exact W.same rfl
  ·exact Ux (t:={ t with past:=t.past++[jP t x p],tries:=t.tries+1,conf:=t.conf+1 }) (W.same rfl) _
 ·split
  ·split
   ·exact Q5 _
   ·exact W.same rfl
  ·split
   ·unfold vL;exact gL _
   ·unfold vy
    split
    ·exact gL _
    ·exact Me (t:={ t with past:=t.past++[jP t x p],tries:=t.tries+1,results:=t.results++[⟨jc x,xc x,zE x,x.stamp⟩],rests:=t.rests++(zD x).map λb=>(b,x.stamp),state:=5,slots:=[] }) (W.same rfl)
theorem qGE {t:jE} (O:gI t) (W:ThrW t) {a:AnM} (ha:X8 a) (d p:Int):ThrW (xH t a d p):=by
 unfold xH
 split
 ·rename_i h1
  split
  ·exact W
  ·rename_i x hx;have C:=O.c omQ;have hN:=(C.now x hx).1;have W1:JS (jb x a):=M4 hN (W x hx) ha;unfold kz;dsimp only
   split
   ·intro y hy;cases hy;exact W1
   ·refine qJ7 (λy hy=>?_) _ _ _;cases hy;exact W1
 ·split
  ·split
   ·exact W.same rfl
   ·exact Ux W _
  ·split
   ·exact Me (t:={ t with slots:=t.slots++[if a.err≠0 then 0 else a.word] }) (W.same rfl)
   ·exact W
theorem qK3 {t:jE} {o:OpM} (O:gI t) (W:ThrW t) (h:yt t=some o):U64 o.word:=by
 have z0:U64 (0:Int):=⟨Int.le_refl _,by decide⟩;unfold yt at h
 split at h
 ·rename_i h1;have C:=O.c omQ;cases hx:t.now with
  |none=>exact absurd hx C.some
  |some x=>rw[hx]at h;exact NY (C.now x hx).1 (W x hx) h
 ·split at h
  ·cases h;exact z0
  ·split at h
   ·cases h;exact z0
   ·cases h
theorem M6 {t:jE} {x:jQ} {a:AnM} {d p:Int} (h1:t.state=1) (hx:t.now=some x):xH t a d p=kz t x (jb x a) d p:=by
 unfold xH;rw[iJ h1]
 split
 ·rename_i h2;rw[hx]at h2;cases h2
 ·rename_i y h2;rw[hx]at h2;cases h2;rfl
theorem Mx {t:jE} {x:jQ} (h1:t.state=1) (hx:t.now=some x):yt t=xq x:=by unfold yt;rw[iJ h1,hx];rfl
theorem qJd {x:jQ} {o:OpM} (h:xq x=some o):jc x=0:=by unfold jc;rw[iJ];intro h8;unfold xq at h;rw[iQ omQ,iQ omQ,iQ omQ,iQ omQ,iJ h8]at h;cases h
theorem qQc:∀(m:Nat) {i:Nat} {x y:jQ} {M N:jL} {t:jE},Stp (m+1) x M y N→jc y≠0→t.state=1→t.now=some x→
  ∃b,Kb i (m+1) t M (xJ { t with now:=some y,born:=b } y 0 ((i+m:Nat)+1)) N:=by
 intro m
 induction m with
 |zero=>
  intro i x y M N t s hy h1 hx;cases s with
  |cons hn r=>rename_i o;cases r;refine⟨if(jb x (jm M o).1).begun=true∧x.begun=false then(i:Int)+1 else t.born,.cons ((Mx h1 hx).trans hn) ?_⟩;rw[M6 h1 hx];unfold kz;dsimp only;rw[iQ hy];exact .nil
 |succ m ih=>
  intro i x y M N t s hy h1 hx;cases s with
  |cons hn r=>
   rename_i o;have r0:=r;cases r with
   |cons hn2 r2=>
    have hg:=qJd hn2;have e:xH t (jm M o).1 0 ((i:Int)+1)={ t with now:=some (jb x (jm M o).1),born:=if(jb x (jm M o).1).begun=true∧x.begun=false then(i:Int)+1 else t.born }:=by rw[M6 h1 hx];unfold kz;dsimp only;rw[iJ hg]
    obtain⟨b,q⟩:=ih (i:=i+1) (t:={ t with now:=some (jb x (jm M o).1),born:=if(jb x (jm M o).1).begun=true∧x.begun=false then(i:Int)+1 else t.born }) r0 hy h1 rfl;refine⟨b,.cons ((Mx h1 hx).trans hn) ?_⟩;rw[e];rw[show i+1+m=i+(m+1) by omega]at q;exact q
end
section
theorem qZn {S:xw} {M N:jL} {me fin:Int} {V:RM} {l:List qR} {y:jQ} (E:qXe S M me ((V.kind,V.err),.prog ⟨l,V.s,fin,V.err,V.left⟩,V.v) y N) (herr:V.kind≠4→V.err=0) :
  jc y=V.kind∧xc y=V.err∧zD y=ju V∧zE y=JL V:=by
 have Eerr:y.err=if V.kind=4 then V.err else 0:=E.err
 have hE:jc y=V.kind:=by unfold jc;rw[iQ (λh=>h E.st)];exact E.fin
 have hWr:zP y=false:=by unfold zP;rw[iV (λh=>h E.st)];rfl
 have hCm:xy y=decide (V.kind=2):=by unfold xy;rw[hE,hWr,Bool.or_false]
 refine⟨hE,?_,?_,?_⟩
 ·unfold xc;rw[iQ (λh=>h E.st),Eerr];by_cases h4:V.kind=4
  ·rw[iJ h4]
  ·rw[iQ h4,herr h4]
 ·unfold zD ju;rw[hCm,E.lv,E.job];by_cases k2:V.kind=2
  ·rw[iG k2,iJ rfl,iJ k2]
  ·rw[iV k2,iQ od,iQ k2]
 ·unfold zE JL;rw[hCm,E.job];by_cases k2:V.kind=2
  ·rw[iG k2,iJ rfl,iJ k2]
  ·rw[iV k2,iQ od,iQ k2]
theorem qvS:∀(bs:List Int) (V:VM) (k:Nat),(jB V bs k).1.2=(yQ V bs).1∧(jB V bs k).2=(yQ V bs).2:=by
 intro bs
 induction bs with
 |nil=>intro V k;exact⟨rfl,rfl⟩
 |cons b r ih=>
  intro V k;unfold jB yQ;by_cases h:(zG V b).1=0
  ·rw[iJ h,iJ h];exact ih _ _
  ·rw[iQ h,iQ h];exact⟨rfl,rfl⟩
structure TJ (S:xw) (js:List (List qR)) (k:Nat) (t:jE) (M:jL):Prop where
  set:t.set=S
  me:t.me=0
  jobs:t.jobs=js
  job:t.job=k
  sweep:t.sweep=false
  giving:t.giving=[]
  rests:t.rests=[]
  alarm:t.alarm=false
  now:(k=js.length∧t.state=6)∨(k<js.length∧t.state=1∧t.now=some (vh 0 S ((js[k]?).getD [])))
  res:t.results.length=k
  calm:yw S M 0
  sl:M.s=[0]
  w0:M.w[0]? =some 0
  n:M.n≤S.start+2*k
theorem Ys {S:xw} {js:List (List qR)} {k:Nat} {t:jE} {M:jL} (h1:t.set=S) (h2:t.me=0) (h3:t.jobs=js) (h4:t.job=k) (hk:k<js.length) (h5:t.rests=[]) (h6:t.results.length=k+1) (C:yw S M 0) (hs:M.s=[0]) (hw:M.w[0]? =some 0) (hn:M.n≤S.start+2*(k+1:Nat)) :
  TJ S js (k+1) (zY t) M:=by
 subst h1 h3;have e:(t.job+1=(t.jobs.length:Int))↔k+1=t.jobs.length:=by rw[h4];omega
 unfold zY zp;dsimp only;by_cases c:k+1=t.jobs.length
 ·rw[iJ (e.2 c)];exact⟨rfl,h2,rfl,by show t.job+1=_;rw[h4];rfl,rfl,rfl,h5,rfl,.inl ⟨c,rfl⟩,h6,C,hs,hw,hn⟩
 ·rw[iQ (λh=>c (e.1 h)),iQ od];refine⟨rfl,h2,rfl,by show t.job+1=_;rw[h4];rfl,rfl,rfl,h5,rfl,.inr ⟨by omega,rfl,?_⟩,h6,C,hs,hw,hn⟩;show some (vh t.me t.set ((t.jobs[(t.job+1).toNat]?).getD []))=_;rw[h2,h4,show((k:Int)+1).toNat=k+1 by omega]
theorem qkO {m:Nat} {x y:jQ} {M N:jL} (s:Stp m x M y N):zl x→JS x→qQ0 M→zl y∧JS y∧qQ0 N:=by
 induction s with
 |nil=>exact λa b c=>⟨a,b,c⟩
 |cons hn _ ih=>intro O W Q;have r:=qXp Q (NY O W hn);exact ih (KV O r.1) (M4 O W r.1) r.2
theorem qzs {S:xw} {M:jL} (C:yw S M 0) (hs:M.s=[0]):qQ0 M:=by
 have hn:=C.n;refine⟨C.wd,⟨by omega,by omega⟩,λz hz=>?_⟩;rw[hs]at hz;rcases List.mem_cons.1 hz with rfl |h
 ·exact⟨Int.le_refl _,by decide⟩
 ·cases h
theorem set_0:∀(cs:List Cl) (w:List Int),w[0]? =some 0→(∀c∈cs,1≤c.1)→(cs.foldl (λw c=>w.set c.1.toNat c.2) w)[0]? =some 0:=by
 intro cs
 induction cs with
 |nil=>intro w h _;exact h
 |cons c r ih=>intro w h hc;have h1:=hc c (iK ..);rw[List.foldl_cons];exact ih _ (by rw[List.getElem?_set_ne omQ];exact h) λd hd=>hc d (iX _ hd)
theorem qJI {S:xw} {js:List (List qR)} {k i:Nat} {t:jE} {M:jL} (O:gr S) (hSS:jw S=S) (hb:S.start≤1000) (hj:∀l∈js,(xB l).2=0∧Quiet l) (T:TJ S js k t M) (hk:k<js.length) (hk6:js.length≤6) :
  ∃(m:Nat) (y:jQ) (N:jL) (b:Int),m≤3*(QR S.words S.writes).sz+431∧Kb i (m+1) t M (xJ { t with now:=some y,born:=b } y 0 ((i+m:Nat)+1)) N∧zl y∧qjC y.job=false∧
   qXe S M 0 (((yM js[k] (zv S.fuel) M.w S.writes).kind,(yM js[k] (zv S.fuel) M.w S.writes).err),.prog ⟨js[k],(yM js[k] (zv S.fuel) M.w S.writes).s,if(yM js[k] (zv S.fuel) M.w S.writes).kind=1 then 0 else(yM js[k] (zv S.fuel) M.w S.writes).kind,(yM js[k] (zv S.fuel) M.w S.writes).err,(yM js[k] (zv S.fuel) M.w S.writes).left⟩,(yM js[k] (zv S.fuel) M.w S.writes).v) y N:=by
 have hl:=hj _ (List.getElem_mem hk);have C:=T.calm;have hTn:=T.n;have hf:zv S.fuel≤400:=by unfold zv;omega
 have hj0:JobOk True (QR S.words S.writes) (.prog ⟨js[k],YX,0,0,zv S.fuel⟩):=by have G:=KX S.words S.writes;exact⟨QM hl.1,hl.2,(JA (l:=js[k]) rfl G).gb,λ_=>⟨JA rfl G,rfl,rfl,by show(0:Nat)+zv S.fuel<9000;omega⟩,hf⟩
 have hjW:JobOk True (jM M.w S.writes) (.prog ⟨js[k],YX,0,0,zv S.fuel⟩):=by have G:=Qk (m:=S.writes) C.wd;exact⟨QM hl.1,hl.2,(JA (l:=js[k]) rfl G).gb,λ_=>⟨JA rfl G,rfl,rfl,by show frS (jM M.w S.writes).lv+zv S.fuel<9000;rw[Xe];omega⟩,hf⟩
 obtain⟨m,y,N,hm,st,E,_⟩:=Kw O C omQ hj0 hjW;have eA:vh 0 S js[k]=G8 0 S (.prog ⟨js[k],YX,0,0,zv S.fuel⟩):=by unfold vh;rw[hSS]
 have hOy:=(qkO st (by rw[← eA];exact U6 O.start.1 hl.1 hl.2) qZr (qzs C T.sl)).1;have hkd:=E.kind;have hE:jc y≠0:=by unfold jc;rw[iQ (λh=>h E.st),E.fin];omega
 obtain⟨m,rfl⟩:∃m',m=m'+1:=by
  cases m with
  |zero=>cases st;exact absurd E.st (show¬(0:Int)=8 by decide)
  |succ m=>exact⟨m,rfl⟩
 have hnow:t.state=1∧t.now=some (vh 0 S js[k]):=by
  rcases T.now with⟨h,_⟩ |⟨_,h1,h2⟩
  ·omega
  ·rw[iW hk]at h2;exact⟨h1,h2⟩
 obtain⟨b,q⟩:=qQc m (i:=i) (t:=t) st hE hnow.1 (by rw[hnow.2,eA]);refine⟨m,y,N,b,by omega,q,hOy,by rw[E.job];rfl,E⟩
end
section
def Kq (S:xw) (l:List qR) (w:List Int):List Int :=
 jI (jI w (zf (yM l (zv S.fuel) w S.writes))) (jJ (yQ (jM (jI w (zf (yM l (zv S.fuel) w S.writes))) S.writes) (ju (yM l (zv S.fuel) w S.writes))).2.lv)
theorem qzU (l:List Kv):(l.filter λr=>q9 [0] r.2)=l∧(l.filter λr=>!q9 [0] r.2)=[]:=by
 have h:∀z:Int,q9 [0] z=true:=λz=>by unfold q9;simp
 constructor
 ·exact List.filter_eq_self.2 λr _=>h r.2
 ·exact List.filter_eq_nil_iff.2 λr _=>by rw[h];decide
theorem qX3 {S:xw} {M N:jL} {R:(Int×Int)×Jx×VM} {y:jQ} (O:gr S) (C:yw S M 0) (hs:M.s=[0]) (h0:M.w[0]? =some 0) (E:qXe S M 0 R y N) (I:InV R.2.2) (hsz:R.2.2.sz=szZ M.w.length) :
  N.w=jI M.w (if R.1.1=2 then jJ R.2.2.lv else[])∧N.s=[0]∧N.w[0]? =some 0∧N.n≤M.n+1:=by
 have hl:=C.w;have hw:=O.words;have hcin:∀c∈jJ R.2.2.lv,1≤c.1∧c.1<M.w.length:=λc hc=>by
  obtain⟨x,hx,h1⟩:=YU hc;have:=I x hx c h1;rw[hsz]at this;unfold szZ at this;omega
 refine⟨?_,by rw[E.s,hs];rfl,?_,?_⟩
 ·rw[E.w];by_cases k2:R.1.1=2
  ·rw[iJ k2,iJ k2,Yc h0 omQ omQ hcin]
  ·rw[iQ k2,iQ k2,Yc h0 omQ omQ (λc h=>by cases h)];rfl
 ·rw[E.w]
  split
  ·exact set_0 _ _ h0 λc hc=>(hcin c hc).1
  ·exact h0
 ·rw[E.n]
  split<;>omega
theorem qV6 {w:List Int} (h0:w[0]? =some 0) (h1:32≤w.length) (h2:w.length≤256):jI w []=w:=by rw[Yc h0 h1 h2 (λc h=>by cases h)];rfl
theorem qYD {S:xw} {js:List (List qR)} {k i:Nat} {t:jE} {M:jL} (O:gr S) (hSS:jw S=S) (hth:S.threads=1) (hb:S.start≤1000) (hj:∀l∈js,(xB l).2=0∧Quiet l) (T:TJ S js k t M) (hk:k<js.length) (hk6:js.length≤6)
  {V:RM} (hV:yM js[k] (zv S.fuel) M.w S.writes=V) :
  ∃(m:Nat) (t':jE) (M':jL),m≤6*(QR S.words S.writes).sz+864∧Kb i m t M t' M'∧(V.kind=3→t'.state=4∧t'.results=t.results)∧
   (V.kind≠3→(∃z,t'.results=t.results++[⟨V.kind,V.err,JL V,z⟩])∧((yQ (jM (jI M.w (zf V)) S.writes) (ju V)).1=0→TJ S js (k+1) t' M'∧M'.w=Kq S js[k] M.w))∧(∀z∈jI M.w (zf V),0≤z∧z<18446744073709551616)∧(ju V).length≤9000:=by
 have hl:=hj _ (List.getElem_mem hk);have C:=T.calm;have hTn:=T.n;have hlw:=C.w;have hww:=O.words;obtain⟨m,y,N,b,hm,q,Oy,hsw,E⟩:=qJI (i:=i) O hSS hb hj T hk hk6;have herr:(yM js[k] (zv S.fuel) M.w S.writes).kind≠4→(yM js[k] (zv S.fuel) M.w S.writes).err=0:=qq0 _
 have hins:InV (yM js[k] (zv S.fuel) M.w S.writes).v:=InV.run _ (λx hx c hc=>by
  rcases List.mem_cons.1 hx with rfl |hx
  ·cases hc
  ·cases hx)
 have hvsz:(yM js[k] (zv S.fuel) M.w S.writes).v.sz=szZ M.w.length:=(Gs (QM hl.1) hl.2 (zv S.fuel) (Kr (l:=js[k]) (zs:=M.w) (m:=S.writes) C.wd) (by rw[Xe];unfold zv;omega)).1.sz;have hA:Kq S js[k] M.w=jI (jI M.w (zf V)) (jJ (yQ (jM (jI M.w (zf V)) S.writes) (ju V)).2.lv):=by unfold Kq;rw[hV]
 rw[hA];rw[hV]at E herr hins hvsz;obtain⟨hE,hErr,hF,hS⟩:=qZn E herr;obtain⟨w1,w2,w3,w4⟩:=qX3 O C T.sl T.w0 E hins hvsz;have w1:N.w=jI M.w (zf V):=w1;have hkd:V.kind=2∨V.kind=3∨V.kind=4:=E.kind;have hlN:=E.calm.w;have hzz:∀z∈jI M.w (zf V),0≤z∧z<18446744073709551616:=by rw[← w1];exact E.calm.wd
 have hf9:(ju V).length≤9000:=by rw[← hF];exact kB Oy hsw
 by_cases k3:V.kind=3
 ·refine⟨m+1,_,N,by omega,q,λ_=>?_,λh=>absurd k3 h,hzz,hf9⟩;unfold xJ;dsimp only;rw[iQ omQ,iJ omQ,iQ (by rw[T.alarm];decide)];exact⟨rfl,rfl⟩
 ·let u:jE:={ t with now:=some y,born:=b,past:=t.past++[jP { t with now:=some y,born:=b } y ((i+m:Nat)+1)],tries:=t.tries+1,results:=t.results++[⟨V.kind,V.err,JL V,y.stamp⟩],rests:=(ju V).map λb=>(b,y.stamp) }
  have e1:xJ { t with now:=some y,born:=b } y 0 ((i+m:Nat)+1)=vy u:=by unfold xJ;dsimp only;rw[iQ omQ,iQ omQ,iQ (by rw[T.sweep];decide),hE,hErr,hF,hS,T.rests,List.nil_append];rfl
  rw[e1]at q;have hres:u.results.length=k+1:=by show(t.results++[_]).length=_;rw[List.length_append,T.res];rfl
  by_cases hfr:ju V=[]
  ·have e2:vy u=zY u:=by
    unfold vy;rw[iJ (by show(ju V).map _=[];rw[hfr];rfl)]
   rw[e2]at q;have tj:=Ys (t:=u) T.set T.me T.jobs T.job hk (by show(ju V).map _=[];rw[hfr];rfl) hres E.calm w2 w3 omQ;refine⟨m+1,_,N,by omega,q,λh=>absurd h k3,λ_=>⟨⟨y.stamp,(yC u).res⟩,λ_=>⟨tj,?_⟩⟩,hzz,hf9⟩;rw[hfr,w1];rw[w1]at hlN w3;exact(qV6 w3 omQ omQ).symm
  ·have hfl:(ju V).length≤9000:=by rw[← hF];exact kB Oy hsw
   have hpf:=qzU ((ju V).map λb=>(b,y.stamp));have hne:(ju V).map (λb=>(b,y.stamp))≠[]:=λh=>hfr (List.map_eq_nil_iff.1 h);have hfst:((ju V).map λb=>(b,y.stamp)).map (·.1)=ju V:=by rw[List.map_map];exact List.map_id _
   let v:jE:={ u with me:=0,set:=S,slots:=[0],rests:=[],sweep:=true,giving:=(ju V).map (λb=>(b,y.stamp)),tries:=0,conf:=0,born:=0,alarm:=false,state:=1,now:=some (gB 0 S (ju V)) }
   have e2:vy u=v:=by unfold vy;rw[iQ hne];unfold yr;rw[iJ (by show(0:Int)=t.me;rw[T.me])];unfold vK;rw[iQ (by show¬(1:Int)<t.set.threads;rw[T.set,hth];decide)];dsimp only;rw[show u.rests=(ju V).map (λb=>(b,y.stamp))from rfl,show([]:List Int)++[0]=[0]from rfl,hpf.1,hpf.2,iQ hne];unfold zp;rw[iQ (by show¬t.job=(t.jobs.length:Int);rw[T.job,T.jobs];omega)];dsimp only;rw[iJ rfl,hfst,show u.me=0 from T.me,show u.set=S from T.set]
   rw[e2]at q;have hwd:=E.calm.wd;have GW:=Qk (m:=S.writes) hwd;obtain⟨m2,y2,N2,hm2,st2,E2,_⟩:=Kw O E.calm omQ (j:=.sweep (ju V) 0) ⟨Nat.zero_le _,by omega⟩ ⟨Nat.zero_le _,by omega⟩
   have hI2:InV (jD (.sweep (ju V) 0) (jM N.w S.writes)).2.2:=O9 (λx hx c hc=>by
    rcases List.mem_cons.1 hx with rfl |hx
    ·cases hc
    ·cases hx)
   have hg:=qvS (ju V) (jM N.w S.writes) 0;have hk2:=VE (ju V) 0 GW;have hsz2:(jD (.sweep (ju V) 0) (jM N.w S.writes)).2.2.sz=szZ N.w.length:=hk2.2.1.sz;obtain⟨x1,x2,x3,x4⟩:=qX3 O E.calm w2 w3 E2 hI2 hsz2;have hkd2:=E2.kind;have hR:jD (.sweep (ju V) 0) (jM N.w S.writes)=(if(yQ (jM N.w S.writes) (ju V)).1=11 then(1,0)else if(yQ (jM N.w S.writes) (ju V)).1=0 then(2,0)else(4,(yQ (jM N.w S.writes) (ju V)).1),.sweep (ju V) (jB (jM N.w S.writes) (ju V) 0).1.1,(yQ (jM N.w S.writes) (ju V)).2):=by rw[← hg.1,← hg.2];rfl
   have hE2:jc y2=(jD (.sweep (ju V) 0) (jM N.w S.writes)).1.1:=by unfold jc;rw[iQ (λh=>h E2.st)];exact E2.fin
   have hk24:jc y2=(if(yQ (jM N.w S.writes) (ju V)).1=0 then 2 else 4):=by
    rw[hE2];rw[hR]at hkd2 ⊢;dsimp only at hkd2 ⊢
    split at hkd2
    ·omega
    ·rename_i h11;rw[iQ h11]
     split<;>rfl
   obtain⟨m2,rfl⟩:∃m',m2=m'+1:=by
    cases m2 with
    |zero=>cases st2;exact absurd E2.st (show¬(0:Int)=8 by decide)
    |succ m=>exact⟨m,rfl⟩
   obtain⟨b2,q2⟩:=qQc m2 (i:=i+(m+1)) (t:=v) st2 (by rw[hk24];split<;>decide) rfl (by show some (gB 0 S (ju V))=_;unfold gB;rw[hSS]);have qq:=q.trans q2;have e3:xJ { v with now:=some y2,born:=b2 } y2 0 ((i+(m+1)+m2:Nat)+1)=vL { v with now:=some y2,born:=b2,past:=v.past++[jP { v with now:=some y2,born:=b2 } y2 ((i+(m+1)+m2:Nat)+1)],tries:=0+1 } (jc y2):=by unfold xJ;dsimp only;rw[iQ (by rw[hk24];split<;>decide),iQ (by rw[hk24];split<;>decide),iJ rfl]
   rw[e3]at qq;refine⟨_,_,N2,by omega,qq,λh=>absurd h k3,λ_=>⟨⟨y.stamp,(Vz _ _).res⟩,λh0=>?_⟩,hzz,hf9⟩;rw[← w1]at h0;rw[hk24,iJ h0];unfold vL;rw[iQ od];refine⟨Ys rfl rfl T.jobs T.job hk rfl hres E2.calm x2 x3 omQ,?_⟩;rw[x1,hR,w1];dsimp only;rw[← w1,h0];rfl
end
section
theorem qGt:∀(n i:Nat) (t:jE) (M:jL),∃r,(Xo n i t M).1.results=t.results++r:=by
 intro n
 induction n with
 |zero=>intro i t M;exact⟨[],(List.append_nil _).symm⟩
 |succ n ih=>
  intro i t M;unfold Xo
  split
  ·exact⟨[],(List.append_nil _).symm⟩
  ·rename_i o _;obtain⟨r,hr⟩:=ih (i+1) (xH t (jm M o).1 0 ((i:Int)+1)) (jm M o).2;obtain⟨r2,h2⟩:=(Nk t (jm M o).1 0 ((i:Int)+1)).res;exact⟨r2++r,by rw[hr,h2,List.append_assoc]⟩
theorem G7 {n i:Nat} {t:jE} {M:jL} (h:yt t=none):Xo n i t M=(t,M):=by
 cases n with
 |zero=>rfl
 |succ n=>unfold Xo;rw[h]
theorem Nv {t:jE} (h:t.state=4∨t.state=6):yt t=none:=by unfold yt;rw[iQ omQ,iQ omQ,iQ omQ]
def ByJ (S:xw) (js:List (List qR)) (F:jE×jL) (k:Nat) (w:List Int):Prop :=
 ∃(n i:Nat) (t:jE) (M:jL),9000≤n+(6*(QR S.words S.writes).sz+864)*k∧Xo n i t M=F∧TJ S js k t M∧M.w=w
theorem ByJ.done {S:xw} {js:List (List qR)} {F:jE×jL} {w:List Int} (B:ByJ S js F js.length w):F.1.state=6∧F.2.w=w:=by
 obtain⟨n,i,t,M,_,hr,T,hw⟩:=B;rcases T.now with⟨_,h6⟩ |⟨h,_⟩
 ·rw[G7 (Nv (.inr h6))]at hr;subst hr;exact⟨h6,hw⟩
 ·omega
theorem ByJ.step {S:xw} {js:List (List qR)} {F:jE×jL} {k:Nat} {w:List Int} (O:gr S) (hSS:jw S=S) (hth:S.threads=1) (hw80:S.words≤80) (hb:S.start≤1000) (hj:∀l∈js,(xB l).2=0∧Quiet l) (hk:k<js.length) (hk5:js.length≤5) (B:ByJ S js F k w)
  {V:RM} (hV:yM js[k] (zv S.fuel) w S.writes=V) :
  (V.kind=3→F.1.state=4∧F.1.results.length=k)∧
  (V.kind≠3→(∃(p:List KZ) (z:Int) (r:List KZ),p.length=k∧F.1.results=p++⟨V.kind,V.err,JL V,z⟩::r)∧
   ((yQ (jM (jI w (zf V)) S.writes) (ju V)).1=0→ByJ S js F (k+1) (Kq S js[k] w)))∧(∀z∈jI w (zf V),0≤z∧z<18446744073709551616)∧(ju V).length≤9000:=by
 obtain⟨n,i,t,M,hn,hr,T,rfl⟩:=B;obtain⟨m,t',M',hm,q,h3,h4,h5',h6'⟩:=qYD (i:=i) O hSS hth hb hj T hk omQ hV;have hsz:(QR S.words S.writes).sz≤80:=by have:=O.words;show szZ S.words≤80;unfold szZ;omega
 have hmn:m≤n:=by have:(6*(QR S.words S.writes).sz+864)*k≤1344*4:=Nat.mul_le_mul omQ omQ;omega
 have e:=q.run (n-m);rw[show m+(n-m)=n by omega,hr]at e;refine⟨λh=>?_,λh=>⟨?_,λh0=>?_⟩,h5',h6'⟩
 ·obtain⟨h5,h6⟩:=h3 h;rw[G7 (Nv (.inl h5))]at e;rw[e];exact⟨h5,by show t'.results.length=k;rw[h6];exact T.res⟩
 ·obtain⟨⟨z,hz⟩,_⟩:=h4 h;obtain⟨r,hr2⟩:=qGt (n-m) (i+m) t' M';rw[← e,hz,List.append_assoc]at hr2;exact⟨t.results,z,r,T.res,hr2⟩
 ·obtain⟨_,h5⟩:=h4 h;obtain⟨T',hw⟩:=h5 h0;refine⟨n-m,i+m,t',M',?_,e.symm,T',hw⟩;rw[Nat.mul_add,Nat.mul_one];omega
theorem qgE {S s:xw} {js:List (List qR)} {M:jL} (hs:jw s=S) (hth:S.threads=1) (h6:js.length≤6) (C:yw S M 0) (hsl:M.s=[0]) (hw:M.w[0]? =some 0) (hn:M.n≤S.start):TJ S js 0 (UA 0 s js) M:=by
 have ht:js.take 6=js:=List.take_of_length_le h6;unfold UA;rw[hs,hth,ht];unfold zY zp;dsimp only;by_cases c:js=[]
 ·subst c;rw[iJ (show(-1:Int)+1=(([]:List (List qR)).length:Int)from rfl)];exact⟨rfl,rfl,rfl,rfl,rfl,rfl,rfl,rfl,.inl ⟨rfl,rfl⟩,rfl,C,hsl,hw,by omega⟩
 ·have hl:0<js.length:=List.length_pos_iff.2 c;rw[iQ (by show¬(-1:Int)+1=(js.length:Int);omega),iQ od];exact⟨rfl,rfl,rfl,rfl,rfl,rfl,rfl,rfl,.inr ⟨hl,rfl,rfl⟩,rfl,C,hsl,hw,by omega⟩
theorem qYM {M:jL} {o:OpM}:(jm M o).2.w.length=M.w.length:=by
 have key:(y9 M o).2.w.length=M.w.length:=by
  unfold y9 J0 QV Jb Gx
  repeat' split
  all_goals first |rfl |exact List.length_set
 rw[wS]
 split
 ·exact key
 ·exact key
theorem QD (t:jE):(zp t).jobs=t.jobs:=by unfold zp;split<;>rfl
theorem w9 (t:jE):(zY t).jobs=t.jobs:=QD _
theorem KC (t:jE) (d:Int):(xP t d).jobs=t.jobs:=by
 unfold xP
 split
 ·exact QD _
 ·rfl
theorem VR (t:jE):(yr t).jobs=t.jobs:=by
 have key:∀u:jE,(vK u).jobs=u.jobs:=λu=>by
  unfold vK
  split
  ·rfl
  ·split
   ·exact w9 _
   ·exact QD _
 unfold yr
 split
 ·exact key _
 ·exact key _
theorem qQR (t:jE) (x:jQ) (d p:Int):(xJ t x d p).jobs=t.jobs:=by
 unfold xJ;dsimp only
 split
 ·split
  ·rfl
  ·exact KC _ _
 ·split
  ·split
   ·exact QD _
   ·rfl
  ·split
   ·unfold vL;rw[w9]
    split<;>rfl
   ·unfold vy
    split
    ·exact w9 _
    ·exact VR _
theorem qZI (t:jE) (a:AnM) (d p:Int):(xH t a d p).jobs=t.jobs:=by
 unfold xH
 split
 ·split
  ·rfl
  ·unfold kz;dsimp only
   split
   ·rfl
   ·exact qQR _ _ _ _
 ·split
  ·split
   ·rfl
   ·exact KC _ _
  ·split
   ·exact VR _
   ·rfl
theorem qv6:∀(n i:Nat) (t:jE) (M:jL),(Xo n i t M).1.jobs=t.jobs:=by
 intro n
 induction n with
 |zero=>intro i t M;rfl
 |succ n ih=>
  intro i t M;unfold Xo
  split
  ·rfl
  ·rw[ih,qZI]
theorem ByJ.w {S:xw} {js:List (List qR)} {F:jE×jL} {k:Nat} {w:List Int} (B:ByJ S js F k w):(∀z∈w,0≤z∧z<18446744073709551616)∧(w.length:Int)=S.words∧w[0]? =some 0∧F.1.jobs=js:=by obtain⟨n,i,t,M,_,hr,T,rfl⟩:=B;exact⟨T.calm.wd,T.calm.w,T.w0,by rw[← hr,qv6,T.jobs]⟩
theorem UO {A L R:List SP} {P:SP} (s:Sel L P R):Sel (A++L) P (A++R):=by
 induction A with
 |nil=>exact s
 |cons x r ih=>exact .there ih
theorem U7 {A R:List SP} {P:SP}:Sel (A++P::R) P (A++R):=by
 induction A with
 |nil=>exact .here
 |cons x r ih=>exact .there ih
theorem qV8 {g h:AH} {A R:List SP} {P Q T:SP} (H:HS g h (P::Q::T::(A++R))):HS g h (.all A::P::Q::T::R) :=
 HS.allI (HS.unsel U7 (HS.unsel (.there U7) ((HS.unsel (.there (.there U7)) (H.sel e_2)).sel e_1) |>.sel .here))
end
section
variable {g h:AH} {L R:List SP}
theorem qVA:∀{l:List Cl} {c:Cl},UnC l→c∈l→zj c.1 l=some c.2:=by
 intro l
 induction l with
 |nil=>intro c _ h;cases h
 |cons d l ih=>
  intro c hu hc;unfold UnC at hu;rw[List.map_cons,List.nodup_cons]at hu;unfold zj;rcases List.mem_cons.1 hc with rfl |hc
  ·rw[iJ rfl]
  ·rw[iQ (λh=>hu.1 (by rw[h];exact List.mem_map.2 ⟨c,hc,rfl⟩))];exact ih hu.2 hc
theorem qGN {n:Nat} (hn:1≤n) {v:Nat} {M:VM} (H:HS g h (ViewC v M::R)) (O:OkV M) :
  t_w n 150 [.ptr v 0] h λr h'=>HS g h' (qy 181 2 M.K.length r (M.K.flatMap jA)::ViewC v M::R):=by
 refine t_e1 (S:=S150) rfl omQ λk hk=>?_;unfold S150;try simp only[iZ]
 obtain⟨fv,ov,q,e,H⟩:=ViewC.E H;have hkl:=O.klen;refine qW (qQ (qK ‹_› .here rfl ?_));refine qi ‹_› e_2 ?_;refine Y0 (ln:=0) (cp:=M.K.length) (sz:=2) H rfl omQ omQ λkv h1 H1=>?_;rw[Nat.zero_mul,List.take_zero]at H1;refine qW (qQ (qK ‹_› e_1 rfl ?_));refine qi ‹_› e_3 ?_
 refine jN (λm s h'=>∃(i:Nat) (kv:AV),s=(.int .i64 (i:Int),.int .i64 (M.K.length:Int),ov,kv,.ptr v 0,())∧i≤M.K.length∧m=M.K.length-i∧
  HS g h' (qy 181 2 i kv ((M.K.take i).flatMap jA)::qg v [fv,ov,.ptr q 0,.int .i64 M.need]::qy e 2 M.sz fv ((yU M.sz M.K).flatMap QF)::
   qy 3 1 M.K.length ov (M.K.map λc=>.int .i64 c.1)::LgC q M.most M.lv::R))
  ?_ (m:=M.K.length) (by show _<1000000000;omega) ⟨0,kv,rfl,by omega,by omega,by rw[List.take_zero];exact H1⟩
 clear H H1;rintro m ih s h2 hih ⟨i,kv,rfl,hi,rfl,H⟩;dsimp only;by_cases hlt:i<M.K.length
 ·have hci:M.K[i]? =some M.K[i]:=iW hlt;have hin:=O.ins M.K[i] (List.getElem_mem hlt);have hg:=qVA O.un (List.getElem_mem hlt);have hnext:M.K.take (i+1)=M.K.take i++[M.K[i]]:=List.take_succ_eq_append_getElem hlt;generalize hc:M.K[i]=c at*;obtain⟨p,x⟩:=c;dsimp only at hin hg;obtain⟨p,rfl⟩:∃j:Nat,p=(j:Int):=⟨p.toNat,by omega⟩;refine jd omQ ?_;refine qZ (zJ (H.sl e_3) (x:=.int .i64 (p:Int)) (by rw[List.getElem?_map,hci];rfl) ?_);refine qW (qQ (qK ‹_› e_1 rfl ?_));have hf:gj M.K p=(x,true):=by unfold gj;rw[hg]
  refine yT (x:=.int .u64 x) (H.sl e_2) omQ omQ (by rw[XQ (sz:=2) QF (λ_=>rfl) _ _ _ omQ,kr omQ,hf];rfl) ?_;refine qH rfl ?_;refine qf (n:=1) (l:=[.int .i64 (p:Int),.int .u64 x]) (sz:=2) H rfl rfl rfl rfl λv5 h5 H5=>?_;refine jf (H5.sel e_1) (H5.sl .here) omQ omQ rfl λv6 h6 H6=>?_;refine qc omQ ?_;refine hih (M.K.length-(i+1)) _ _ omQ ⟨i+1,v6,rfl,by omega,rfl,?_⟩;rw[hnext,List.flatMap_append];exact H6.sub (.cons .here (.drop .refl))
 ·obtain rfl:i=M.K.length:=by omega
  refine jH omQ ?_;refine qJ (qk ?_);rw[List.take_length]at H
  have H2:HS g h2 (qg v [fv,ov,.ptr q 0,.int .i64 M.need]::qy e 2 M.sz fv ((yU M.sz M.K).flatMap QF)::qy 3 1 M.K.length ov (M.K.map λc=>.int .i64 c.1)::LgC q M.most M.lv::
   qy 181 2 M.K.length kv (M.K.flatMap jA)::R):=H.sub (.cons e_1 (.cons e_1 (.cons e_1 (.cons e_1 .refl))))
  exact qj ((ViewC.I H2).sub (.cons e_1 .refl))
end
section
variable {g h:AH} {L R:List SP}
theorem kV {c:CV} {l:List (Nat×Nat)} {t:TypeId} {x:AV} {f:Nat} {a:List AV} {K2:AV→AH→Go.Ae.R} {Q Q':AV→AH→Prop} (hf:KI l t=some f) (w:wp (c (.fn f [] []) (x::a) h) Q') (hk:∀v h',Q' v h'→wp (K2 v h') Q):wp (yR c l (.iface t x) a h K2) Q:=by show wp (Option.rec (motive:=λ_=>Go.Ae.R) none (λf=>jO c (.fn f [] []) (x::a) h K2) (KI l t)) Q;rw[hf];exact qG w hk
structure ZP where
  rv:AV
  bv:AV
  iv:AV
  fv:AV
  ev:AV
  cv:AV
  gv:Int
  vb:Nat
  db:Nat
def xj (x:jQ) (q:ZP):List AV:=[.int .i64 x.me,.int .i64 x.set.words,.int .i64 x.set.stripes,.int .i64 x.set.wide,.int .i64 x.set.threads,.int .u64 x.set.start,.int .i64 x.set.spins,.int .i64 x.set.writes,.int .i64 x.set.fuel,
 q.rv,q.bv,.int .i64 q.gv,.ptr q.vb 0,.ptr q.db 0,.int .i64 x.state,q.iv,q.fv,q.ev,q.cv,.bool x.begun,.int .u64 x.begin_,.int .u64 x.stamp,.int .i64 x.fin,.int .i64 x.by_,.int .i64 x.err,.bool x.blocking]
def JobC (vb:Nat) (j:Jx) (rv bv:AV) (gv:Int):SP:=match j with
 | .prog q=>.ex λz:Nat×Int=>.all [.pur (rv=.ptr z.1 0∧bv=.nils∧gv=0),IntC z.1 vb q.l 0 (qL q.l) q.s q.err q.fin q.left z.2]
 | .sweep bs k=>.all [.pur (rv=.nilp∧gv=(k:Int)),qy 3 1 bs.length bv (bs.map (.int .i64))]
def InnC (st:Int) (f:Qb) (e:QI) (c:Option zg) (iv fv ev cv:AV):SP:=match c with
 |some c=>.ex λb:Nat=>.all [.pur (cv=.ptr b 0∧(st=6→iv=.iface 153 (.ptr b 0))),ComC b c]
 |none=>
  if st=3 then .ex λb:Nat=>.all [.pur (cv=.nilp∧fv=.ptr b 0∧iv=.iface 151 (.ptr b 0)),qg b (wJ f)]
  else if st=4∨st=5 then .ex λb:Nat=>.all [.pur (cv=.nilp∧ev=.ptr b 0∧iv=.iface 152 (.ptr b 0)),ExtC b e]
  else .pur (cv=.nilp)
abbrev qZm (a:Nat) (x:jQ) (q:ZP) (R:List SP):List SP:=qg a (xj x q)::JobC q.vb x.job q.rv q.bv q.gv::ViewC q.vb x.v::RdsC q.db x.r::InnC x.state x.f x.e x.c q.iv q.fv q.ev q.cv::R
def AttC (a:Nat) (x:jQ):SP:=.ex λq:ZP=>.all (qZm a x q [])
section
variable {n a:Nat} {x:jQ} {q:ZP}
theorem AttC.E (H:HS g h (AttC a x::R)):∃q,HS g h (qZm a x q R):=by obtain⟨q,H⟩:=H.exE;exact⟨q,H.allE⟩
theorem AttC.I (H:HS g h (qZm a x q R)):HS g h (AttC a x::R):=HS.exI q (HS.allI (A:=qZm a x q []) H)
theorem qVn (hn:1≤n) (H:HS g h L) (s:Sel L (qg a (xj x q)) R):t_w n 37 [.ptr a 0] h λr h'=>r=.tup [.int .u64 x.begin_,.bool x.begun]∧h'=h:=by
 refine t_e1 (S:=S37) rfl omQ λk hk=>?_;unfold S37;try simp only[iZ]
 refine qW (qQ (qK H s rfl ?_));refine qW (qQ (qK H s rfl ?_))
 skip
 exact qj ⟨rfl,rfl⟩
theorem qKR (hn:1≤n) (H:HS g h L) (s:Sel L (qg a (xj x q)) R):t_w n 78 [.ptr a 0] h λr h'=>r=.int .u64 x.stamp∧h'=h:=by
 refine t_e1 (S:=S78) rfl omQ λk hk=>?_;unfold S78;try simp only[iZ]
 refine qW (qQ (qK H s rfl ?_))
 skip
 exact qj ⟨rfl,rfl⟩
theorem qXl (hn:1≤n) (H:HS g h L) (s:Sel L (qg a (xj x q)) R):t_w n 39 [.ptr a 0] h λr h'=>r=.int .i64 (jc x)∧h'=h:=by
 refine t_e1 (S:=S39) rfl omQ λk hk=>?_;unfold S39;try simp only[iZ]
 refine qW (qQ (qK H s rfl ?_));unfold jc;by_cases c:x.state=8
 ·rw[iQ (λh=>h c)];refine jY c ?_;refine qJ (qW (qQ (qK H s rfl ?_)));exact qj ⟨rfl,rfl⟩
 ·rw[iJ c];refine jj c ?_;refine qZ ?_;exact qj ⟨rfl,rfl⟩
theorem qkd (hn:1≤n) (H:HS g h L) (s:Sel L (qg a (xj x q)) R):t_w n 76 [.ptr a 0] h λr h'=>r=.int .i64 (xc x)∧h'=h:=by
 refine t_e1 (S:=S76) rfl omQ λk hk=>?_;unfold S76;try simp only[iZ]
 refine qW (qQ (qK H s rfl ?_));unfold xc;by_cases c:x.state=8
 ·rw[iQ (λh=>h c)];refine jY c ?_;refine qJ (qW (qQ (qK H s rfl ?_)));exact qj ⟨rfl,rfl⟩
 ·rw[iJ c];refine jj c ?_;refine qZ ?_;exact qj ⟨rfl,rfl⟩
theorem qg5 (hn:1≤n) (H:HS g h L) (s:Sel L (qg a (xj x q)) R):t_w n 73 [.ptr a 0] h λr h'=>r=.int .i64 (QQ x)∧h'=h:=by
 refine t_e1 (S:=S73) rfl omQ λk hk=>?_;unfold S73;try simp only[iZ]
 refine qW (qQ (qK H s rfl ?_));unfold QQ;by_cases c:x.state=8
 ·rw[iQ (λh=>h c)];refine jY c ?_;refine qJ (qW (qQ (qK H s rfl ?_)));exact qj ⟨rfl,rfl⟩
 ·rw[iJ c];refine jj c ?_;refine qZ ?_;exact qj ⟨rfl,rfl⟩
theorem QW {f e y:Int} (hn:1≤n) (H:HS g h (qg a (xj x q)::R)):t_w n 70 [.ptr a 0,.int .i64 f,.int .i64 e,.int .i64 y] h λ_ h'=>HS g h' (qg a (xj (xI x f e y) q)::R):=by
 refine t_e4 (S:=S70) rfl omQ λk hk=>?_;unfold S70;try simp only[iZ]
 refine qW (qQ (qw H (b:=a) .here ⟨rfl,rfl⟩ (by simp[xj]) λh1 H1=>?_));refine qW (qQ (qw H1 (b:=a) .here ⟨rfl,rfl⟩ (by simp[xj]) λh2 H2=>?_));refine qW (qQ (qw H2 (b:=a) .here ⟨rfl,rfl⟩ (by simp[xj]) λh3 H3=>?_));refine qW (qQ (qw H3 (b:=a) .here ⟨rfl,rfl⟩ (by simp[xj]) λh4 H4=>?_));exact qj H4
theorem InnC.nil {st:Int} {f:Qb} {e:QI} {iv fv ev cv:AV} (H:HS g h (InnC st f e none iv fv ev cv::R)):cv=.nilp∧HS g h R:=by
 unfold InnC at H;dsimp only at H
 split at H
 ·obtain⟨b,H⟩:=H.exE;have H:=H.allE;exact⟨H.purE.1.1,H.drop.drop⟩
 ·split at H
  ·obtain⟨b,H⟩:=H.exE;have H:=H.allE;exact⟨H.purE.1.1,H.drop.drop⟩
  ·exact H.purE
theorem InnC.fet {f:Qb} {e:QI} {iv fv ev cv:AV} (H:HS g h (InnC 3 f e none iv fv ev cv::R)):∃b,(cv=.nilp∧fv=.ptr b 0∧iv=.iface 151 (.ptr b 0))∧HS g h (qg b (wJ f)::R):=by obtain⟨b,H⟩:=(show HS g h (.ex (λb:Nat=>SP.all [.pur (cv=.nilp∧fv=.ptr b 0∧iv=.iface 151 (.ptr b 0)),qg b (wJ f)])::R)from H).exE;exact⟨b,H.allE.purE⟩
end
end
section
variable {g h:AH} {L R:List SP}
section
variable {n a:Nat} {x:jQ} {q:ZP}
theorem OT {K:AV→Go.Ae.R} {Q:AV→AH→Prop} (w:wp (K (.bool false)) Q):wp (pEq .ptr true .nilp .nilp K) Q:=w
theorem qQp {K:AV→Go.Ae.R} {Q:AV→AH→Prop} (w:wp (K (.bool true)) Q):wp (pEq .ptr false .nilp .nilp K) Q:=w
theorem JobC.P {vb:Nat} {p:RunS} {rv bv:AV} {gv:Int} (H:HS g h (JobC vb (.prog p) rv bv gv::R)):∃ib nx,(rv=.ptr ib 0∧bv=.nils∧gv=0)∧HS g h (IntC ib vb p.l 0 (qL p.l) p.s p.err p.fin p.left nx::R):=by obtain⟨z,H⟩:=(show HS g h (.ex (λz:Nat×Int=>SP.all [.pur (rv=.ptr z.1 0∧bv=.nils∧gv=0),IntC z.1 vb p.l 0 (qL p.l) p.s p.err p.fin p.left z.2])::R)from H).exE;exact⟨z.1,z.2,H.allE.purE⟩
theorem JobC.PI {vb ib:Nat} {p:RunS} {nx:Int} {rv bv:AV} {gv:Int} (e:rv=.ptr ib 0∧bv=.nils∧gv=0) (H:HS g h (IntC ib vb p.l 0 (qL p.l) p.s p.err p.fin p.left nx::R)):HS g h (JobC vb (.prog p) rv bv gv::R) :=
 show HS g h (.ex (λz:Nat×Int=>SP.all [.pur (rv=.ptr z.1 0∧bv=.nils∧gv=0),IntC z.1 vb p.l 0 (qL p.l) p.s p.err p.fin p.left z.2])::R)from
  HS.exI (ib,nx) (HS.allI (A:=[_,_]) (HS.purI e H))
theorem JobC.S {vb k:Nat} {bs:List Int} {rv bv:AV} {gv:Int} (H:HS g h (JobC vb (.sweep bs k) rv bv gv::R)):(rv=.nilp∧gv=(k:Int))∧HS g h (qy 3 1 bs.length bv (bs.map (.int .i64))::R) :=
 ((show HS g h (SP.all [.pur (rv=.nilp∧gv=(k:Int)),qy 3 1 bs.length bv (bs.map (.int .i64))]::R)from H).allE).purE
theorem JobC.SI {vb k:Nat} {bs:List Int} {rv bv:AV} {gv:Int} (e:rv=.nilp∧gv=(k:Int)) (H:HS g h (qy 3 1 bs.length bv (bs.map (.int .i64))::R)):HS g h (JobC vb (.sweep bs k) rv bv gv::R) :=
 show HS g h (SP.all [.pur (rv=.nilp∧gv=(k:Int)),qy 3 1 bs.length bv (bs.map (.int .i64))]::R)from HS.allI (A:=[_,_]) (HS.purI e H)
theorem qXf {l:List Int} {k:Nat} (h:k<l.length):(l.map (.int .i64))[k]? =some (AV.int .i64 l[k]):=by rw[List.getElem?_map,iW h];rfl
theorem qwS (hn:16≤n) (hg:jk x.v) (hf:frS x.v.lv<9000) (hj:JobOk True x.v x.job) (H:HS g h (qg a (xj x q)::JobC q.vb x.job q.rv q.bv q.gv::ViewC q.vb x.v::R)) :
  t_w n 113 [.ptr a 0] h λr h'=>r=.tup [.int .i64 (ye x).1.1,.int .i64 (ye x).1.2]∧
   ∃gv,HS g h' (qg a (xj (ye x).2 { q with gv:=gv })::JobC q.vb (ye x).2.job q.rv q.bv gv::ViewC q.vb (ye x).2.v::R):=by
 refine t_e1 (S:=S113) rfl omQ λk hk=>?_;unfold S113;try simp only[iZ]
 unfold ye;cases hx:x.job with
 |prog p=>
  rw[hx]at H hj;obtain⟨F,Q,gb,hr,hl⟩:=hj;obtain⟨G,h0,h1,h2⟩:=hr trivial;obtain⟨ib,nx,⟨e1,e2,e3⟩,H1⟩:=JobC.P (H.sel e_1);refine qW (qQ (qK H (b:=a) .here (x:=.ptr ib 0) (by rw[← e1];rfl) ?_));refine qXO (qZ (qV ?_))
  try dsimp only
  refine qW (qQ (qK H (b:=a) .here (x:=.ptr ib 0) (by rw[← e1];rfl) ?_));rw[h0,h1]at H1;refine qG (qX2 omQ F Q G h2 omQ (H1.sub (.cons .here (.cons e_1 (.cons .here .refl))))) ?_;rintro _ h3 ⟨rfl,nx',H3⟩;refine qW (qQ (qK H3 (b:=a) e_2 (x:=.ptr ib 0) (by rw[← e1];rfl) ?_));refine qG (qXM omQ H3) ?_;rintro _ _ ⟨rfl,rfl⟩;refine qb H .here (by rw[← e1];rfl) H3 e_2 (by rw[← e1];rfl) (HS.lt H .here) ?_;refine qj ⟨rfl,0,?_⟩;have H4:=(JobC.PI (p:=⟨p.l,(jg p.l (qL p.l) p.left p.s x.v).s,if(jg p.l (qL p.l) p.left p.s x.v).kind=1 then 0 else(jg p.l (qL p.l) p.left p.s x.v).kind,(jg p.l (qL p.l) p.left p.s x.v).err,(jg p.l (qL p.l) p.left p.s x.v).left⟩) ⟨e1,e2,rfl⟩ H3).sub (.cons e_2 (.cons .here (.cons .here .refl)));have eg:xj x q=xj x { q with gv:=0 }:=by unfold xj;rw[e3]
  rw[eg]at H4;exact H4
 |sweep bs k=>
  rw[hx]at H hj;obtain⟨⟨e1,e2⟩,H1⟩:=JobC.S (H.sel e_1);refine qW (qQ (qK H (b:=a) .here (x:=.nilp) (by rw[← e1];rfl) ?_));refine OT (qJ ?_);have hkl:=hj.1;have hbl:=hj.2;dsimp only;generalize hG:jB x.v (bs.drop k) k=G
  refine jN (λm s h'=>s=(.ptr a 0,())∧∃(i:Nat) (V:VM),i≤bs.length∧m=bs.length-i∧jk V∧jB V (bs.drop i) i=G∧
    HS g h' (qg a (xj x { q with gv:=(i:Int) })::qy 3 1 bs.length q.bv (bs.map (.int .i64))::ViewC q.vb V::R))
   ?_ (m:=bs.length-k) (by show _<1000000000;omega) ⟨rfl,k,x.v,hkl,rfl,hg,hG,by
    have:q={ q with gv:=(k:Int) }:=by rw[← e2]
    rw[← this]
    exact H1.sub (.cons e_1 (.cons .here .refl))⟩
  clear H H1 hG;rintro m ih s h1 hih ⟨rfl,i,V,hi,rfl,hV,hG,H⟩;dsimp only;refine qW (qQ (qK H (b:=a) .here rfl ?_));refine qW (qQ (qK H (b:=a) .here rfl ?_));refine qi H e_1 ?_;by_cases hlt:i<bs.length
  ·refine jd (by show(i:Int)<_;omega) (qZ ?_);refine qW (qQ (qK H (b:=a) .here rfl ?_));refine qW (qQ (qK H (b:=a) .here rfl ?_));refine qW (qQ (qK H (b:=a) .here rfl ?_));refine zJ (H.sl e_1) (qXf hlt) ?_;refine qG (Ot (b:=bs[i]) omQ (H.sel e_2) hV.ok) ?_;rintro _ h2 ⟨rfl,H2⟩;rw[List.drop_eq_getElem_cons hlt]at hG;by_cases h0:(zG V bs[i]).1=0
   ·refine qx h0 (qZ ?_);refine qW (qQ (qK H2 (b:=a) e_1 (x:=.int .i64 (i:Int)) rfl ?_));refine qc omQ ?_;refine qW (qQ ?_);refine qw H2 (b:=a) e_1 ⟨rfl,rfl⟩ (by simp[xj]) λh3 H3=>?_;refine hih (bs.length-(i+1)) _ _ omQ ⟨rfl,i+1,(zG V bs[i]).2,by omega,rfl,hV.give.1,?_,H3.sub (.cons .here (.cons e_1 (.cons .here .refl)))⟩;rw[show jB V (bs[i]::bs.drop (i+1)) i=jB (zG V bs[i]).2 (bs.drop (i+1)) (i+1)from iJ h0]at hG;exact hG
   ·rw[show jB V (bs[i]::bs.drop (i+1)) i=((i,(zG V bs[i]).1),(zG V bs[i]).2)from iQ h0]at hG;subst hG;refine qX h0 (qJ ?_);have H3:=(JobC.SI (vb:=q.vb) (k:=i) ⟨e1,rfl⟩ (H2.sub (.cons e_2 (.cons e_1 (.cons .here .refl))))).sub (.cons e_1 (.cons .here (.cons .here .refl)));by_cases h11:(zG V bs[i]).1=11
    ·refine qx h11 (qZ (qk (qj ⟨?_,(i:Int),?_⟩)))
     ·rw[iJ h11];rfl
     ·exact H3
    ·refine qX h11 (qJ (qk (qj ⟨?_,(i:Int),?_⟩)))
     ·rw[iQ h11,iQ h0];rfl
     ·exact H3
  ·obtain rfl:i=bs.length:=by omega
   rw[List.drop_length,show jB V [] bs.length=((bs.length,0),V)from rfl]at hG;subst hG;refine jH (by show¬(bs.length:Int)<_;omega) (qJ (qk (qj ⟨rfl,(bs.length:Int),?_⟩)));have H3:=(JobC.SI (vb:=q.vb) (k:=bs.length) ⟨e1,rfl⟩ (H.sub (.cons e_1 (.cons .here (.cons .here .refl))))).sub (.cons e_1 (.cons .here (.cons .here .refl)));exact H3
theorem KJ {st:Int} {t b:Nat} (hn:1≤n) (H:HS g h (qg a (xj x q)::R)):t_w n 119 [.ptr a 0,.int .i64 st,.iface t (.ptr b 0)] h λ_ h'=>HS g h' (qg a (xj { x with state:=st } { q with iv:=.iface t (.ptr b 0) })::R):=by
 refine t_e3 (S:=S119) rfl omQ λk hk=>?_;unfold S119;try simp only[iZ]
 refine qW (qQ (qw H (b:=a) .here ⟨rfl,rfl⟩ (by simp[xj]) λh1 H1=>?_));refine qW (qQ (qw H1 (b:=a) .here ⟨rfl,rfl⟩ (by simp[xj]) λh2 H2=>?_));exact qj H2
theorem qXA {p:Int} (hn:3≤n) (hp:p<4611686018427387904) (H:HS g h (qg a (xj x q)::R)):t_w n 114 [.ptr a 0,.int .i64 p] h λ_ h'=>
  ∃b,HS g h' (qg b (wJ (JW x p).f)::qg a (xj (JW x p) { q with iv:=.iface 151 (.ptr b 0),fv:=.ptr b 0 })::R):=by
 refine t_e2 (S:=S114) rfl omQ λk hk=>?_;unfold S114;try simp only[iZ]
 refine qV ?_
 try dsimp only
 refine qW (qQ (qK H (b:=a) .here rfl ?_));refine qW (qQ (qp (qp (qK H (b:=a) .here rfl ?_))));refine qW (qQ (qp (qp (qK H (b:=a) .here rfl ?_))));refine qG (qWl omQ hp) ?_;rintro _ _ ⟨rfl,rfl⟩;refine qW (qQ (qp (qK H (b:=a) .here rfl ?_)));refine qW (qQ (qK H (b:=a) .here rfl ?_));refine qG (qkc omQ H) ?_;rintro _ h1 ⟨b,rfl,H1⟩;refine qW (qQ ?_);refine qw H1 (b:=a) e_1 (x:=.ptr b 0) ⟨rfl,rfl⟩ (by simp[xj]) λh2 H2=>?_;refine qb H .here rfl H .here rfl (HS.lt H .here) ?_;refine qb H .here rfl H .here rfl (HS.lt H .here) ?_;refine qb H .here rfl H .here rfl (HS.lt H .here) ?_;have H3:HS g h2 (qg a (xj { x with f:=kT x.me p (ofM p x.set.stripes x.set.wide) x.set.spins x.stamp } { q with fv:=.ptr b 0 })::qg b (wJ (kT x.me p (ofM p x.set.stripes x.set.wide) x.set.spins x.stamp))::R):=H2;refine qW (qQ (qK H3 (b:=a) .here rfl ?_));refine qG (KJ omQ H3) λ_ h4 H4=>qj ⟨b,H4.sub (.cons e_1 (.cons .here .refl))⟩
theorem MX {st:Int} (hn:4≤n) (hr:x.r.length≤16) (H:HS g h (qg a (xj x q)::RdsC q.db x.r::R)):t_w n 116 [.ptr a 0,.int .i64 st] h λ_ h'=>
  ∃b,HS g h' (ExtC b (yd x st).e::qg a (xj (yd x st) { q with iv:=.iface 152 (.ptr b 0),ev:=.ptr b 0 })::RdsC q.db x.r::R):=by
 refine t_e2 (S:=S116) rfl omQ λk hk=>?_;unfold S116;try simp only[iZ]
 refine qV ?_
 try dsimp only
 refine qW (qQ (qK H (b:=a) .here rfl ?_));refine qW (qQ (qp (qK H (b:=a) .here rfl ?_)));refine qW (qQ (qK H (b:=a) .here rfl ?_));refine qG (qX6 omQ omQ (H.sel e_1)) λv h1 H1=>?_;refine qG (qxL (me:=x.me) (sp:=x.set.spins) (r:=x.r) omQ omQ H1) ?_;rintro _ h2 ⟨b,rfl,H2⟩;refine qW (qQ ?_);refine qw H2 (b:=a) e_2 (x:=.ptr b 0) ⟨rfl,rfl⟩ (by simp[xj]) λh3 H3=>?_;refine qb H .here rfl H1 e_2 rfl (HS.lt H .here) ?_;refine qb H .here rfl H1 e_2 rfl (HS.lt H .here) ?_;have H4:HS g h3 (qg a (xj { x with e:=VV x.me x.set.spins x.r } { q with ev:=.ptr b 0 })::ExtC b (VV x.me x.set.spins x.r)::RdsC q.db x.r::R):=H3;refine qW (qQ (qK H4 (b:=a) .here rfl ?_));refine qG (KJ omQ H4) λ_ h5 H5=>qj ⟨b,H5.sub (.cons e_1 (.cons .here .refl))⟩
end
end
section
variable {g h:AH} {L R:List SP}
section
variable {st:Int} {f:Qb} {e:QI} {c:Option zg} {iv fv ev cv:AV} {b:Nat}
theorem InnC.fetI (hst:st=3) (hc:c=none) (q:cv=.nilp∧fv=.ptr b 0∧iv=.iface 151 (.ptr b 0)) (H:HS g h (qg b (wJ f)::R)):HS g h (InnC st f e c iv fv ev cv::R):=by subst hst;subst hc;show HS g h (.ex (λb':Nat=>SP.all [.pur (cv=.nilp∧fv=.ptr b' 0∧iv=.iface 151 (.ptr b' 0)),qg b' (wJ f)])::R);exact HS.exI b (HS.allI (A:=[_,_]) (HS.purI q H))
theorem InnC.fetE (hst:st=3) (hc:c=none) (H:HS g h (InnC st f e c iv fv ev cv::R)):∃b,(cv=.nilp∧fv=.ptr b 0∧iv=.iface 151 (.ptr b 0))∧HS g h (qg b (wJ f)::R):=by subst hst;subst hc;exact InnC.fet H
theorem InnC.extI (hst:st=4∨st=5) (hc:c=none) (q:cv=.nilp∧ev=.ptr b 0∧iv=.iface 152 (.ptr b 0)) (H:HS g h (ExtC b e::R)):HS g h (InnC st f e c iv fv ev cv::R):=by subst hc;unfold InnC;dsimp only;rw[iQ omQ,iJ hst];exact HS.exI b (HS.allI (A:=[_,_]) (HS.purI q H))
theorem InnC.extE (hst:st=4∨st=5) (hc:c=none) (H:HS g h (InnC st f e c iv fv ev cv::R)):∃b,(cv=.nilp∧ev=.ptr b 0∧iv=.iface 152 (.ptr b 0))∧HS g h (ExtC b e::R):=by subst hc;unfold InnC at H;dsimp only at H;rw[iQ omQ,iJ hst]at H;obtain⟨b,H⟩:=H.exE;exact⟨b,H.allE.purE⟩
theorem InnC.noI (hst:st≠3∧st≠4∧st≠5) (hc:c=none) (q:cv=.nilp) (H:HS g h R):HS g h (InnC st f e c iv fv ev cv::R):=by subst hc;unfold InnC;dsimp only;rw[iQ omQ,iQ omQ];exact HS.purI q H
theorem InnC.noE (hc:c=none) (H:HS g h (InnC st f e c iv fv ev cv::R)):cv=.nilp∧HS g h R:=by subst hc;exact InnC.nil H
theorem InnC.comI {d:zg} (hc:c=some d) (q:cv=.ptr b 0∧(st=6→iv=.iface 153 (.ptr b 0))) (H:HS g h (ComC b d::R)):HS g h (InnC st f e c iv fv ev cv::R):=by subst hc;show HS g h (.ex (λb':Nat=>SP.all [.pur (cv=.ptr b' 0∧(st=6→iv=.iface 153 (.ptr b' 0))),ComC b' d])::R);exact HS.exI b (HS.allI (A:=[_,_]) (HS.purI q H))
theorem InnC.comE {d:zg} (hc:c=some d) (H:HS g h (InnC st f e c iv fv ev cv::R)):∃b,(cv=.ptr b 0∧(st=6→iv=.iface 153 (.ptr b 0)))∧HS g h (ComC b d::R):=by subst hc;obtain⟨b,H⟩:=(show HS g h (.ex (λb':Nat=>SP.all [.pur (cv=.ptr b' 0∧(st=6→iv=.iface 153 (.ptr b' 0))),ComC b' d])::R)from H).exE;exact⟨b,H.allE.purE⟩
end
section
variable {n a:Nat} {x:jQ} {q:ZP}
theorem Zn (hn:18≤n) (B:kK x) (hj:JobOk True x.v x.job) (hc:x.c=none) (hcv:q.cv=.nilp) (H:HS g h (qg a (xj x q)::JobC q.vb x.job q.rv q.bv q.gv::ViewC q.vb x.v::RdsC q.db x.r::R)) :
  t_w n 71 [.ptr a 0] h λ_ h'=>HS g h' (AttC a (xu x)::R):=by
 refine t_e1 (S:=S71) rfl omQ λk hk=>?_;unfold S71;try simp only[iZ]
 have D:=K8 B.good B.fr hj;unfold xu;refine qG (qwS omQ B.good B.fr hj H) ?_;rintro _ h1 ⟨rfl,gv,H1⟩;clear H;generalize(ye x).1.1=kd at*;generalize(ye x).1.2=er at*;generalize(ye x).2=y at*;obtain⟨e1,e2,e3,e4,e5⟩:=D.same;have hyc:y.c=none:=by rw[e5,hc]
 have hyr:y.r.length≤16:=by rw[e3];exact B.r
 rw[← e3]at H1;generalize hA:vi y kd er=A;refine qA rfl (qA rfl ?_);refine jT [] (λ_ h'=>HS g h' (AttC a A::R)) (λj hj=>?_) λ_ h' H'=>qk (qj H');unfold vi at hA;have hhi:=D.good.ok.hi;by_cases c1:kd=1
 ·rw[iJ c1]at hA;subst hA;refine qx c1 (qZ ?_);have hnd:=D.need c1;have hk:=D.kept.1;refine qW (qQ (qK H1 (b:=a) .here rfl ?_));refine qG (VI omQ (H1.sel (P:=ViewC q.vb y.v) e_2)) ?_;rintro _ _ ⟨rfl,rfl⟩;refine qG (qXA omQ omQ H1) ?_;rintro _ h2 ⟨b,H2⟩;refine hj _ _ (AttC.I (q:={ q with gv:=gv,iv:=.iface 151 (.ptr b 0),fv:=.ptr b 0 }) ?_);have H3:=InnC.fetI (st:=3) (e:=y.e) (ev:=q.ev) rfl hyc ⟨hcv,rfl,rfl⟩ H2;exact H3.sub (.cons e_1 (.cons e_1 (.cons e_1 (.cons e_1 (.cons .here .refl)))))
 rw[iQ c1]at hA;refine qX c1 (qJ ?_);by_cases c3:kd=3
 ·rw[iJ c3]at hA;subst hA;refine qx c3 (qZ ?_);refine qW (qQ ?_);refine qw H1 (b:=a) .here ⟨rfl,rfl⟩ (by simp[xj]) λh2 H2=>?_;have H2:HS g h2 (qg a (xj { y with blocking:=true } { q with gv:=gv })::JobC q.vb y.job q.rv q.bv gv::ViewC q.vb y.v::RdsC q.db y.r::R):=H2;refine qG (MX (x:={ y with blocking:=true }) (q:={ q with gv:=gv }) omQ hyr (H2.sub (.cons .here (.cons e_2 .refl)))) ?_;rintro _ h3 ⟨b,H3⟩;refine hj _ _ (AttC.I (q:={ q with gv:=gv,iv:=.iface 152 (.ptr b 0),ev:=.ptr b 0 }) ?_);have H4:=InnC.extI (st:=5) (f:=y.f) (fv:=q.fv) (c:=y.c) (cv:=q.cv) (.inr rfl) hyc ⟨hcv,rfl,rfl⟩ H3;exact H4.sub (.cons e_1 (.cons e_2 (.cons e_2 (.cons e_1 (.cons .here .refl)))))
 rw[iQ c3]at hA;refine qX c3 (qJ ?_);have gone:∀{fin err:Int} {h2:AH},HS g h2 (qg a (xj (xI y fin err (-1)) { q with gv:=gv })::JobC q.vb y.job q.rv q.bv gv::ViewC q.vb y.v::RdsC q.db y.r::R)→HS g h2 (AttC a (xI y fin err (-1))::R):=λ{fin err h2} H2=>by
  refine AttC.I (q:={ q with gv:=gv }) ?_;have H3:=InnC.noI (st:=7) (f:=y.f) (e:=y.e) (c:=y.c) (iv:=q.iv) (fv:=q.fv) (ev:=q.ev) (cv:=q.cv) od hyc hcv H2;exact H3.sub (.cons e_1 (.cons e_1 (.cons e_1 (.cons e_1 (.cons .here .refl)))))
 by_cases c4:kd=4
 ·rw[iJ c4]at hA;subst hA;refine qx c4 (qZ ?_);refine qG (QW omQ H1) λ_ h2 H2=>?_;exact hj _ _ (gone H2)
 rw[iQ c4]at hA;refine qX c4 (qJ ?_);refine qW (qQ (qK H1 (b:=a) .here rfl ?_));refine qG (Qh omQ (H1.sel (P:=ViewC q.vb y.v) e_2) D.good.ok) λv h2 H2=>?_;have hmo:=UB D.good.ok;refine qi H2 .here ?_;by_cases c5:jJ y.v.lv=[]
 ·rw[iJ c5]at hA;subst hA;refine qx (by rw[c5];rfl) (qZ ?_);refine qG (QW omQ (H2.sub (.cons e_2 (.cons e_2 (.cons e_1 (.cons e_1 (.drop .refl))))))) λ_ h3 H3=>?_;exact qj (gone H3)
 ·rw[iQ c5]at hA;have hml:0<(jJ y.v.lv).length:=List.length_pos_iff.2 c5;refine qX omQ (qJ ?_);refine qV ?_
  try dsimp only
  refine qW (qQ (qK H2 (b:=a) e_2 rfl ?_));refine qW (qQ (qp (qK H2 (b:=a) e_2 rfl ?_)));refine qW (qQ (qK H2 (b:=a) e_2 rfl ?_));refine qW (qQ (qK H2 (b:=a) e_2 rfl ?_));refine qG (qX6 omQ omQ (H2.sel (P:=RdsC q.db y.r) e_4)) λv2 h3 H3=>?_;refine qW (qQ (qp (qp (qK H3 (b:=a) e_4 rfl ?_))));refine qW (qQ (qp (qp (qK H3 (b:=a) e_4 rfl ?_))));refine qG (qxS (me:=y.me) (sp:=y.set.spins) (st:=y.stamp) (a:=y.set.stripes) (w:=y.set.wide) (r:=y.r) (cs:=jJ y.v.lv) omQ omQ hml omQ (λc h=>by have:=hmo.2 c h;omega) (H3.sub (.cons .here (.cons e_1 .refl)))) ?_;rintro _ h4 ⟨b,rfl,H4⟩;refine qW (qQ ?_);refine qw H4 (b:=a) e_3 (x:=.ptr b 0) ⟨rfl,rfl⟩ (by simp[xj]) λh5 H5=>?_;refine qb H2 e_2 rfl H3 e_4 rfl (HS.lt H2 e_2) ?_;refine qb H2 e_2 rfl H3 e_4 rfl (HS.lt H2 e_2) ?_;refine qb H2 e_2 rfl H3 e_4 rfl (HS.lt H2 e_2) ?_;refine qb H2 e_2 rfl H3 e_4 rfl (HS.lt H2 e_2) ?_;refine qb H2 e_2 rfl H3 e_4 rfl (HS.lt H2 e_2) ?_;have H6:HS g h5 (qg a (xj { y with c:=some (J2 y.me y.set.spins y.stamp y.r (jJ y.v.lv) y.set.stripes y.set.wide) } { q with gv:=gv,cv:=.ptr b 0 })::ComC b (J2 y.me y.set.spins y.stamp y.r (jJ y.v.lv) y.set.stripes y.set.wide)::RdsC q.db y.r::ViewC q.vb y.v::JobC q.vb y.job q.rv q.bv gv::R):=H5;refine qW (qQ (qK H6 (b:=a) .here rfl ?_));refine qG (KJ omQ H6) λ_ h6 H7=>?_;subst hA;refine hj _ _ (AttC.I (q:={ q with gv:=gv,cv:=.ptr b 0,iv:=.iface 153 (.ptr b 0) }) ?_);have H8:=InnC.comI (st:=6) (f:=y.f) (e:=y.e) (fv:=q.fv) (ev:=q.ev) rfl ⟨rfl,λ_=>rfl⟩ (H7.sel e_1);exact H8.sub (.cons e_1 (.cons e_3 (.cons e_2 (.cons e_1 (.cons .here .refl)))))
theorem qV9 (r:List xR) (x:xR):(wo r x).1=0∨(wo r x).2=r:=by
 unfold wo
 split
 ·exact .inr rfl
 ·split
  ·split<;>exact .inr rfl
  ·split
   ·exact .inr rfl
   ·exact .inl rfl
theorem O3 (hn:20≤n) (B:kK x) (hj:JobOk True x.v x.job) (hw:0≤x.f.word∧x.f.word<18446744073709551616) (hc:x.c=none) {b:Nat} (hq:q.cv=.nilp∧q.fv=.ptr b 0) (H:HS g h (qg a (xj x q)::JobC q.vb x.job q.rv q.bv q.gv::ViewC q.vb x.v::RdsC q.db x.r::qg b (wJ x.f)::R)) :
  t_w n 161 [.ptr a 0] h λ_ h'=>HS g h' (AttC a (yg x)::R):=by
 refine t_e1 (S:=S161) rfl omQ λk hk=>?_;unfold S161;try simp only[iZ]
 generalize hA:yg x=A;unfold yg at hA;refine qW (qQ (qK H (b:=a) .here (x:=.ptr b 0) (by rw[← hq.2];rfl) ?_));refine qG (Kf omQ H (s:=e_4)) ?_;rintro _ _ ⟨rfl,rfl⟩;by_cases c6:x.f.p.fin=6
 ·rw[iJ c6]at hA;subst hA;refine qx c6 (qZ ?_);refine qG (MX (q:=q) omQ B.r (H.sub (.cons .here (.cons e_2 .refl)))) ?_;rintro _ h3 ⟨b',H3⟩;refine qj (AttC.I (q:={ q with iv:=.iface 152 (.ptr b' 0),ev:=.ptr b' 0 }) ?_);have H4:=InnC.extI (st:=4) (f:=x.f) (fv:=q.fv) (c:=x.c) (cv:=q.cv) (.inl rfl) hc ⟨hq.1,rfl,rfl⟩ H3;exact H4.sub (.cons e_1 (.cons e_2 (.cons e_2 (.cons e_1 (.cons .here (.drop .refl))))))
 rw[iQ c6]at hA;refine qX c6 (qJ ?_);refine qV ?_
 try dsimp only
 refine qW (qQ (qK H (b:=a) .here rfl ?_));refine qW (qQ (qK H (b:=a) .here (x:=.ptr b 0) (by rw[← hq.2];rfl) ?_));refine qG (qYE omQ H e_4) ?_;rintro _ h1 ⟨rfl,H1⟩;refine qG (qk9 (x:=yu x.f) omQ B.r (H1.sel (P:=RdsC q.db x.r) e_3)) ?_;rintro _ h2 ⟨rfl,H2⟩;refine qb H .here rfl H1 .here rfl (HS.lt H .here) ?_;refine jT [] (λ_ h'=>HS g h' (AttC a A::R)) (λj hj'=>?_) λ_ h' H'=>qk (qj H');have hx:=KQ hw;by_cases c0:(wo x.r (yu x.f)).1=0
 ·rw[iJ c0]at hA;subst hA;refine qx c0 (qZ ?_);refine qV ?_
  try dsimp only
  refine qW (qQ (qK H2 (b:=a) e_1 rfl ?_));refine qW (qQ (qK H2 (b:=a) e_1 rfl ?_));refine qG (VI omQ (H2.sel (P:=ViewC q.vb x.v) e_3)) ?_;rintro _ _ ⟨rfl,rfl⟩;refine qW (qQ (qK H2 (b:=a) e_1 (x:=.ptr b 0) (by rw[← hq.2];rfl) ?_));refine qG (qqF omQ H2 e_4) ?_;rintro _ _ ⟨rfl,rfl⟩;refine qG (Z3 (p:=x.v.need) (x:=yy x.f) omQ (H2.sel (P:=ViewC q.vb x.v) e_3) B.good.ok) ?_;rintro _ h3 ⟨rfl,H3⟩;refine qb H2 e_1 (x:=.ptr b 0) (by rw[← hq.2];rfl) H2 e_1 (by rw[← hq.2];rfl) (HS.lt H2 e_1) ?_;refine qb H2 e_1 rfl H2 e_1 rfl (HS.lt H2 e_1) ?_;refine qb H2 e_1 rfl H2 e_1 rfl (HS.lt H2 e_1) ?_;refine qG (Zn (x:={ x with r:=(wo x.r (yu x.f)).2,v:=(z6 x.v x.v.need (yy x.f)).2 }) (q:=q) (R:=R) omQ ?_ (hj.know hx) hc hq.1 (H3.sub (.cons e_2 (.cons e_2 (.cons .here (.cons .here (.drop .refl))))))) λ_ h4 H4=>hj' _ _ H4;exact⟨B.set,Xw B.good hx,by show((z6 x.v x.v.need (yy x.f)).2.sz:Int)=x.set.words;rw[wN.2];exact B.sz,by show frS (z6 x.v x.v.need (yy x.f)).2.lv<9000;rw[wN.1];exact B.fr,Gv B.r,(hj.know hx).same λh=>h.elim,B.c⟩
 rw[iQ c0]at hA;refine qX c0 (qJ ?_);have hsame:(wo x.r (yu x.f)).2=x.r:=(qV9 x.r (yu x.f)).resolve_left c0;rw[hsame]at H2;have gone:∀{fin err:Int} {h2:AH},HS g h2 (qg a (xj (xI x fin err (-1)) q)::RdsC q.db x.r::JobC q.vb x.job q.rv q.bv q.gv::ViewC q.vb x.v::qg b (wJ x.f)::R)→HS g h2 (AttC a (xI x fin err (-1))::R):=λ{fin err h2} H2=>by
  refine AttC.I (q:=q) ?_;have H3:=InnC.noI (st:=7) (f:=x.f) (e:=x.e) (c:=x.c) (iv:=q.iv) (fv:=q.fv) (ev:=q.ev) (cv:=q.cv) od hc hq.1 H2;exact H3.sub (.cons e_1 (.cons e_2 (.cons e_2 (.cons e_1 (.cons .here (.drop .refl))))))
 by_cases c14:(wo x.r (yu x.f)).1=14
 ·rw[iJ c14]at hA;subst hA;refine qx c14 (qZ ?_);refine qG (QW omQ (H2.sel e_1)) λ_ h3 H3=>?_;exact hj' _ _ (gone H3)
 ·rw[iQ c14]at hA;subst hA;refine qX c14 (qJ ?_);refine qG (QW omQ (H2.sel e_1)) λ_ h3 H3=>?_;exact hj' _ _ (gone H3)
theorem J4 (hn:4≤n) (O:∀c,x.c=some c→xX c) (H:HS g h (AttC a x::R)):t_w n 57 [.ptr a 0] h λr h'=>r=.bool (zP x)∧HS g h' (AttC a x::R):=by
 refine t_e1 (S:=S57) rfl omQ λk hk=>?_;unfold S57;try simp only[iZ]
 obtain⟨q,H1⟩:=AttC.E H;refine qW (qQ (qK H1 (b:=a) .here rfl ?_));unfold zP;by_cases c8:x.state=8
 ·rw[iV (λh=>h c8),Bool.false_and];refine jY c8 ?_;refine qV ?_;(try dsimp only);refine qS ?_;(try dsimp only);refine qI (qV ?_);(try dsimp only);refine qS ?_;(try dsimp only);refine qV ?_;(try dsimp only);refine jt ?_;(try dsimp only);refine qV ?_;(try dsimp only);refine qS ?_;(try dsimp only);refine qI ?_
  exact qj ⟨rfl,H⟩
 rw[iG (show x.state≠8 from c8),Bool.true_and];refine jj c8 ?_;cases hc:x.c with
 |none=>
  obtain⟨e,H2⟩:=InnC.noE hc (H1.sel e_4);refine qV ?_;(try dsimp only);refine qa ?_;(try dsimp only);refine qW (qQ (qK ‹_› .here rfl ?_))
  rw[e];refine OT (qF (qV ?_));(try dsimp only);refine qS ?_;(try dsimp only);refine qV ?_;(try dsimp only);refine jt ?_;(try dsimp only);refine qV ?_;(try dsimp only);refine qS ?_;(try dsimp only);refine qI ?_
  exact qj ⟨rfl,H⟩
 |some c=>
  obtain⟨b,e,H2⟩:=InnC.comE hc (H1.sel e_4);refine qV ?_;(try dsimp only);refine qa ?_;(try dsimp only);refine qW (qQ (qK ‹_› e_1 rfl ?_))
  rw[e.1];refine qXO (qF (qV ?_));(try dsimp only);refine qa ?_;(try dsimp only);refine qW (qQ (qK ‹_› e_1 rfl ?_))
  rw[e.1];refine qG (ZC omQ H2) ?_;rintro _ _ ⟨rfl,rfl⟩;cases hw:wB c with
  |true=>
   refine qV ?_;(try dsimp only);refine qo ?_;(try dsimp only);refine qV ?_;(try dsimp only);refine qa ?_;(try dsimp only);refine qF (qF ?_)
   exact qj ⟨rfl,H⟩
  |false=>
   refine qV ?_;(try dsimp only);refine qd ?_;(try dsimp only);refine qW (qQ (qK ‹_› e_1 rfl ?_))
   rw[e.1];refine qG (Kl omQ H2) ?_;rintro _ _ ⟨rfl,rfl⟩;by_cases c2:c.p.fin=2
   ·refine qx c2 ?_;rw[iG c2];refine qV ?_;(try dsimp only);refine qa ?_;(try dsimp only);refine qI (qF ?_)
    exact qj ⟨rfl,H⟩
   ·refine qX c2 ?_;rw[iV c2];refine qV ?_;(try dsimp only);refine qa ?_;(try dsimp only);refine qI (qF ?_)
    exact qj ⟨rfl,H⟩
theorem qGu (hn:22≤n) (O:zl x) (h3:3≤x.state) (h6:x.state≤6) (H:HS g h (AttC a x::R)):t_w n 120 [.ptr a 0] h λ_ h'=>HS g h' (AttC a (yG x)::R):=by
 refine t_e1 (S:=S120) rfl omQ λk hk=>?_;unfold S120;try simp only[iZ]
 obtain⟨q,H1⟩:=AttC.E H;clear H;generalize hA:yG x=A;unfold yG at hA;refine qW (qQ (qK H1 (b:=a) .here rfl ?_));refine jT [] (λ_ h'=>HS g h' (AttC a A::R)) (λj hj=>?_) λ_ h' H'=>qk (qj H');by_cases c3:x.state=3
 ·rw[iJ c3]at hA;subst hA;refine qx c3 (qZ ?_);obtain⟨b,e,H2⟩:=InnC.fetE c3 (O.c0 omQ) (H1.sel e_4);refine qG (O3 (q:=q) (R:=R) omQ O.b (O.job.same λ_=>by omega) (O.f c3).2 (O.c0 omQ) ⟨e.1,e.2.1⟩ (H2.sub (.cons e_1 (.cons e_1 (.cons e_1 (.cons e_1 (.cons .here .refl))))))) λ_ h3 H3=>hj _ _ H3
 rw[iQ c3]at hA;refine qX c3 (qJ ?_);by_cases c4:x.state=4
 ·rw[iJ c4]at hA;subst hA;refine qx c4 (qZ ?_);have hnd:=O.need omQ omQ;have hhi:=O.good.ok.hi;obtain⟨b,e,H2⟩:=InnC.extE (.inl c4) (O.c0 omQ) (H1.sel e_4);obtain⟨sv,H3⟩:=ExtC.E H2;refine qW (qQ (qK H1 (b:=a) .here (x:=.ptr b 0) (by rw[← e.2.1];rfl) ?_));refine qG (V3 omQ H3 .here) ?_;rintro _ _ ⟨rfl,rfl⟩;refine qW (qQ ?_);refine qw H2 (b:=a) e_1 ⟨rfl,rfl⟩ (by simp[xj]) λh4 H4=>?_;have H4:HS g h4 (qg a (xj { x with stamp:=gP x.e } q)::ExtC b x.e::JobC q.vb x.job q.rv q.bv q.gv::ViewC q.vb x.v::RdsC q.db x.r::R):=H4;refine qW (qQ (qK H4 (b:=a) .here rfl ?_));refine qG (VI omQ (H4.sel (P:=ViewC q.vb x.v) e_3)) ?_;rintro _ _ ⟨rfl,rfl⟩;refine qG (qXA omQ omQ H4) ?_;rintro _ h5 ⟨b',H5⟩;refine hj _ _ (AttC.I (q:={ q with iv:=.iface 151 (.ptr b' 0),fv:=.ptr b' 0 }) ?_);have H6:=InnC.fetI (st:=3) (e:=x.e) (ev:=q.ev) (c:=x.c) (cv:=q.cv) rfl (O.c0 omQ) ⟨e.1,rfl,rfl⟩ H5;exact H6.sub (.cons e_1 (.cons e_2 (.cons e_2 (.cons e_2 (.cons .here (.drop .refl))))))
 rw[iQ c4]at hA;refine qX c4 (qJ ?_);by_cases c5:x.state=5
 ·rw[iJ c5]at hA;subst hA;refine qx c5 (qZ ?_);obtain⟨b,e,H2⟩:=InnC.extE (.inr c5) (O.c0 omQ) (H1.sel e_4);obtain⟨sv,H3⟩:=ExtC.E H2;refine qW (qQ (qK H1 (b:=a) .here (x:=.ptr b 0) (by rw[← e.2.1];rfl) ?_));refine qG (V3 omQ H3 .here) ?_;rintro _ _ ⟨rfl,rfl⟩;refine qW (qQ ?_);refine qw H2 (b:=a) e_1 ⟨rfl,rfl⟩ (by simp[xj]) λh4 H4=>?_;have H4:HS g h4 (qg a (xj { x with stamp:=gP x.e } q)::ExtC b x.e::JobC q.vb x.job q.rv q.bv q.gv::ViewC q.vb x.v::RdsC q.db x.r::R):=H4;refine qG (QW omQ H4) λ_ h5 H5=>?_;refine hj _ _ (AttC.I (q:=q) ?_);have H6:=InnC.noI (st:=7) (f:=x.f) (e:=x.e) (c:=x.c) (iv:=q.iv) (fv:=q.fv) (ev:=q.ev) (cv:=q.cv) od (O.c0 omQ) e.1 H5;exact H6.sub (.cons e_1 (.cons e_2 (.cons e_2 (.cons e_2 (.cons .here (.drop .refl))))))
 rw[iQ c5]at hA;refine qX c5 (qJ ?_);have c6:x.state=6:=by omega
 refine qx c6 (qZ ?_)
 split at hA
 ·rename_i c hc;subst hA;obtain⟨b,e,H2⟩:=InnC.comE hc (H1.sel e_4);refine qV ?_
  try dsimp only
  refine qW (qQ (qK H1 (b:=a) .here (x:=.ptr b 0) (by rw[← e.1];rfl) ?_));refine qG (Kl omQ H2) ?_;rintro _ _ ⟨rfl,rfl⟩;refine qW (qQ (qK H1 (b:=a) .here (x:=.ptr b 0) (by rw[← e.1];rfl) ?_));refine qG (qz8 omQ H2) ?_;rintro _ _ ⟨rfl,rfl⟩;refine qG (QW omQ (H2.sel e_1)) λ_ h5 H5=>?_;refine qb H1 .here (x:=.ptr b 0) (by rw[← e.1];rfl) H1 .here (by rw[← e.1];rfl) (HS.lt H1 .here) ?_;refine hj _ _ (AttC.I (q:=q) ?_);have H6:=InnC.comI (st:=7) (f:=x.f) (e:=x.e) (iv:=q.iv) (fv:=q.fv) (ev:=q.ev) (b:=b) hc ⟨e.1,λh=>by cases h⟩ (H5.sel (P:=ComC b c) e_1);exact H6.sub (.cons e_1 (.cons e_1 (.cons e_1 (.cons e_1 (.cons .here .refl)))))
 ·rename_i hc;exact absurd hc (O.c6 c6)
end
end
section
variable {g h:AH} {L R:List SP}
section
variable {n a:Nat} {x:jQ} {q:ZP}
theorem InnC.out {st st':Int} {f:Qb} {e:QI} {c:Option zg} {iv fv ev cv:AV} (h7:st'=7∨st'=8) (H:HS g h (InnC st f e c iv fv ev cv::R)):HS g h (InnC st' f e c iv fv ev cv::R):=by
 cases c with
 |none=>obtain⟨q,H⟩:=InnC.noE rfl H;exact InnC.noI omQ rfl q H
 |some d=>obtain⟨b,q,H⟩:=InnC.comE rfl H;exact InnC.comI rfl ⟨q.1,λh=>by omega⟩ H
theorem US (hn:24≤n) (O:zl x) (h3:3≤x.state) (h6:x.state≤6) (H:HS g h (AttC a x::R)):t_w n 72 [.ptr a 0] h λ_ h'=>HS g h' (AttC a (xe x)::R):=by
 (refine qB (g:=W72) rfl omQ λk hk=>?_;show wp (S72 (callT tab qz k) _ _) _;unfold S72;try simp only[iI,uU,iZ])
 obtain⟨q,H1⟩:=AttC.E H;have fin:∀{K2:AV→AH→Go.Ae.R} {Q:AV→AH→Prop},wp (K2 (.int .i64 (xg x).1) h) Q→wp (yR (callT tab qz k) [(100,39),(151,207),(152,211),(153,106),(277,151)] q.iv [] h K2) Q:=λ{K2 Q} w=>by
  unfold xg at w;by_cases c3:x.state=3
  ·rw[iJ c3]at w;obtain⟨b,e,H2⟩:=InnC.fetE c3 (O.c0 omQ) (H1.sel e_4);rw[e.2.2];refine kV rfl (Kf omQ H2 .here) ?_;rintro _ _ ⟨rfl,rfl⟩;exact w
  ·rw[iQ c3]at w;by_cases c6:x.state=6
   ·rw[iJ c6]at w
    split at w
    ·rename_i c hc;obtain⟨b,e,H2⟩:=InnC.comE hc (H1.sel e_4);rw[e.2 c6];refine kV rfl (Kl omQ H2) ?_;rintro _ _ ⟨rfl,rfl⟩;exact w
    ·rename_i hc;exact absurd hc (O.c6 c6)
   ·rw[iQ c6]at w;obtain⟨b,e,H2⟩:=InnC.extE omQ (O.c0 omQ) (H1.sel e_4);obtain⟨sv,H3⟩:=ExtC.E H2;rw[e.2.2];refine kV rfl (qXU omQ H3 .here) ?_;rintro _ _ ⟨rfl,rfl⟩;exact w
 have by_:∀{K2:AV→AH→Go.Ae.R} {Q:AV→AH→Prop},wp (K2 (.int .i64 (xg x).2) h) Q→wp (yR (callT tab qz k) [(100,73),(151,345),(152,353),(153,356),(277,348)] q.iv [] h K2) Q:=λ{K2 Q} w=>by
  unfold xg at w;by_cases c3:x.state=3
  ·rw[iJ c3]at w;obtain⟨b,e,H2⟩:=InnC.fetE c3 (O.c0 omQ) (H1.sel e_4);rw[e.2.2];refine kV rfl (qwT omQ H2 .here) ?_;rintro _ _ ⟨rfl,rfl⟩;exact w
  ·rw[iQ c3]at w;by_cases c6:x.state=6
   ·rw[iJ c6]at w
    split at w
    ·rename_i c hc;obtain⟨b,e,H2⟩:=InnC.comE hc (H1.sel e_4);rw[e.2 c6];refine kV rfl (qw2 omQ H2) ?_;rintro _ _ ⟨rfl,rfl⟩;exact w
    ·rename_i hc;exact absurd hc (O.c6 c6)
   ·rw[iQ c6]at w;obtain⟨b,e,H2⟩:=InnC.extE omQ (O.c0 omQ) (H1.sel e_4);obtain⟨sv,H3⟩:=ExtC.E H2;rw[e.2.2];refine kV rfl (qwn omQ H3 .here) ?_;rintro _ _ ⟨rfl,rfl⟩;exact w
 refine qW (qQ (qK H1 (b:=a) .here rfl (fin ?_)));have OL:=NZ O h3 h6;show wp _ λ_ h'=>HS g h' (AttC a (z8 (vQ x))::R);refine jT [] (λs h'=>s=(.ptr a 0,())∧HS g h' (AttC a (vQ x)::R)) (λj hj=>?_) ?_
 rotate_left
 ·rintro _ h2 ⟨rfl,H2⟩;dsimp only;refine qG (J4 omQ OL.c H2) ?_;rintro _ h3 ⟨rfl,H3⟩;unfold z8;cases hw:zP (vQ x)with
  |false=>exact qJ (qk (qj H3))
  |true=>
   refine qZ ?_;have hcs:∃c,(vQ x).c=some c:=by
    unfold zP at hw;cases hc:(vQ x).c with
    |none=>rw[hc]at hw;simp at hw
    |some c=>exact⟨c,rfl⟩
   obtain⟨c,hc⟩:=hcs;obtain⟨q2,H4⟩:=AttC.E H3;obtain⟨b,e,H5⟩:=InnC.comE hc (H4.sel e_4);refine qW (qQ (qK H4 (b:=a) .here (x:=.ptr b 0) (by rw[← e.1];rfl) ?_));refine qG (qVL omQ (OL.c c hc).now H5) ?_;rintro _ _ ⟨rfl,rfl⟩;refine qW (qQ ?_);refine qw H4 (b:=a) .here ⟨rfl,rfl⟩ (by simp[xj]) λh5 H6=>qk (qj ?_);rw[iJ rfl];have H7:HS g h5 (qg a (xj { vQ x with stamp:=wQ c } q2)::JobC q2.vb (vQ x).job q2.rv q2.bv q2.gv::ViewC q2.vb (vQ x).v::RdsC q2.db (vQ x).r::InnC (vQ x).state (vQ x).f (vQ x).e (vQ x).c q2.iv q2.fv q2.ev q2.cv::R):=H6;rw[hc]at H7 ⊢;exact AttC.I (q:=q2) H7
 generalize hL:vQ x=Y at*;unfold vQ at hL;by_cases c0:(xg x).1=0
 ·rw[iJ c0]at hL;subst hL;exact qx c0 (qZ (hj _ _ ⟨rfl,H⟩))
 rw[iQ c0]at hL;refine qX c0 (qJ ?_);by_cases c5:(xg x).1=5
 ·rw[iJ c5]at hL;subst hL;refine qx c5 (qZ ?_);refine qW (qQ (qK H1 (b:=a) .here rfl (by_ ?_)));refine qG (QW omQ H1) λ_ h2 H2=>hj _ _ ⟨rfl,AttC.I (q:=q) ?_⟩;have H3:=InnC.out (st':=7) (.inl rfl) (H2.sel e_4);exact H3.sub (.cons e_1 (.cons e_1 (.cons e_1 (.cons e_1 (.cons .here .refl)))))
 ·rw[iQ c5]at hL;subst hL;refine qX c5 (qJ ?_);exact qG (qGu omQ O h3 h6 H) λ_ h2 H2=>hj _ _ ⟨rfl,H2⟩
theorem qjp {an:AnM} (hn:26≤n) (O:zl x) (ha:X8 an) (H:HS g h (AttC a x::R)):t_w n 38 [.ptr a 0,.agg (xK an)] h λ_ h'=>HS g h' (AttC a (jb x an)::R):=by
 (refine qB (g:=W38) rfl omQ λk hk=>?_;show wp (S38 (callT tab qz k) _ _ _) _;unfold S38;try simp only[iI,uU,iZ])
 have hst:=O.st;obtain⟨q,H0⟩:=AttC.E H;refine qO H0 rfl λb0 h1 H1=>?_;have H1:HS g h1 (qg b0 (xK an)::qZm a x q R):=H1;clear H H0;generalize hA:jb x an=A;unfold jb at hA;refine qW (qQ (qK H1 (b:=a) e_1 rfl ?_));by_cases c8:x.state=8
 ·rw[iJ c8]at hA;subst hA;exact qx c8 (qZ (qj (AttC.I (q:=q) H1.drop)))
 rw[iQ c8]at hA;refine qX c8 (qJ ?_);refine qQ (qK H1 (b:=b0) .here (x:=.int .i64 an.err) rfl ?_);by_cases ce:an.err=0
 rotate_left
 ·rw[iJ ce]at hA;subst hA;refine jj ce (qZ ?_);refine qQ (qK H1 (b:=b0) .here (x:=.int .i64 an.err) rfl ?_);refine qG (QW omQ (H1.sel e_1)) λ_ h2 H2=>?_;refine qW (qQ ?_);refine qw H2 (b:=a) .here ⟨rfl,rfl⟩ (by simp[xj]) λh3 H3=>qj (AttC.I (q:=q) ?_);have H4:=InnC.out (st':=8) (.inr rfl) (H3.sel e_5);exact H4.sub (.cons e_1 (.cons e_2 (.cons e_2 (.cons e_2 (.cons .here (.drop .refl))))))
 rw[iQ (λh=>h ce)]at hA;refine jY ce (qJ ?_);refine qW (qQ (qK H1 (b:=a) e_1 rfl ?_));refine jT [] (λ_ h'=>HS g h' (AttC a A::R)) (λj hj=>?_) λ_ h' H'=>qk (qj H');by_cases c0:x.state=0
 ·rw[iJ c0]at hA;subst hA;refine qx c0 (qZ ?_);refine qW (qQ ?_);refine qw H1 (b:=a) e_1 ⟨rfl,rfl⟩ (by simp[xj]) λh2 H2=>hj _ _ (AttC.I (q:=q) ?_);obtain⟨e,H3⟩:=InnC.noE (O.c0 omQ) (H2.sel e_5);have H4:=InnC.noI (st:=1) (f:=x.f) (e:=x.e) (c:=x.c) (iv:=q.iv) (fv:=q.fv) (ev:=q.ev) od (O.c0 omQ) e H3;exact H4.sub (.cons e_1 (.cons e_2 (.cons e_2 (.cons e_2 (.cons .here (.drop .refl))))))
 rw[iQ c0]at hA;refine qX c0 (qJ ?_);by_cases c1:x.state=1
 ·rw[iJ c1]at hA;subst hA;refine qx c1 (qZ ?_);refine qV ?_
  try dsimp only
  refine qQ (qK H1 (b:=b0) .here (x:=.int .u64 an.word) rfl ?_);refine qQ (qK H1 (b:=b0) .here (x:=.int .u64 an.word) rfl ?_);refine qW (qQ ?_);refine qw H1 (b:=a) e_1 ⟨rfl,rfl⟩ (by simp[xj]) λh2 H2=>?_;refine qW (qQ ?_);refine qw H2 (b:=a) .here ⟨rfl,rfl⟩ (by simp[xj]) λh3 H3=>?_;refine qW (qQ ?_);refine qw H3 (b:=a) .here ⟨rfl,rfl⟩ (by simp[xj]) λh4 H4=>?_;refine qb H2 e_1 rfl H3 e_1 rfl (HS.lt H1 .here) ?_;refine qb H1 .here rfl H2 e_1 rfl (HS.lt H1 .here) ?_;refine qb H1 .here rfl H2 e_1 rfl (HS.lt H1 .here) ?_;refine qW (qQ ?_);refine qw H4 (b:=a) .here ⟨rfl,rfl⟩ (by simp[xj]) λh5 H5=>hj _ _ (AttC.I (q:=q) ?_);obtain⟨e,H6⟩:=InnC.noE (O.c0 omQ) (H5.sel e_5);have H7:=InnC.noI (st:=2) (f:=x.f) (e:=x.e) (c:=x.c) (iv:=q.iv) (fv:=q.fv) (ev:=q.ev) od (O.c0 omQ) e H6;exact H7.sub (.cons e_1 (.cons e_2 (.cons e_2 (.cons e_2 (.cons .here (.drop .refl))))))
 rw[iQ c1]at hA;refine qX c1 (qJ ?_);by_cases c2:x.state=2
 ·rw[iJ c2]at hA;subst hA;refine qx c2 (qZ ?_);obtain⟨e,H3⟩:=InnC.noE (O.c0 omQ) (H1.sel e_5);exact qG (Zn (q:=q) (R:=R) omQ O.b (O.job.same λ_=>by omega) (O.c0 omQ) e (H3.sub (.cons e_1 (.cons e_1 (.cons e_1 (.cons e_1 (.drop .refl))))))) λ_ h4 H4=>hj _ _ H4
 rw[iQ c2]at hA;refine qX c2 (qJ ?_);by_cases c7:x.state=7
 ·rw[iJ c7]at hA;subst hA;refine qx c7 (qZ ?_);refine qW (qQ ?_);refine qw H1 (b:=a) e_1 ⟨rfl,rfl⟩ (by simp[xj]) λh2 H2=>hj _ _ (AttC.I (q:=q) ?_);have H3:=InnC.out (st':=8) (.inr rfl) (H2.sel e_5);exact H3.sub (.cons e_1 (.cons e_2 (.cons e_2 (.cons e_2 (.cons .here (.drop .refl))))))
 rw[iQ c7]at hA;refine qX c7 (qJ ?_);refine qW (qQ (qK H1 (b:=a) e_1 rfl ?_));refine qD H1 (b:=b0) (off:=0) .here rfl omQ (l:=xK an) rfl ?_;have hsx:∀{y:jQ},y.state=x.state→3≤y.state∧y.state≤6:=λh=>by omega
 by_cases c3:x.state=3
 ·rw[iJ c3]at hA;subst hA;obtain⟨b,e,H2⟩:=InnC.fetE c3 (O.c0 omQ) (H1.sel e_5);rw[e.2.2];refine kV rfl (qYd (a:=an) omQ (O.f c3).1 H2) λ_ h3 H3=>?_;have H4:=InnC.fetI (st:=x.state) (e:=x.e) (ev:=q.ev) c3 (O.c0 omQ) e H3;have O':zl { x with f:=xT x.f an }:=⟨O.set,O.good,O.sz,O.fr,O.r,O.job,O.st,λh=>⟨YC (O.f h).1,KY (O.f h).2 ha⟩,O.need,O.e,O.c,O.c0,O.c6⟩;exact qG (US (x:={ x with f:=xT x.f an }) omQ O' (hsx rfl).1 (hsx rfl).2 (AttC.I (q:=q) (H4.sub (.cons e_2 (.cons e_2 (.cons e_2 (.cons e_2 (.cons .here (.drop .refl))))))))) λ_ h5 H5=>hj _ _ H5
 rw[iQ c3]at hA;by_cases c6:x.state=6
 ·rw[iJ c6]at hA;subst hA;cases hc:x.c with
  |none=>exact absurd hc (O.c6 c6)
  |some c=>obtain⟨b,e,H2⟩:=InnC.comE hc (H1.sel e_5);rw[e.2 c6];have Oc:=O.c c hc;refine kV rfl (qzr (a:=an) omQ Oc H2) λ_ h3 H3=>?_;have H4:=InnC.comI (st:=x.state) (f:=x.f) (e:=x.e) (fv:=q.fv) (ev:=q.ev) (c:=some (zw c an)) rfl e H3;have O':zl { x with c:=some (zw c an) }:=⟨O.set,O.good,O.sz,O.fr,O.r,O.job,O.st,O.f,O.need,O.e,λc' h=>by cases h;exact Kz Oc ha,λh=>absurd h (by show¬x.state≤5;omega),λ_ h=>by cases h⟩;rw[hc]at hj;exact qG (US (x:={ x with c:=some (zw c an) }) omQ O' (hsx rfl).1 (hsx rfl).2 (AttC.I (q:=q) (H4.sub (.cons e_2 (.cons e_2 (.cons e_2 (.cons e_2 (.cons .here (.drop .refl))))))))) λ_ h5 H5=>hj _ _ H5
 rw[iQ c6]at hA;subst hA;obtain⟨b,e,H2⟩:=InnC.extE omQ (O.c0 omQ) (H1.sel e_5);rw[e.2.2];refine kV rfl (qYp (a:=an) omQ (O.e omQ omQ) H2) λ_ h3 H3=>?_;have H4:=InnC.extI (st:=x.state) (f:=x.f) (fv:=q.fv) omQ (O.c0 omQ) e H3;have O':zl { x with e:=x7 x.e an }:=⟨O.set,O.good,O.sz,O.fr,O.r,O.job,O.st,O.f,O.need,λh1 h2=>YP (O.e h1 h2),O.c,O.c0,O.c6⟩;exact qG (US (x:={ x with e:=x7 x.e an }) omQ O' (hsx rfl).1 (hsx rfl).2 (AttC.I (q:=q) (H4.sub (.cons e_2 (.cons e_2 (.cons e_2 (.cons e_2 (.cons .here (.drop .refl))))))))) λ_ h5 H5=>hj _ _ H5
theorem qqi (hn:4≤n) (O:zl x) (H:HS g h (AttC a x::R)):t_w n 36 [.ptr a 0] h λr h'=>r=opV (xq x)∧HS g h' (AttC a x::R):=by
 (refine qB (g:=W36) rfl omQ λk hk=>?_;show wp (S36 (callT tab qz k) _ _) _;unfold S36;try simp only[iI,uU,iZ])
 have hst:=O.st;obtain⟨q,H0⟩:=AttC.E H;refine qO H0 rfl λb0 h1 H1=>?_;clear H H0;refine qW (qQ (qK H1 (b:=a) e_1 rfl ?_));unfold xq;have say:∀{o:OpM} {h':AH},HS g h' (qg b0 (yL o)::qZm a x q R)→wp (zW h' (.ptr b0 0) 10 λv=>some (.tup [v,.bool true],h')) λr h'=>r=opV (some o)∧HS g h' (AttC a x::R):=λ{o h'} H'=>by
  refine qD H' (b:=b0) (off:=0) .here rfl omQ (l:=yL o) rfl ?_;exact qj ⟨rfl,AttC.I (q:=q) H'.drop⟩
 by_cases c0:x.state=0
 ·rw[iJ c0];refine qx c0 (qZ ?_);refine qW (qQ (qK H1 (b:=a) e_1 rfl ?_));refine qH (l:=yL (op0 9 x.me 1)) rfl ?_;exact qe H1 (b:=b0) .here rfl (by show 0+10≤10;omega) rfl λh3 H3=>say H3
 rw[iQ c0];refine qX c0 (qJ ?_);by_cases c1:x.state=1
 ·rw[iJ c1];refine qx c1 (qZ ?_);refine qH (l:=yL (op0 6 0 0)) rfl ?_;exact qe H1 (b:=b0) .here rfl (by show 0+10≤10;omega) rfl λh3 H3=>say H3
 rw[iQ c1];refine qX c1 (qJ ?_);by_cases c2:x.state=2
 ·rw[iJ c2];refine qx c2 (qZ ?_);refine qW (qQ (qK H1 (b:=a) e_1 rfl ?_));refine qW (qQ (qK H1 (b:=a) e_1 rfl ?_));refine OO (qH (l:=yL (op0 9 x.me (zL .u64 (x.stamp+1)))) rfl ?_);exact qe H1 (b:=b0) .here rfl (by show 0+10≤10;omega) rfl λh3 H3=>say H3
 rw[iQ c2];refine qX c2 (qJ ?_);by_cases c7:x.state=7
 ·rw[iJ c7];refine qx c7 (qZ ?_);refine qW (qQ (qK H1 (b:=a) e_1 rfl ?_));refine qH (l:=yL (op0 9 x.me 0)) rfl ?_;exact qe H1 (b:=b0) .here rfl (by show 0+10≤10;omega) rfl λh3 H3=>say H3
 rw[iQ c7];refine qX c7 (qJ ?_);by_cases c8:x.state=8
 ·rw[iJ c8];refine qx c8 (qZ ?_);refine qH (l:=yL (op0 0 0 0)) rfl ?_;refine qe H1 (b:=b0) .here rfl (by show 0+10≤10;omega) rfl λh3 H3=>?_;refine qD H3 (b:=b0) (off:=0) .here rfl omQ (l:=yL (op0 0 0 0)) rfl ?_;exact qj ⟨rfl,AttC.I (q:=q) H3.drop⟩
 rw[iQ c8];refine qX c8 (qJ ?_);refine qW (qQ (qK H1 (b:=a) e_1 rfl ?_));have inn:∀{o:Option OpM} {h':AH},HS g h' (qg b0 (yL (op0 0 0 0))::qZm a x q R)→wp (zA (opV o) 0 λv=>zA (opV o) 1 λv2=>jC h' (.ptr b0 0) v 10 λh2=>zW h2 (.ptr b0 0) 10 λv3=>some (.tup [v3,v2],h2)) λr h'=>r=opV o∧HS g h' (AttC a x::R):=λ{o h'} H'=>by
  refine qA rfl (qA rfl ?_);refine qe H' (b:=b0) .here rfl (by show 0+10≤10;omega) rfl λh3 H3=>?_;refine qD H3 (b:=b0) (off:=0) .here rfl omQ (l:=yL (o.getD (op0 0 0 0))) rfl ?_;exact qj ⟨rfl,AttC.I (q:=q) H3.drop⟩
 by_cases c3:x.state=3
 ·rw[iJ c3];obtain⟨b,e,H2⟩:=InnC.fetE c3 (O.c0 omQ) (H1.sel e_5);rw[e.2.2];refine kV rfl (qWi omQ H2) ?_;rintro _ h3 ⟨rfl,H3⟩;have H4:=InnC.fetI (st:=x.state) (e:=x.e) (ev:=q.ev) c3 (O.c0 omQ) e H3;exact inn (H4.sub (.cons e_1 (.cons e_1 (.cons e_1 (.cons e_1 (.cons e_1 (.cons .here .refl)))))))
 rw[iQ c3];by_cases c6:x.state=6
 ·rw[iJ c6];cases hc:x.c with
  |none=>exact absurd hc (O.c6 c6)
  |some c=>obtain⟨b,e,H2⟩:=InnC.comE hc (H1.sel e_5);rw[e.2 c6];refine kV rfl (qW8 omQ (O.c c hc) H2) ?_;rintro _ h3 ⟨rfl,H3⟩;have H4:=InnC.comI (st:=x.state) (f:=x.f) (e:=x.e) (fv:=q.fv) (ev:=q.ev) hc e H3;exact inn (H4.sub (.cons e_1 (.cons e_1 (.cons e_1 (.cons e_1 (.cons e_1 (.cons .here .refl)))))))
 rw[iQ c6];obtain⟨b,e,H2⟩:=InnC.extE omQ (O.c0 omQ) (H1.sel e_5);rw[e.2.2];refine kV rfl (qWu omQ (O.e omQ omQ) H2) ?_;rintro _ h3 ⟨rfl,H3⟩;have H4:=InnC.extI (st:=x.state) (f:=x.f) (fv:=q.fv) omQ (O.c0 omQ) e H3;exact inn (H4.sub (.cons e_1 (.cons e_1 (.cons e_1 (.cons e_1 (.cons e_1 (.cons .here .refl)))))))
end
end
section
variable {g h:AH} {L R:List SP}
section
variable {n:Nat} {s S:xw}
abbrev QS (S:xw):List AV:=[.int .i64 S.words,.int .i64 S.stripes,.int .i64 S.wide,.int .i64 S.threads,.int .u64 S.start]
abbrev yW (S:xw):List AV:=[.int .i64 S.words,.int .i64 S.stripes,.int .i64 S.wide,.int .i64 S.threads,.int .u64 S.start,.int .i64 S.spins,.int .i64 S.writes,.int .i64 S.fuel]
theorem ZQ (hn:1≤n) (H:HS g h R):t_w n 22 [.agg (QS s)] h λr h'=>r=.agg (QS (jw s))∧HS g h' R:=by
 refine t_e1 (S:=S22) rfl omQ λk hk=>?_;unfold S22;try simp only[iZ]
 refine qO H rfl λb0 h1 H1=>?_;refine qO H1 rfl λb1 h2 H2=>?_;refine qQ (qK H2 (b:=b0) e_1 rfl (zX (zC ?_)));refine qQ (qK H2 (b:=b0) e_1 rfl (zX (zC ?_)));refine qQ (qK H2 (b:=b0) e_1 rfl (zX (zC ?_)));refine qQ (qK H2 (b:=b0) e_1 rfl (zX (zC ?_)));refine qQ (qK H2 (b:=b0) e_1 rfl (zX ?_));refine qH (l:=QS (jw s)) rfl ?_;refine qe H2 (b:=b1) .here rfl (by show 0+5≤5;omega) rfl λh3 H3=>?_;refine qD H3 (b:=b1) (off:=0) .here rfl omQ (l:=QS (jw s)) rfl ?_;exact qj ⟨rfl,H3.drop.drop⟩
theorem Zt (hn:2≤n) (H:HS g h R):t_w n 30 [.agg (yW s)] h λr h'=>r=.agg (yW (jw s))∧HS g h' R:=by
 refine t_e1 (S:=S30) rfl omQ λk hk=>?_;unfold S30;try simp only[iZ]
 refine qO H rfl λb0 h1 H1=>?_;refine qO H1 rfl λb1 h2 H2=>?_;refine qV ?_
 try dsimp only
 refine qQ (qD H2 (b:=b0) (off:=0) e_1 rfl omQ (l:=QS s) rfl ?_);refine qG (ZQ omQ H2) ?_;rintro _ h3 ⟨rfl,H3⟩;refine qQ (qK H3 (b:=b0) e_1 rfl (zX (zC ?_)));refine qQ (qK H3 (b:=b0) e_1 rfl (zX (zC ?_)));refine qQ (qK H3 (b:=b0) e_1 rfl (zX (zC ?_)));refine qH (l:=yW (jw s)) rfl ?_;refine qe H3 (b:=b1) .here rfl (by show 0+8≤8;omega) rfl λh4 H4=>?_;refine qb H2 e_1 rfl H3 e_1 rfl (HS.lt H2 e_1) ?_;refine qb H2 e_1 rfl H3 e_1 rfl (HS.lt H2 e_1) ?_;refine qb H2 e_1 rfl H3 e_1 rfl (HS.lt H2 e_1) ?_;refine qD H4 (b:=b1) (off:=0) .here rfl omQ (l:=yW (jw s)) rfl ?_;exact qj ⟨rfl,H4.drop.drop⟩
theorem qvE {w:Int} (hn:1≤n) (hw:32≤w∧w≤256) (H:HS g h R):t_w n 23 [.int .i64 w] h λr h'=>∃b v,r=.ptr b 0∧HS g h' (qg b [v]::qy 23 1 w.toNat v ((List.replicate w.toNat (0:Int)).map (.int .u64))::R):=by
 refine t_e1 (S:=S23) rfl omQ λk hk=>?_;unfold S23;try simp only[iZ]
 refine zX (zC ?_);rw[show max ((32:Nat):Int) (min w ((256:Nat):Int))=((w.toNat:Nat):Int) by omega];refine GF H omQ λv h1 H1=>?_;rw[show List.replicate w.toNat (AV.int .u64 ((0:Nat):Int))=(List.replicate w.toNat (0:Int)).map (.int .u64) by rw[List.map_replicate];rfl]at H1;have o1:=H1.one .here;refine qH (l:=[v]) (by simp only[yF,o1.1];rfl) ?_;refine qO H1 (by simp only[qm,List.all_cons,o1.2];rfl) λb h2 H2=>qj ⟨b,v,rfl,H2⟩
theorem qxi {w:Int} (hn:1≤n) (hw:1≤w∧w≤4) (H:HS g h R):t_w n 26 [.int .i64 w] h λr h'=>∃b v,r=.ptr b 0∧HS g h' (qg b [v]::qy 23 1 w.toNat v ((List.replicate w.toNat (0:Int)).map (.int .u64))::R):=by
 refine t_e1 (S:=S26) rfl omQ λk hk=>?_;unfold S26;try simp only[iZ]
 refine zX (zC ?_);rw[show max ((1:Nat):Int) (min w ((4:Nat):Int))=((w.toNat:Nat):Int) by omega];refine GF H omQ λv h1 H1=>?_;rw[show List.replicate w.toNat (AV.int .u64 ((0:Nat):Int))=(List.replicate w.toNat (0:Int)).map (.int .u64) by rw[List.map_replicate];rfl]at H1;have o1:=H1.one .here;refine qH (l:=[v]) (by simp only[yF,o1.1];rfl) ?_;refine qO H1 (by simp only[qm,List.all_cons,o1.2];rfl) λb h2 H2=>qj ⟨b,v,rfl,H2⟩
theorem qJn:∀k:Nat,vz [AV.int .u64 ((0:Nat):Int),.bool false,.int .i64 ((0:Nat):Int)] k=(List.replicate k lk0).flatMap zk:=by
 intro k
 induction k with
 |zero=>rfl
 |succ k ih=>rw[List.replicate_succ,List.flatMap_cons,← ih];rfl
theorem qgP {w z:Int} (hn:2≤n) (hw:1≤w∧w≤16) (hz:1≤z∧z≤16) (H:HS g h R):t_w n 24 [.int .i64 w,.int .i64 z] h λr h'=>∃b v,r=.ptr b 0∧HS g h' (qg b [v,.int .i64 z]::qy 44 3 w.toNat v ((List.replicate w.toNat lk0).flatMap zk)::R):=by
 refine t_e2 (S:=S24) rfl omQ λk hk=>?_;unfold S24;try simp only[iZ]
 refine qG (K9 omQ) ?_;rintro _ _ ⟨rfl,rfl⟩;rw[show max 1 (min w ((16:Nat):Int))=((w.toNat:Nat):Int) by omega];refine Y0 (sz:=3) (ln:=w.toNat) (cp:=w.toNat) H rfl (Nat.le_refl _) omQ λv h1 H1=>?_;rw[List.take_of_length_le (by rw[wu];exact Nat.le_refl _),qJn]at H1;refine qG (K9 omQ) ?_;rintro _ _ ⟨rfl,rfl⟩;rw[show max 1 (min z ((16:Nat):Int))=z by omega];have o1:=H1.one .here;refine qH (l:=[v,.int .i64 z]) (by simp only[yF,o1.1];rfl) ?_;refine qO H1 (by simp only[qm,List.all_cons,o1.2];rfl) λb h2 H2=>qj ⟨b,v,rfl,H2⟩
theorem qx8 {w:Int} (hn:1≤n) (hw:w≤4611686018427387903) (H:HS g h R):t_w n 25 [.int .u64 w] h λr h'=>∃b,r=.ptr b 0∧HS g h' (qg b [.int .u64 w]::R):=by
 refine t_e1 (S:=S25) rfl omQ λk hk=>?_;unfold S25;try simp only[iZ]
 refine zX ?_;rw[show min w ((4611686018427387903:Nat):Int)=w by omega];refine qH (l:=[.int .u64 w]) rfl ?_;refine qO H rfl λb h2 H2=>qj ⟨b,rfl,H2⟩
theorem qvL (hn:4≤n) (hs:0≤s.start) (H:HS g h R):t_w n 6 [.agg (QS s)] h λr h'=>∃p,r=.ptr p 0∧HS g h' (MemC p (jw s) (Xj (jw s))::R):=by
 refine t_e1 (S:=S6) rfl omQ λk hk=>?_;unfold S6;try simp only[iZ]
 have O:=wG hs;refine qO H rfl λb0 h1 H1=>?_;refine qD H1 (b:=b0) (off:=0) .here rfl omQ (l:=QS s) rfl ?_;refine qG (ZQ omQ H1) ?_;rintro _ h2 ⟨rfl,H2⟩;clear H H1;refine qe H2 (b:=b0) .here rfl (by show 0+5≤5;omega) rfl λh3 H3=>?_;have H3:HS g h3 (qg b0 (QS (jw s))::R):=H3;generalize jw s=S at*;clear H2;refine qV ?_
 try dsimp only
 refine qD H3 (b:=b0) (off:=0) .here rfl omQ (l:=QS S) rfl ?_;refine qQ (qK H3 (b:=b0) .here rfl ?_);refine qG (qvE omQ O.words H3) ?_;rintro _ h4 ⟨hb,wv,rfl,H4⟩;refine qQ (qK H4 (b:=b0) e_2 rfl ?_);refine qQ (qK H4 (b:=b0) e_2 rfl ?_);refine qG (qgP omQ O.stripes O.wide H4) ?_;rintro _ h5 ⟨tb,lv,rfl,H5⟩;refine qQ (qK H5 (b:=b0) e_4 rfl ?_);refine qG (qx8 omQ O.start.2 H5) ?_;rintro _ h6 ⟨cb,rfl,H6⟩;refine qQ (qK H6 (b:=b0) e_5 rfl ?_);refine qG (qxi omQ O.threads H6) ?_;rintro _ h7 ⟨sb,sv,rfl,H7⟩;refine qH (l:=[.int .i64 S.words,.int .i64 S.stripes,.int .i64 S.wide,.int .i64 S.threads,.int .u64 S.start,.ptr hb 0,.ptr tb 0,.ptr cb 0,.ptr sb 0,.int .i64 0]) rfl ?_;refine qO H7 rfl λp h8 H8=>?_;refine qb H5 e_4 rfl H6 e_5 rfl (HS.lt H3 .here) ?_;refine qb H4 e_2 rfl H5 e_4 rfl (HS.lt H3 .here) ?_;refine qb H3 .here rfl H4 e_2 rfl (HS.lt H3 .here) ?_;refine qb H4 e_2 rfl H5 e_4 rfl (HS.lt H3 .here) ?_;refine qb H3 .here rfl H4 e_2 rfl (HS.lt H3 .here) ?_;refine qb H3 .here rfl H4 e_2 rfl (HS.lt H3 .here) ?_;refine qb H3 .here rfl H4 e_2 rfl (HS.lt H3 .here) ?_;refine zn H6 e_5 rfl H7 e_7 rfl rfl omQ (HS.lt H3 .here) ?_;refine zn H5 e_4 rfl H6 e_5 rfl rfl omQ (HS.lt H3 .here) ?_;refine zn H4 e_2 rfl H5 e_4 rfl rfl omQ (HS.lt H3 .here) ?_;refine zn H3 .here rfl H4 e_2 rfl rfl omQ (HS.lt H3 .here) ?_;refine qj ⟨p,rfl,MemC.I (hb:=hb) (tb:=tb) (cb:=cb) (sb:=sb) (wv:=wv) (lv:=lv) (sv:=sv) ?_⟩;unfold qZA Xj;dsimp only;simp only[List.length_replicate];exact H8.sub (.cons .here (.cons e_5 (.cons e_5 (.cons e_3 (.cons e_3 (.cons e_2 (.cons .here (.cons .here (.drop .refl)))))))))
theorem Vp {m:Nat} {e:TypeId} {v:AV} {xs:List AV} {R2:List SP} (hn:1≤n) (H:HS g h L) (s:Sel L (qy e 1 m v xs) R2) (ha:qm xs=true) (hm:m≤1000000) :
  t_w n 101 [v] h λr h'=>HS g h' (qy 3 1 m r xs::L):=by
 refine t_e1 (S:=S101) rfl omQ λk hk=>?_;unfold S101;try simp only[iZ]
 refine JJ H s (λh1 h2=>?_) (qJ ?_)
 ·subst h1 h2;obtain rfl:xs=[]:=iA (by simpa using H.sl_len s);exact qZ (qj H.nils)
 ·refine qf (n:=0) (l:=[]) (sz:=1) H rfl rfl rfl rfl λv2 h2 H2=>?_;refine jf H2 (H2.sl (.there s)) omQ omQ ha λv3 h3 H3=>?_;rw[Nat.zero_add,List.nil_append]at H3;exact qj H3
theorem VK {me:Int} (hn:6≤n) (hs:0≤s.start) (H:HS g h R):t_w n 152 [.int .i64 me,.agg (yW s)] h λr h'=>∃a vb db,r=.ptr a 0∧
  HS g h' (qg a (xj (G8 me (jw s) (.sweep [] 0)) ⟨.nilp,.nils,.nili,.nilp,.nilp,.nilp,0,vb,db⟩)::RdsC db []::ViewC vb (QR (jw s).words (jw s).writes)::R):=by
 refine t_e2 (S:=S152) rfl omQ λk hk=>?_;unfold S152;try simp only[iZ]
 refine qO H rfl λb0 h1 H1=>?_;refine qD H1 (b:=b0) (off:=0) .here rfl omQ (l:=yW s) rfl ?_;refine qG (Zt omQ H1) ?_;rintro _ h2 ⟨rfl,H2⟩;clear H H1;refine qe H2 (b:=b0) .here rfl (by show 0+8≤8;omega) rfl λh3 H3=>?_;have H3:HS g h3 (qg b0 (yW (jw s))::R):=H3;generalize jw s=S at*;clear H2;refine qV ?_
 try dsimp only
 refine qD H3 (b:=b0) (off:=0) .here rfl omQ (l:=yW S) rfl ?_;refine qQ (qp (qK H3 (b:=b0) .here rfl ?_));refine qQ (qK H3 (b:=b0) .here rfl ?_);refine qG (qX8 omQ H3) ?_;rintro _ h4 ⟨vb,rfl,H4⟩;refine qG (qks omQ H4) ?_;rintro _ h5 ⟨db,rfl,H5⟩;refine qH (l:=xj (G8 me S (.sweep [] 0)) ⟨.nilp,.nils,.nili,.nilp,.nilp,.nilp,0,vb,db⟩) rfl ?_;refine qO H5 rfl λa h6 H6=>?_;refine zn H4 e_1 rfl H5 e_2 rfl rfl omQ (HS.lt H3 .here) ?_;refine zn H3 .here rfl H4 e_1 rfl rfl omQ (HS.lt H3 .here) ?_;exact qj ⟨a,vb,db,rfl,H6.sub (.cons .here (.cons .here (.cons .here (.drop .refl))))⟩
theorem qxl {me:Int} {l:List qR} {sv:AV} (hn:10≤n) (hs:0≤s.start) (hc:(xB l).2=0) (S:Rd g R 5 l.length sv (l.flatMap jK)) (H:HS g h R) :
  t_w n 108 [.int .i64 me,.agg (yW s),.agg [sv]] h λr h'=>∃a,r=.ptr a 0∧HS g h' (AttC a (vh me s l)::R):=by
 refine t_e3 (S:=S108) rfl omQ λk hk=>?_;unfold S108;try simp only[iZ]
 have hle:=(QM hc).le;refine qO H rfl λb0 h1 H1=>?_;refine qO H1 (yh (kj (S.sl H))) λb1 h2 H2=>?_;refine qD H2 (b:=b0) (off:=0) e_1 rfl omQ (l:=yW s) rfl ?_;refine qG (VK omQ hs H2) ?_;rintro _ h3 ⟨a,vb,db,rfl,H3⟩;refine qD H3 (b:=b1) (off:=0) e_3 rfl omQ (l:=[sv]) rfl ?_;refine qW (qQ (qK H3 (b:=a) .here rfl ?_));refine qW (qQ (qp (qK H3 (b:=a) .here rfl ?_)));refine qG (qX0 omQ H3 S.more.more.more.more.more omQ) ?_;rintro _ h4 ⟨ib,rfl,H4⟩;refine qW (qQ ?_);refine qw H4 (b:=a) e_1 (x:=.ptr ib 0) ⟨rfl,rfl⟩ (by simp[xj]) λh5 H5=>qj ⟨a,rfl,?_⟩;have hm:Gn l=qL l:=by unfold Gn;rw[iJ hc]
 rw[hm,hc]at H5;refine AttC.I (q:=⟨.ptr ib 0,.nils,.nili,.nilp,.nilp,.nilp,0,vb,db⟩) ?_;have H6:=JobC.PI (p:=⟨l,YX,0,0,zv (jw s).fuel⟩) ⟨rfl,rfl,rfl⟩ (H5.sel e_1);have H7:=InnC.noI (st:=0) (f:=kT 0 0 0 0 0) (e:=VV 0 0 []) (c:=none) (iv:=.nili) (fv:=.nilp) (ev:=.nilp) od rfl rfl H6;exact H7.sub (.cons e_2 (.cons e_1 (.cons e_2 (.cons e_1 (.cons .here (.drop (.drop .refl)))))))
theorem qVd {me:Int} {bs:List Int} {e:TypeId} {sv:AV} {R2:List SP} (hn:8≤n) (hs:0≤s.start) (hb:bs.length≤1000000) (H:HS g h L) (S:Sel L (qy e 1 bs.length sv (bs.map (.int .i64))) R2) :
  t_w n 107 [.int .i64 me,.agg (yW s),sv] h λr h'=>∃a,r=.ptr a 0∧HS g h' (AttC a (gB me s bs)::L):=by
 refine t_e3 (S:=S107) rfl omQ λk hk=>?_;unfold S107;try simp only[iZ]
 refine qO H rfl λb0 h1 H1=>?_;refine qD H1 (b:=b0) (off:=0) .here rfl omQ (l:=yW s) rfl ?_;refine qG (VK omQ hs H1) ?_;rintro _ h3 ⟨a,vb,db,rfl,H3⟩;refine qG (Vp omQ H3 (.there (.there (.there (.there S)))) (Ok (λ_=>rfl) _) hb) λbv h4 H4=>?_;have o4:=H4.one .here;refine qW (qQ ?_);refine qw H4 (b:=a) e_1 o4 (by simp[xj]) λh5 H5=>qj ⟨a,rfl,?_⟩;refine AttC.I (q:=⟨.nilp,bv,.nili,.nilp,.nilp,.nilp,0,vb,db⟩) ?_;have H6:=JobC.SI (vb:=vb) (k:=0) (rv:=.nilp) (gv:=0) ⟨rfl,rfl⟩ (H5.sel e_1);have H7:=InnC.noI (st:=0) (f:=kT 0 0 0 0 0) (e:=VV 0 0 []) (c:=none) (iv:=.nili) (fv:=.nilp) (ev:=.nilp) od rfl rfl H6;exact H7.sub (.cons e_2 (.cons e_1 (.cons e_2 (.cons e_1 (.cons .here (.drop .refl))))))
section
variable {a:Nat} {x:jQ} {q:ZP}
theorem qV0 (hn:2≤n) (O:zl x) (H:HS g h (AttC a x::R)):t_w n 102 [.ptr a 0] h λr h'=>HS g h' (qy 181 2 x.v.K.length r (x.v.K.flatMap jA)::AttC a x::R):=by
 refine t_e1 (S:=S102) rfl omQ λk hk=>?_;unfold S102;try simp only[iZ]
 obtain⟨q,H1⟩:=AttC.E H;refine qW (qQ (qK H1 (b:=a) .here rfl ?_));refine qG (qGN omQ (H1.sel (P:=ViewC q.vb x.v) e_2) O.good.ok) λv h2 H2=>qj ?_;exact HS.unsel e_1 (AttC.I (q:=q) (H2.sub (.cons e_2 (.cons e_2 (.cons e_1 (.cons e_1 (.cons e_1 (.cons .here .refl))))))))
theorem QO (hn:5≤n) (O:zl x) (H:HS g h (AttC a x::R)):t_w n 122 [.ptr a 0] h λr h'=>r=.bool (xy x)∧HS g h' (AttC a x::R):=by
 refine t_e1 (S:=S122) rfl omQ λk hk=>?_;unfold S122;try simp only[iZ]
 obtain⟨q,H1⟩:=AttC.E H;refine qG (qXl omQ H1 .here) ?_;rintro _ _ ⟨rfl,rfl⟩;unfold xy;by_cases c:jc x=2
 ·refine qx c ?_;rw[iG c];refine qV ?_;(try dsimp only);refine qo ?_;(try dsimp only);refine qF ?_
  exact qj ⟨rfl,H⟩
 ·refine qX c ?_;rw[iV c];refine qV ?_;(try dsimp only);refine qd ?_;(try dsimp only)
  refine qG (J4 omQ O.c H) ?_;rintro _ h2 ⟨rfl,H2⟩;refine qI ?_;exact qj ⟨rfl,H2⟩
theorem qKn (hn:11≤n) (O:zl x) (H:HS g h (AttC a x::R)):t_w n 103 [.ptr a 0] h λr h'=>HS g h' (qy 181 2 (Y8 x).length r ((Y8 x).flatMap jA)::AttC a x::R):=by
 refine t_e1 (S:=S103) rfl omQ λk hk=>?_;unfold S103;try simp only[iZ]
 refine qG (QO omQ O H) ?_;rintro _ h1 ⟨rfl,H1⟩;unfold Y8;cases hc:xy x with
 |false=>exact jV (qZ (qj H1.nils))
 |true=>refine jX (qJ ?_);obtain⟨q,H2⟩:=AttC.E H1;refine qW (qQ (qK H2 (b:=a) .here rfl ?_));refine qG (Qh omQ (H2.sel (P:=ViewC q.vb x.v) e_2) O.good.ok) λv h3 H3=>qj ?_;exact HS.unsel e_1 (AttC.I (q:=q) (H3.sub (.cons e_2 (.cons e_2 (.cons e_1 (.cons e_1 (.cons e_1 (.cons .here .refl))))))))
theorem MU (hn:6≤n) (O:zl x) (H:HS g h (AttC a x::R)):t_w n 80 [.ptr a 0] h λr h'=>∃e,HS g h' (qy e 1 (zD x).length r ((zD x).map (.int .i64))::AttC a x::R):=by
 refine t_e1 (S:=S80) rfl omQ λk hk=>?_;unfold S80;try simp only[iZ]
 refine qG (QO omQ O H) ?_;rintro _ h1 ⟨rfl,H1⟩;unfold zD;cases hc:xy x with
 |false=>exact jV (qZ (qj ⟨3,H1.nils⟩))
 |true=>
  refine jX (qJ ?_);rw[iJ rfl];obtain⟨q,H2⟩:=AttC.E H1;have hj:=O.job;cases hx:x.job with
  |sweep bs k=>rw[hx]at hj;obtain⟨e,H3⟩:=JobC.S (by rw[← hx];exact H2.sel e_1);have hbl:=hj.2;refine qW (qQ (qK H2 (b:=a) .here (x:=.nilp) (by rw[← e.1];rfl) ?_));refine qQp (qZ ?_);refine qW (qQ (qK H2 (b:=a) .here rfl ?_));refine qG (Vp omQ H3 .here (Ok (λ_=>rfl) _) omQ) λv h4 H4=>qj ⟨3,?_⟩;have H5:=JobC.SI (vb:=q.vb) (k:=k) e (H4.sel e_1);rw[← hx]at H5;exact HS.unsel e_1 (AttC.I (q:=q) (H5.sub (.cons e_2 (.cons .here (.cons e_1 (.cons e_1 (.cons e_1 (.cons .here .refl))))))))
  |prog p=>obtain⟨ib,nx,e,H3⟩:=JobC.P (by rw[← hx];exact H2.sel e_1);refine qW (qQ (qK H2 (b:=a) .here (x:=.ptr ib 0) (by rw[← e.1];rfl) ?_));refine Kd (qJ ?_);refine qW (qQ (qK H2 (b:=a) .here rfl ?_));refine qG (Mj omQ (H2.sel (P:=ViewC q.vb x.v) e_2) O.good.ok) λv h4 H4=>qj ⟨3,?_⟩;exact HS.unsel e_1 (AttC.I (q:=q) (H4.sub (.cons e_2 (.cons e_2 (.cons e_1 (.cons e_1 (.cons e_1 (.cons .here .refl))))))))
theorem MZ (hn:8≤n) (O:zl x) (H:HS g h (AttC a x::R)):t_w n 77 [.ptr a 0] h λr h'=>r=.str (zE x)∧HS g h' (AttC a x::R):=by
 refine t_e1 (S:=S77) rfl omQ λk hk=>?_;unfold S77;try simp only[iZ]
 refine qG (QO omQ O H) ?_;rintro _ h1 ⟨rfl,H1⟩;unfold zE;cases hc:xy x with
 |false=>
  refine jV (qV ?_);(try dsimp only);refine qo ?_;(try dsimp only);refine qF (qZ ?_)
  exact qj ⟨rfl,H1⟩
 |true=>
  refine jX ?_;rw[iJ rfl];obtain⟨q,H2⟩:=AttC.E H1;have hj:=O.job;cases hx:x.job with
  |sweep bs k=>
   obtain⟨e,H3⟩:=JobC.S (by rw[← hx];exact H2.sel e_1);refine qV ?_;(try dsimp only);refine qd ?_;(try dsimp only);refine qW (qQ (qK ‹_› e_1 rfl ?_))
   rw[e.1];refine qQp (qI (qZ ?_));exact qj ⟨rfl,H1⟩
  |prog p=>
   rw[hx]at hj;obtain⟨ib,nx,e,H3⟩:=JobC.P (by rw[← hx];exact H2.sel e_1);refine qV ?_;(try dsimp only);refine qd ?_;(try dsimp only);refine qW (qQ (qK ‹_› e_1 rfl ?_))
   rw[e.1];refine Kd (qI (qJ (qW (qQ (qK ‹_› e_1 rfl ?_)))));rw[e.1];have ho:=hj.2.2.1.out;refine qG (Mm omQ H3 ho) ?_;rintro _ h4 ⟨o,rfl,H4⟩;refine qG (qXr omQ H4 omQ hj.2.2.1.its) ?_;rintro _ h5 ⟨rfl,H5⟩;refine qj ⟨rfl,AttC.I (q:=q) ?_⟩;have H6:=JobC.PI (p:=p) e H5.drop;rw[← hx]at H6;exact H6.sub (.cons e_1 (.cons .here (.cons .here (.cons .here (.cons .here .refl)))))
end
end
end
section
variable {g h:AH} {L R:List SP}
def LimC (b:Nat) (r:List Kv):SP:=.ex λsv=>.all [qg b [sv],qy 189 2 r.length sv (r.flatMap jA)]
section
variable {n b:Nat} {r:List Kv}
theorem LimC.E (H:HS g h (LimC b r::R)):∃sv,HS g h (qg b [sv]::qy 189 2 r.length sv (r.flatMap jA)::R):=by obtain⟨sv,H⟩:=H.exE;exact⟨sv,H.allE⟩
theorem LimC.I {sv:AV} (H:HS g h (qg b [sv]::qy 189 2 r.length sv (r.flatMap jA)::R)):HS g h (LimC b r::R):=HS.exI sv H.allI
theorem qVi (hn:1≤n) (H:HS g h R):t_w n 31 [] h λv h'=>∃b,v=.ptr b 0∧HS g h' (LimC b []::R):=by
 refine t_e0 (S:=S31) rfl omQ λk hk=>?_;unfold S31;try simp only[iZ]
 refine qH (l:=[.nils]) rfl ?_;refine qO H rfl λb h1 H1=>?_;refine qj ⟨b,rfl,LimC.I (sv:=.nils) ?_⟩;exact H1.nils.sub (.cons e_1 (.cons .here .refl))
theorem qGe (hn:1≤n) (H:HS g h (LimC b r::R)):t_w n 123 [.ptr b 0] h λv h'=>v=.int .i64 (r.length:Int)∧h'=h:=by
 refine t_e1 (S:=S123) rfl omQ λk hk=>?_;unfold S123;try simp only[iZ]
 obtain⟨sv,H1⟩:=LimC.E H;refine qW (qQ (qK H1 (b:=b) .here rfl ?_));refine qi H1 e_1 ?_;exact qj ⟨rfl,rfl⟩
theorem V8 {z:Int} {bs:List Int} {bv:AV} (hn:1≤n) (hr:r.length+bs.length≤1000000) (H:HS g h (LimC b r::R)) (S:Rd g R 1 bs.length bv (bs.map (.int .i64))) :
  t_w n 79 [.ptr b 0,.int .u64 z,bv] h λ_ h'=>HS g h' (LimC b (r++bs.map λq=>(q,z))::R):=by
 refine t_e3 (S:=S79) rfl omQ λk hk=>?_;unfold S79;try simp only[iZ]
 refine xW (S.more.sl H) ?_;refine jN (λc s h'=>∃i:Nat,s=(.int .i64 (i:Int),.int .i64 (bs.length:Int),bv,.int .u64 z,.ptr b 0,())∧i≤bs.length∧c=bs.length-i∧HS g h' (LimC b (r++(bs.take i).map λq=>(q,z))::R))
  ?_ (m:=bs.length) (by show _<1000000000;omega) ⟨0,rfl,Nat.zero_le _,rfl,by rw[List.take_zero,List.map_nil,List.append_nil];exact H⟩
 clear H;rintro c ih s h1 hih ⟨i,rfl,hi,rfl,H⟩;dsimp only;by_cases hlt:i<bs.length
 ·refine jd omQ (qZ ?_);refine zJ (S.more.sl H) (qXf hlt) ?_;obtain⟨sv,H1⟩:=LimC.E H;refine qW (qQ (qK H1 (b:=b) .here rfl ?_));refine qH (l:=jA (bs[i],z)) rfl ?_;refine qf (n:=1) (l:=jA (bs[i],z)) (sz:=2) H1 rfl rfl rfl rfl λv2 h2 H2=>?_;refine jf (H2.sel e_2) (H2.sl .here) omQ (by rw[List.length_append,List.length_map,List.length_take];omega) rfl λv3 h3 H3=>?_;have o3:=H3.one .here;refine qW (qQ ?_);refine qw H3 (b:=b) e_2 o3 osQ λh4 H4=>?_;refine qc omQ ?_;refine hih (bs.length-(i+1)) _ _ omQ ⟨i+1,rfl,by omega,rfl,LimC.I (sv:=v3) ?_⟩;have er:r++(bs.take (i+1)).map (λq=>(q,z))=(r++(bs.take i).map λq=>(q,z))++[(bs[i],z)]:=by rw[List.take_add_one,iW hlt,List.append_assoc,List.map_append];rfl
  rw[er,List.length_append,List.flatMap_append];exact H4.sub (.cons .here (.cons .here (.drop .refl)))
 ·obtain rfl:i=bs.length:=by omega
  refine jH omQ (qJ (qk (qj ?_)));rw[List.take_length]at H;exact H
theorem qKH {sl:List Int} {v:AV} {z:Int} (hn:1≤n) (hl:sl.length≤1000) (S:Sl (λ_=>True) h 1 sl.length v (sl.map (.int .u64))) :
  t_w n 164 [v,.int .u64 z] h λr h'=>r=.bool (q9 sl z)∧h'=h:=by
 refine t_e2 (S:=S164) rfl omQ λk hk=>?_;unfold S164;try simp only[iZ]
 refine xW S ?_;refine jN (λc s h'=>∃i:Nat,s=(.int .i64 (i:Int),.int .i64 (sl.length:Int),v,.int .u64 z,())∧i≤sl.length∧c=sl.length-i∧h'=h∧q9 sl z=q9 (sl.drop i) z)
  ?_ (m:=sl.length) (by show _<1000000000;omega) ⟨0,rfl,Nat.zero_le _,rfl,rfl,rfl⟩
 rintro c ih s _ hih ⟨i,rfl,hi,rfl,rfl,hp⟩;dsimp only;by_cases hlt:i<sl.length
 ·refine jd omQ (qZ ?_);refine zJ S (x:=.int .u64 sl[i]) (by rw[List.getElem?_map,iW hlt];rfl) ?_;have hd:sl.drop i=sl[i]::sl.drop (i+1):=List.drop_eq_getElem_cons hlt;have hcons:q9 (sl[i]::sl.drop (i+1)) z=(decide (sl[i]=0∨z<sl[i])&&q9 (sl.drop (i+1)) z):=rfl;rw[hd,hcons]at hp;refine qV ?_
  try dsimp only
  by_cases c0:sl[i]=0
  ·refine jY c0 (qS ?_);refine qI (qJ ?_);refine qc omQ ?_;refine hih (sl.length-(i+1)) _ _ omQ ⟨i+1,rfl,by omega,rfl,rfl,?_⟩;rw[hp,iG (.inl c0),Bool.true_and]
  ·refine jj c0 (qa ?_);by_cases c1:z<sl[i]
   ·refine XH omQ (qF (qJ ?_));refine qc omQ ?_;refine hih (sl.length-(i+1)) _ _ omQ ⟨i+1,rfl,by omega,rfl,rfl,?_⟩;rw[hp,iG (.inr c1),Bool.true_and]
   ·refine Jk omQ (qF (qZ (qk (qj ⟨?_,rfl⟩))));rw[hp,iV (λh=>h.elim c0 c1),Bool.false_and]
 ·obtain rfl:i=sl.length:=by omega
  refine jH omQ (qJ (qk (qj ⟨?_,rfl⟩)));rw[hp,List.drop_length];rfl
theorem qkF {sl:List Int} {v:AV} (hn:2≤n) (hl:sl.length≤1000) (hr:r.length≤1000000) (H:HS g h (LimC b r::R)) (S:Rd g R 1 sl.length v (sl.map (.int .u64))) :
  t_w n 124 [.ptr b 0,v] h λq h'=>
   HS g h' (qy 189 2 (r.filter λx=>q9 sl x.2).length q ((r.filter λx=>q9 sl x.2).flatMap jA)::LimC b (r.filter λx=>!q9 sl x.2)::R):=by
 refine t_e2 (S:=S124) rfl omQ λk hk=>?_;unfold S124;try simp only[iZ]
 obtain⟨sv,H1⟩:=LimC.E H;clear H;refine qW (qQ (qK H1 (b:=b) .here rfl ?_));refine qi H1 e_1 ?_;have fl:∀(p:Kv→Bool) (i:Nat),((r.take i).filter p).length≤r.length:=λp i=>Nat.le_trans (List.length_filter_le ..) (by rw[List.length_take];omega)
 refine jN (λc s h'=>∃(i:Nat) (qv wv:AV),s=(.int .i64 (i:Int),.int .i64 (r.length:Int),sv,wv,qv,v,.ptr b 0,())∧i≤r.length∧c=r.length-i∧
   HS g h' (qy 189 2 ((r.take i).filter λx=>q9 sl x.2).length qv (((r.take i).filter λx=>q9 sl x.2).flatMap jA)::qy 189 2 ((r.take i).filter λx=>!q9 sl x.2).length wv (((r.take i).filter λx=>!q9 sl x.2).flatMap jA)::
    qg b [sv]::qy 189 2 r.length sv (r.flatMap jA)::R))
  ?_ (m:=r.length) (by show _<1000000000;omega) ⟨0,.nils,.nils,rfl,Nat.zero_le _,rfl,H1.nils.nils⟩
 clear H1;rintro c ih s h1 hih ⟨i,qv,wv,rfl,hi,rfl,H⟩;dsimp only;by_cases hlt:i<r.length
 ·refine jd omQ (qZ ?_)
  refine jT [] (λs h'=>∃(qv wv:AV),s=(.int .i64 (i:Int),.int .i64 (r.length:Int),sv,wv,qv,v,.ptr b 0,())∧
   HS g h' (qy 189 2 ((r.take (i+1)).filter λx=>q9 sl x.2).length qv (((r.take (i+1)).filter λx=>q9 sl x.2).flatMap jA)::qy 189 2 ((r.take (i+1)).filter λx=>!q9 sl x.2).length wv (((r.take (i+1)).filter λx=>!q9 sl x.2).flatMap jA)::
    qg b [sv]::qy 189 2 r.length sv (r.flatMap jA)::R)) (λj hj=>?_) ?_
  rotate_left
  ·rintro _ h2 ⟨qv,wv,rfl,H2⟩;dsimp only;refine qc omQ ?_;exact hih (r.length-(i+1)) _ _ omQ ⟨i+1,qv,wv,rfl,by omega,rfl,H2⟩
  refine zU (l:=jA r[i]) (H.sl e_3) hlt omQ (gF (sz:=2) (enc:=jA) (λ_=>rfl) (iW hlt)) ?_;refine qO H rfl λb2 h2 H2=>?_;refine qe H2 (b:=b2) .here rfl (by show 0+2≤2;omega) rfl λh3 H3=>?_;refine qQ (qK H3 (b:=b2) .here (x:=.int .u64 r[i].2) rfl ?_);refine qG (qKH (sl:=sl) omQ hl (S.more.more.more.more.more.sl H3)) ?_;rintro _ _ ⟨rfl,rfl⟩;have et:r.take (i+1)=r.take i++[r[i]]:=by rw[List.take_add_one,iW hlt];rfl
  have f1:=fl (λx=>q9 sl x.2) i;have f2:=fl (λx=>!q9 sl x.2) i;cases hp:q9 sl r[i].2 with
  |true=>refine qZ (qD H3 (b:=b2) (off:=0) .here rfl omQ (l:=jA r[i]) rfl ?_);refine qf (n:=1) (l:=jA r[i]) (sz:=2) H3 rfl rfl rfl rfl λv2 h4 H4=>?_;refine jf (H4.sel e_2) (H4.sl .here) omQ omQ rfl λv3 h5 H5=>hj _ _ ⟨v3,wv,rfl,?_⟩;rw[et,List.filter_append,List.filter_append,show[r[i]].filter (λx=>q9 sl x.2)=[r[i]] by simp[hp],show[r[i]].filter (λx=>!q9 sl x.2)=[] by simp[hp],List.append_nil,List.length_append,List.flatMap_append];exact H5.sub (.cons .here (.cons e_2 (.cons e_2 (.cons e_2 (.drop (.drop .refl))))))
  |false=>refine qJ (qD H3 (b:=b2) (off:=0) .here rfl omQ (l:=jA r[i]) rfl ?_);refine qf (n:=1) (l:=jA r[i]) (sz:=2) H3 rfl rfl rfl rfl λv2 h4 H4=>?_;refine jf (H4.sel e_3) (H4.sl .here) omQ omQ rfl λv3 h5 H5=>hj _ _ ⟨qv,v3,rfl,?_⟩;rw[et,List.filter_append,List.filter_append,show[r[i]].filter (λx=>q9 sl x.2)=[] by simp[hp],show[r[i]].filter (λx=>!q9 sl x.2)=[r[i]] by simp[hp],List.append_nil,List.length_append,List.flatMap_append];exact H5.sub (.cons e_3 (.cons .here (.cons e_2 (.cons e_2 (.drop (.drop .refl))))))
 ·obtain rfl:i=r.length:=by omega
  rw[List.take_length]at H;refine jH omQ (qJ ?_);have o1:=H.one e_1;refine qW (qQ ?_);refine qw H (b:=b) e_2 o1 osQ λh2 H2=>qk (qj ?_);have H3:=LimC.I (r:=r.filter λx=>!q9 sl x.2) (sv:=wv) (H2.sub (.cons .here (.cons e_1 .refl)));exact H3.sub (.cons e_1 (.cons .here (.drop .refl)))
end
end
section
variable {g h:AH} {L R:List SP}
theorem Ko {R:List SP} {P:SP}:∀{A:List SP} {i:Nat},A[i]? =some P→Sel (A++R) P (A.eraseIdx i++R):=by
 intro A
 induction A with
 |nil=>intro i h;cases h
 |cons x r ih=>
  intro i h;cases i with
  |zero=>cases h;exact .here
  |succ i=>exact .there (ih (by simpa using h))
def JobsC (js:List (List qR)) (v:AV):SP:=.ex λvs:List AV=>.all [.pur (vs.length=js.length),qy 37 1 js.length v vs,.all (List.zipWith zb vs js)]
structure qK8 where
  rv:AV
  cv:AV
  fe:TypeId
  fv:AV
def GT (r:KU) (z:qK8):List AV:=[.int .i64 r.thread,.int .i64 r.job,.int .i64 r.try_,.bool r.sweep,.int .i64 r.kind,.int .i64 r.err,.int .u64 r.begin_,.int .u64 r.stamp,.int .i64 r.born,.int .i64 r.ended,z.rv,z.cv,z.fv,.str r.slate]
def Nl (r:KU) (z:qK8):List SP:=[qy 181 2 r.reads.length z.rv (r.reads.flatMap jA),qy 181 2 r.cells.length z.cv (r.cells.flatMap jA),qy z.fe 1 r.frees.length z.fv (r.frees.map (.int .i64))]
def PastC (r:List KU) (v:AV):SP:=.ex λzs:List (KU×qK8)=>.all [.pur (zs.map (·.1)=r),qy 74 14 zs.length v (zs.flatMap λz=>GT z.1 z.2),.all (zs.flatMap λz=>Nl z.1 z.2)]
def JC (r:KZ):List AV:=[.int .i64 r.kind,.int .i64 r.err,.str r.slate,.int .u64 r.stamp]
def NowC (x:Option jQ) (v:AV):SP:=match x with
 |none=>.pur (v=.nilp)
 |some x=>.ex λa:Nat=>.all [.pur (v=.ptr a 0),AttC a x]
structure Vm where
  jv:AV
  gv:AV
  nv:AV
  pv:AV
  rv:AV
  lb:Nat
  sv:AV
def yo (t:jE) (q:Vm):List AV:=[.int .i64 t.me,.int .i64 t.set.words,.int .i64 t.set.stripes,.int .i64 t.set.wide,.int .i64 t.set.threads,.int .u64 t.set.start,.int .i64 t.set.spins,.int .i64 t.set.writes,.int .i64 t.set.fuel,
 q.jv,.int .i64 t.job,.int .i64 t.state,.bool t.sweep,q.gv,.int .i64 t.tries,.int .i64 t.conf,q.nv,.int .i64 t.born,.bool t.alarm,q.pv,q.rv,.ptr q.lb 0,q.sv,.int .i64 t.by_,.int .u64 t.since,.bool t.yielding,.int .i64 t.pauses]
abbrev YF (b:Nat) (t:jE) (q:Vm) (R:List SP):List SP :=
 qg b (yo t q)::JobsC t.jobs q.jv::qy 189 2 t.giving.length q.gv (t.giving.flatMap jA)::NowC t.now q.nv::PastC t.past q.pv::qy 65 4 t.results.length q.rv (t.results.flatMap JC)::LimC q.lb t.rests::qy 23 1 t.slots.length q.sv (t.slots.map (.int .u64))::R
def ThdC (b:Nat) (t:jE):SP:=.ex λq:Vm=>.all (YF b t q [])
section
variable {n b:Nat} {t:jE} {q:Vm}
theorem ThdC.E (H:HS g h (ThdC b t::R)):∃q,HS g h (YF b t q R):=by obtain⟨q,H⟩:=H.exE;exact⟨q,H.allE⟩
theorem ThdC.I (H:HS g h (YF b t q R)):HS g h (ThdC b t::R):=HS.exI q (HS.allI (A:=YF b t q []) H)
theorem NowC.E {x:jQ} {v:AV} (H:HS g h (NowC (some x) v::R)):∃a,v=.ptr a 0∧HS g h (AttC a x::R):=by obtain⟨a,H⟩:=(show HS g h (.ex (λa:Nat=>SP.all [.pur (v=.ptr a 0),AttC a x])::R)from H).exE;have H:=H.allE.purE;exact⟨a,H.1,H.2⟩
theorem NowC.I {x:jQ} {a:Nat} (H:HS g h (AttC a x::R)):HS g h (NowC (some x) (.ptr a 0)::R) :=
 show HS g h (.ex (λa':Nat=>SP.all [.pur (AV.ptr a 0=.ptr a' 0),AttC a' x])::R)from HS.exI a (HS.allI (A:=[_,_]) (HS.purI rfl H))
theorem JobsC.E {js:List (List qR)} {v:AV} (H:HS g h (JobsC js v::R)):∃vs:List AV,vs.length=js.length∧HS g h (qy 37 1 js.length v vs:: .all (List.zipWith zb vs js)::R):=by obtain⟨vs,H⟩:=H.exE;exact⟨vs,H.allE.purE⟩
theorem JobsC.I {js:List (List qR)} {v:AV} {vs:List AV} (hl:vs.length=js.length) (H:HS g h (qy 37 1 js.length v vs:: .all (List.zipWith zb vs js)::R)):HS g h (JobsC js v::R) :=
 HS.exI vs (HS.allI (A:=[_,_,_]) (HS.purI hl H))
theorem qXm {A R:List SP} {P:SP}:Sel (A++P::R) P (A++R):=by
 induction A with
 |nil=>exact .here
 |cons x r ih=>exact .there ih
theorem GJ (hn:11≤n) (B:ThrB t) (hr:t.giving.length≤1000000) (H:HS g h (ThdC b t::R)):t_w n 59 [.ptr b 0] h λ_ h'=>HS g h' (ThdC b (zp t)::R):=by
 refine t_e1 (S:=S59) rfl omQ λk hk=>?_;unfold S59;try simp only[iZ]
 obtain⟨q,H0⟩:=ThdC.E H;clear H;refine qW (qQ (qw H0 (b:=b) .here ⟨rfl,rfl⟩ (by simp[yo]) λh1 H1=>?_));refine qW (qQ (qw H1 (b:=b) .here ⟨rfl,rfl⟩ (by simp[yo]) λh2 H2=>?_))
 let T:jE:={ t with born:=0,alarm:=false }
 have H2:HS g h2 (YF b T q R):=H2;have hset:=YG B.set;refine jT [] (λs h'=>∃(x:jQ) (a:Nat),s=(.ptr b 0,())∧zp t={ T with state:=1,now:=some x }∧HS g h' (YF b { T with now:=some x } { q with nv:=.ptr a 0 } R)) (λj hj=>?_) ?_
 rotate_left
 ·rintro _ h3 ⟨x,a,rfl,e,H3⟩;dsimp only;refine qW (qQ (qw H3 (b:=b) .here ⟨rfl,rfl⟩ (by simp[yo]) λh4 H4=>qk (qj ?_)));rw[e];exact ThdC.I (q:={ q with nv:=.ptr a 0 }) H4
 have hjl:=B.jl;have hjb:=B.job;obtain⟨vs,hvl,H3⟩:=JobsC.E (js:=t.jobs) (H2.sel (P:=JobsC T.jobs q.jv) e_1);refine qW (qQ (qK H2 (b:=b) .here rfl ?_));refine qW (qQ (qK H2 (b:=b) .here rfl ?_));refine qi H3 (sz:=1) (n:=t.jobs.length) (v:=q.jv) .here ?_;by_cases c:t.job=(t.jobs.length:Int)
 ·rw[show zp t={ t with born:=0,alarm:=false,state:=6,now:=none }from iJ c];refine qx c (qZ ?_);refine qW (qQ ?_);refine qw H2 (b:=b) .here ⟨rfl,rfl⟩ (by simp[yo]) λh4 H4=>?_;refine qW (qQ ?_);refine qw H4 (b:=b) .here ⟨rfl,rfl⟩ (by simp[yo]) λh5 H5=>qj ?_;refine ThdC.I (q:={ q with nv:=.nilp }) ?_;have H6:=(HS.purI (φ:=AV.nilp=.nilp) rfl H5);exact H6.sub (.cons e_1 (.cons e_1 (.cons e_1 (.cons .here (.drop .refl)))))
 ·refine qX c (qJ ?_);by_cases hsw:t.sweep=true
  ·refine qW (qQ (qp (qK H2 (b:=b) .here (x:=.bool true) (by rw[← hsw];rfl) ?_)));refine qZ (qW (qQ (qp (qK H2 (b:=b) .here rfl ?_))));refine qi H2 (n:=t.giving.length) (v:=q.gv) e_2 ?_;refine jN (λc s h'=>∃(i:Nat) (av:AV),s=(.int .i64 (i:Int),.int .i64 (t.giving.length:Int),q.gv,av,.ptr b 0,())∧i≤t.giving.length∧c=t.giving.length-i∧HS g h' (qy 3 1 i av (((t.giving.take i).map (·.1)).map (.int .i64))::YF b T q R))
    ?_ (m:=t.giving.length) (by show _<1000000000;omega) ⟨0,.nils,rfl,Nat.zero_le _,rfl,H2.nils⟩
   clear H0 H1 H2 H3;rintro c ih s h3 hih ⟨i,av,rfl,hi,rfl,H⟩;dsimp only;by_cases hlt:i<t.giving.length
   ·refine jd omQ (qZ ?_);refine zU (l:=jA t.giving[i]) (H.sl (n:=t.giving.length) (v:=q.gv) (xs:=t.giving.flatMap jA) e_3) hlt omQ (gF (sz:=2) (enc:=jA) (λ_=>rfl) (iW hlt)) ?_;refine qO H rfl λb2 h4 H4=>?_;refine qe H4 (b:=b2) .here rfl (by show 0+2≤2;omega) rfl λh5 H5=>?_;refine qQ (qK H5 (b:=b2) .here (x:=.int .i64 t.giving[i].1) rfl ?_);refine qf (n:=1) (l:=[.int .i64 t.giving[i].1]) (sz:=1) H5 rfl rfl rfl rfl λv2 h6 H6=>?_;refine jf (H6.sel (P:=qy 3 1 i av (((t.giving.take i).map (·.1)).map (.int .i64))) e_2) (H6.sl .here) omQ omQ rfl λv3 h7 H7=>?_;refine qc omQ ?_;refine hih (t.giving.length-(i+1)) _ _ omQ ⟨i+1,v3,rfl,by omega,rfl,?_⟩;have et:((t.giving.take (i+1)).map (·.1)).map (AV.int .i64)=((t.giving.take i).map (·.1)).map (AV.int .i64)++[.int .i64 t.giving[i].1]:=by rw[List.take_add_one,iW hlt,List.map_append,List.map_append];rfl
    rw[et];exact H7.sub (.cons .here (.drop (.drop .refl)))
   ·obtain rfl:i=t.giving.length:=by omega
    refine jH omQ (qJ ?_);rw[List.take_length]at H;refine qW (qQ (qK H (b:=b) e_1 rfl ?_));refine qW (qQ (qD H (b:=b) (off:=1) e_1 rfl (by simp[yo]) (l:=yW t.set) rfl ?_));refine qG (qVd (bs:=t.giving.map (·.1)) omQ B.set.start.1 (by rw[List.length_map];omega) H (by rw[List.length_map];exact .here)) ?_;rintro _ h4 ⟨a,rfl,H4⟩;refine qW (qQ ?_);refine qw H4 (b:=b) e_2 (x:=.ptr a 0) ⟨rfl,rfl⟩ (by simp[yo]) λh5 H5=>?_;refine hj _ _ ⟨gB t.me t.set (t.giving.map (·.1)),a,rfl,by unfold zp;rw[iQ c,iJ hsw],?_⟩;have H6:=NowC.I (H5.sel (P:=AttC a (gB t.me t.set (t.giving.map (·.1)))) e_1);exact H6.sub (.cons e_1 (.cons e_2 (.cons e_2 (.cons .here (.drop (.drop .refl))))))
  ·have hsf:t.sweep=false:=by simpa using hsw
   refine qW (qQ (qp (qK H2 (b:=b) .here (x:=.bool false) (by rw[← hsf];rfl) ?_)));refine qJ ?_;have hlt:t.job.toNat<t.jobs.length:=by omega
   have hje:t.jobs[t.job.toNat]? =some t.jobs[t.job.toNat]:=iW hlt;have hchk:=B.jobs _ (List.getElem_mem hlt);have hvlt:t.job.toNat<vs.length:=by omega
   refine qW (qQ (qK H2 (b:=b) .here rfl ?_));refine qW (qQ (qD H2 (b:=b) (off:=1) .here rfl (by simp[yo]) (l:=yW t.set) rfl ?_));refine qW (qQ (qK H2 (b:=b) .here rfl ?_));refine qW (qQ (qK H2 (b:=b) .here (x:=.int .i64 ((t.job.toNat:Nat):Int)) (by show some (AV.int .i64 t.job)=_;congr;omega) ?_));refine zU (l:=[vs[t.job.toNat]]) (H3.sl .here) hlt omQ (by rw[Nat.mul_one,List.drop_eq_getElem_cons hvlt];rfl) ?_;have H4:=(H3.sel (P:=.all (List.zipWith zb vs t.jobs)) e_1).allE;have hz:(List.zipWith zb vs t.jobs)[t.job.toNat]? =some (zb vs[t.job.toNat] t.jobs[t.job.toNat]):=by rw[List.getElem?_zipWith,iW hvlt,hje]
   refine qG (qxl (l:=t.jobs[t.job.toNat]) omQ B.set.start.1 hchk.1 (H4.rd (e:=70) (sz:=5) (n:=(t.jobs[t.job.toNat]).length) (Ko hz)) H4) ?_;rintro _ h5 ⟨a,rfl,H5⟩;have H6:HS g h5 (.all (List.zipWith zb vs t.jobs)::AttC a (vh t.me t.set t.jobs[t.job.toNat])::qy 37 1 t.jobs.length q.jv vs::qg b (yo T q)::_):=HS.allI (HS.unsel qXm H5);have H7:=JobsC.I hvl (H6.sel (P:=qy 37 1 t.jobs.length q.jv vs) e_2);refine qW (qQ ?_);refine qw H7 (b:=b) e_2 (x:=.ptr a 0) ⟨rfl,rfl⟩ (by simp[yo]) λh8 H8=>?_;refine hj _ _ ⟨vh t.me t.set t.jobs[t.job.toNat],a,rfl,by unfold zp;rw[iQ c,iQ hsw,hje];rfl,?_⟩;have H9:=NowC.I (H8.sel (P:=AttC a (vh t.me t.set t.jobs[t.job.toNat])) e_2);exact H9.sub (.cons e_1 (.cons e_1 (.cons e_1 (.cons .here (.drop .refl)))))
theorem kw (hn:12≤n) (B:ThrB { t with job:=t.job+1,sweep:=false,giving:=[],tries:=0,conf:=0 }) (H:HS g h (ThdC b t::R)):t_w n 33 [.ptr b 0] h λ_ h'=>HS g h' (ThdC b (zY t)::R):=by
 refine t_e1 (S:=S33) rfl omQ λk hk=>?_;unfold S33;try simp only[iZ]
 obtain⟨q,H0⟩:=ThdC.E H;have hj:=B.job;have hjl:=B.jl;dsimp only at hj hjl;refine qW (qQ (qK H0 (b:=b) .here rfl ?_));refine qc omQ ?_;refine qW (qQ ?_);refine qw H0 (b:=b) .here ⟨rfl,rfl⟩ (by simp[yo]) λh1 H1=>?_;refine qH (l:=[.bool false,.nils,.int .i64 0,.int .i64 0]) rfl ?_;refine qW (qQ ?_);refine qe H1 (b:=b) .here rfl (by simp[yo]) rfl λh2 H2=>?_;have H3:=ThdC.I (b:=b) (t:={ t with job:=t.job+1,sweep:=false,giving:=[],tries:=0,conf:=0 }) (q:={ q with gv:=.nils }) ((H2.nils (e:=189) (sz:=2)).sub (.cons e_1 (.cons e_1 (.cons .here (.drop .refl)))));exact qG (GJ omQ B (Nat.zero_le _) H3) λ_ h4 H4=>qj H4
theorem MI (hn:1≤n) (H:HS g h L) (s:Sel L (qg b (yo t q)) R):t_w n 15 [.ptr b 0] h λr h'=>r=.int .i64 t.state∧h'=h:=by
 refine t_e1 (S:=S15) rfl omQ λk hk=>?_;unfold S15;try simp only[iZ]
 refine qW (qQ (qK H s rfl ?_));exact qj ⟨rfl,rfl⟩
end
end
section
variable {g h:AH} {L R:List SP}
theorem qxR {i:Int} (h:0≤i):min (2*vI i) 8=vI (i+1):=by
 unfold vI
 repeat' split
 all_goals omega
theorem qx0 {c:Int}:vI (min c 8)=vI c:=by
 unfold vI
 repeat' split
 all_goals omega
section
variable {n b:Nat} {t:jE} {q:Vm}
theorem ThrB.next (B:ThrB t) (hj:t.job<t.jobs.length):ThrB { t with job:=t.job+1,sweep:=false,giving:=[],tries:=0,conf:=0 }:=by have h1:=B.job;have h2:=B.rests;exact⟨B.set,B.me,B.jobs,B.jl,by show 0≤t.job+1∧t.job+1≤(t.jobs.length:Int);omega,by show t.rests.length+0≤9000*t.results.length;omega,B.slots,by show(0:Int)≤0∧(0:Int)≤(t.past.length:Int);omega,by show(0:Int)≤0∧(0:Int)≤0;omega,λ_=>rfl⟩
theorem qQm {draw:Int} (hn:12≤n) (B:ThrB t) (hg:t.giving.length≤1000000) (hd:0≤draw∧draw<256) (H:HS g h (ThdC b t::R)):t_w n 74 [.ptr b 0,.int .u8 draw] h λ_ h'=>HS g h' (ThdC b (xP t draw)::R):=by
 refine t_e2 (S:=S74) rfl omQ λk hk=>?_;unfold S74;try simp only[iZ]
 obtain⟨q,H0⟩:=ThdC.E H;clear H;have hc:=B.conf;refine qW (qQ (qp (qK H0 (b:=b) .here rfl ?_)));refine zX ?_;refine jN (λc s h'=>∃i:Nat,s=(.int .i64 (i:Int),.int .i64 (min t.conf 8),.int .i64 (vI i),.int .u8 draw,.ptr b 0,())∧(i:Int)≤min t.conf 8∧c=(min t.conf 8).toNat-i∧h'=h)
  ?_ (m:=(min t.conf 8).toNat) (by show _<1000000000;omega) ⟨0,rfl,by omega,rfl,rfl⟩
 rintro c ih s _ hih ⟨i,rfl,hi,rfl,rfl⟩;dsimp only;by_cases hlt:(i:Int)<min t.conf 8
 ·have hb:=OD i;refine jd hlt (qZ ?_);refine Kn omQ (zX (qc omQ ?_));refine hih ((min t.conf 8).toNat-(i+1)) _ _ omQ ⟨i+1,?_,by omega,rfl,rfl⟩;rw[show((2:Nat):Int)=2 from rfl,show((8:Nat):Int)=8 from rfl,qxR omQ]
  try rfl
 ·refine jH hlt (qJ ?_);have hie:(i:Int)=min t.conf 8:=by omega
  rw[hie,qx0];have hb:=OD t.conf;refine xF omQ (qc omQ (JZ omQ ?_));have em:draw.tmod (vI t.conf+((1:Nat):Int))=draw%(vI t.conf+1):=by rw[Int.tmod_eq_emod_of_nonneg hd.1];rfl
  rw[em];refine qW (qQ ?_);refine qw H0 (b:=b) .here ⟨rfl,rfl⟩ (by simp[yo]) λh1 H1=>?_;refine qW (qQ ?_);refine qw H1 (b:=b) .here ⟨rfl,rfl⟩ (by simp[yo]) λh2 H2=>?_;refine qW (qQ (qK H2 (b:=b) .here rfl ?_));unfold xP;have H3:HS g h2 (ThdC b { t with pauses:=draw%(vI t.conf+1),state:=3 }::R):=ThdC.I (q:=q) H2;by_cases c0:draw%(vI t.conf+1)=0
  ·rw[iJ c0];refine qx c0 (qZ ?_);rw[c0]at H3;exact qG (GJ (t:={ t with pauses:=0,state:=3 }) omQ ⟨B.set,B.me,B.jobs,B.jl,B.job,B.rests,B.slots,B.tries,B.conf,B.giv⟩ hg H3) λ_ h4 H4=>qk (qj H4)
  ·rw[iQ c0];exact qX c0 (qJ (qk (qj H3)))
theorem qZ7 (hn:13≤n) (C:ke t) (hs:t.slots.length≤5) (hsw:t.sweep=false) (hr:t.rests.length≤1000000) (H:HS g h (ThdC b t::R)):t_w n 82 [.ptr b 0] h λ_ h'=>HS g h' (ThdC b (yr t)::R):=by
 refine t_e1 (S:=S82) rfl omQ λk hk=>?_;unfold S82;try simp only[iZ]
 obtain⟨q,H0⟩:=ThdC.E H;unfold yr;refine jT [] (λs h'=>s=(.ptr b 0,())∧HS g h' (ThdC b (if(t.slots.length:Int)=t.me then{ t with slots:=t.slots++[0] }else t)::R)) (λj hj=>?_) ?_
 ·refine qW (qQ (qK H0 (b:=b) .here rfl ?_));refine qi H0 (n:=t.slots.length) (v:=q.sv) e_7 ?_;refine qW (qQ (qK H0 (b:=b) .here rfl ?_));by_cases c:(t.slots.length:Int)=t.me
  ·refine qx c (qZ ?_);refine qW (qQ (qK H0 (b:=b) .here rfl ?_));refine qf (n:=1) (l:=[.int .u64 0]) (sz:=1) H0 rfl rfl rfl rfl λv2 h2 H2=>?_;refine jf (H2.sel (P:=qy 23 1 t.slots.length q.sv (t.slots.map (.int .u64))) e_8) (H2.sl .here) omQ omQ rfl λv3 h3 H3=>?_;have o3:=H3.one .here;refine qW (qQ ?_);refine qw H3 (b:=b) e_2 o3 (by simp[yo]) λh4 H4=>?_;refine hj _ _ ⟨rfl,?_⟩;rw[iJ c];refine ThdC.I (q:={ q with sv:=v3 }) ?_;have e:(t.slots++[(0:Int)]).length=t.slots.length+1:=by simp
   unfold YF;rw[e,List.map_append];exact H4.sub (.cons .here (.cons e_2 (.cons e_2 (.cons e_2 (.cons e_2 (.cons e_2 (.cons e_2 (.cons .here (.drop .refl)))))))))
  ·exact qX c (qJ (hj _ _ ⟨rfl,by rw[iQ c];exact H⟩))
 ·clear H0 H;rintro _ h1 ⟨rfl,H⟩;have key:∀u:jE,u=(if(t.slots.length:Int)=t.me then{ t with slots:=t.slots++[0] }else t)→ke u∧u.sweep=false∧u.rests=t.rests∧u.results=t.results∧u.slots.length≤6:=by
   rintro u rfl
   split
   ·have e:(t.slots++[(0:Int)]).length=t.slots.length+1:=by simp
    exact⟨C.go rfl rfl rfl rfl rfl rfl rfl (by show(t.slots++[(0:Int)]).length≤6;omega) C.tries C.conf rfl rfl,hsw,rfl,rfl,by show(t.slots++[(0:Int)]).length≤6;omega⟩
   ·exact⟨C,hsw,rfl,rfl,by omega⟩
  have key:=key _ rfl;generalize(if(t.slots.length:Int)=t.me then{ t with slots:=t.slots++[0] }else t)=u at*;obtain⟨CU,hus,hur,hue,hul⟩:=key;dsimp only;obtain⟨q,H0⟩:=ThdC.E H;refine qW (qQ (qK H0 (b:=b) .here rfl ?_));refine qi H0 (n:=u.slots.length) (v:=q.sv) e_7 ?_;refine qW (qQ (qp (qp (qK H0 (b:=b) .here rfl ?_))));unfold vK;by_cases c:(u.slots.length:Int)<u.set.threads
  ·rw[iJ c];exact jd c (qZ (qk (qj H)))
  ·rw[iQ c];refine jH c (qJ ?_);refine qW (qQ (qK H0 (b:=b) .here rfl ?_));refine qW (qQ (qK H0 (b:=b) .here rfl ?_));have H1:=H0.sel (P:=LimC q.lb u.rests) e_6;refine qG (qkF (sl:=u.slots) omQ omQ (by rw[hur];exact hr) H1 (H1.drop.rd (e:=23) (sz:=1) (n:=u.slots.length) e_6)) ?_;intro v h2 H2;have hre:=CU.rests;have hg:=CU.giv hus;have hf:=qQE (λr:Kv=>q9 u.slots r.2) u.rests;refine qi H2 .here ?_;by_cases c0:(u.rests.filter λr=>q9 u.slots r.2)=[]
   ·rw[iJ c0];refine qx (by rw[c0];rfl) (qZ ?_);have H3:=ThdC.I (b:=b) (t:={ u with rests:=u.rests.filter λr=>!q9 u.slots r.2 }) (q:=q) (H2.sub (.cons e_2 (.cons e_2 (.cons e_2 (.cons e_2 (.cons e_2 (.cons e_2 (.cons e_1 (.cons e_1 (.drop .refl))))))))));have B2:ThrB { u with rests:=u.rests.filter λr=>!q9 u.slots r.2 }:=⟨CU.set,CU.me,CU.jobs,CU.jl,CU.job,by show(u.rests.filter λr=>!q9 u.slots r.2).length+u.giving.length≤9000*u.results.length;omega,hul,CU.tries,CU.conf,CU.giv⟩;exact qG (kw omQ (B2.next CU.lt) H3) λ_ h4 H4=>qk (qj H4)
   ·rw[iQ c0];refine qX (λh0=>c0 (iA omQ)) (qJ ?_);have o2:=H2.one .here;refine qH (l:=[.bool true,v,.int .i64 0,.int .i64 0]) (by simp only[yF,o2.1];rfl) ?_;refine qW (qQ ?_);refine qe H2 (b:=b) e_2 rfl (by simp[yo]) (by simp only[qm,AV.cells,List.all_cons,o2.2];rfl) λh3 H3=>?_;have H4:=ThdC.I (b:=b) (t:={ u with rests:=u.rests.filter (λr=>!q9 u.slots r.2),sweep:=true,giving:=u.rests.filter (λr=>q9 u.slots r.2),tries:=0,conf:=0 }) (q:={ q with gv:=v }) (H3.sub (.cons .here (.cons e_2 (.cons .here (.cons e_2 (.cons e_2 (.cons e_2 (.cons .here (.cons e_1 (.drop .refl))))))))));refine qG (GJ (t:={ u with rests:=u.rests.filter (λr=>!q9 u.slots r.2),sweep:=true,giving:=u.rests.filter (λr=>q9 u.slots r.2),tries:=0,conf:=0 }) omQ ⟨CU.set,CU.me,CU.jobs,CU.jl,CU.job,?_,hul,by show(0:Int)≤0∧(0:Int)≤(List.length _:Int);omega,by show(0:Int)≤0∧(0:Int)≤0;decide,λh=>by cases h⟩ (by show(u.rests.filter λr=>q9 u.slots r.2).length≤1000000;rw[hur]at hf;rw[hur];omega) H4) λ_ h4 H4=>qk (qj H4);show(u.rests.filter λr=>!q9 u.slots r.2).length+(u.rests.filter λr=>q9 u.slots r.2).length≤9000*u.results.length;omega
end
end
section
variable {g h:AH} {L R:List SP}
section
variable {n a b:Nat} {t:jE} {q:Vm} {x:jQ}
abbrev thrV (a b:Nat) (t:jE) (x:jQ) (q:Vm) (R:List SP):List SP :=
 AttC a x::qg b (yo t { q with nv:=.ptr a 0 })::JobsC t.jobs q.jv::qy 189 2 t.giving.length q.gv (t.giving.flatMap jA)::PastC t.past q.pv::qy 65 4 t.results.length q.rv (t.results.flatMap JC)::LimC q.lb t.rests::qy 23 1 t.slots.length q.sv (t.slots.map (.int .u64))::R
theorem thrV.I (hx:t.now=some x) (H:HS g h (thrV a b t x q R)):HS g h (ThdC b t::R):=by refine ThdC.I (q:={ q with nv:=.ptr a 0 }) ?_;have H1:=NowC.I H;unfold YF;rw[hx];exact H1.sub (.cons e_1 (.cons e_1 (.cons e_1 (.cons .here .refl))))
theorem ThdC.V (hx:t.now=some x) (H:HS g h (ThdC b t::R)):∃a q,HS g h (thrV a b t x q R):=by
 obtain⟨q,H0⟩:=ThdC.E H;unfold YF at H0;rw[hx]at H0;obtain⟨a,e,H1⟩:=NowC.E (H0.sel (P:=NowC (some x) q.nv) e_3);have eq:{ q with nv:=.ptr a 0 }=q:=by rw[← e]
 refine⟨a,q,?_⟩;unfold thrV;rw[eq];exact H1
theorem Gm {a:Nat} (hn:1≤n) (H:HS g h L) (s:Sel L (AttC a x) R):t_w n 39 [.ptr a 0] h λr h'=>r=.int .i64 (jc x)∧h'=h:=by obtain⟨q,H1⟩:=AttC.E (H.sel s);exact qXl hn H1 .here
theorem qW5 {a:Nat} (hn:1≤n) (H:HS g h L) (s:Sel L (AttC a x) R):t_w n 73 [.ptr a 0] h λr h'=>r=.int .i64 (QQ x)∧h'=h:=by obtain⟨q,H1⟩:=AttC.E (H.sel s);exact qg5 hn H1 .here
theorem qW1 {a:Nat} (hn:1≤n) (H:HS g h L) (s:Sel L (AttC a x) R):t_w n 76 [.ptr a 0] h λr h'=>r=.int .i64 (xc x)∧h'=h:=by obtain⟨q,H1⟩:=AttC.E (H.sel s);exact qkd hn H1 .here
theorem Uu {a:Nat} (hn:1≤n) (H:HS g h L) (s:Sel L (AttC a x) R):t_w n 78 [.ptr a 0] h λr h'=>r=.int .u64 x.stamp∧h'=h:=by obtain⟨q,H1⟩:=AttC.E (H.sel s);exact qKR hn H1 .here
theorem Uk {a:Nat} (hn:1≤n) (H:HS g h L) (s:Sel L (AttC a x) R):t_w n 37 [.ptr a 0] h λr h'=>r=.tup [.int .u64 x.begin_,.bool x.begun]∧h'=h:=by obtain⟨q,H1⟩:=AttC.E (H.sel s);exact qVn hn H1 .here
theorem qkD {pick:Int} (hn:12≤n) (O:zl x) (H:HS g h (thrV a b t x q R)):t_w n 55 [.ptr b 0,.int .i64 pick] h λr h'=>
  ∃z:qK8,r=.agg (GT (jP t x pick) z)∧HS g h' (Nl (jP t x pick) z++thrV a b t x q R):=by
 refine t_e2 (S:=S55) rfl omQ λk hk=>?_;unfold S55;try simp only[iZ]
 refine qO H rfl λv0 h1 H1=>?_;refine qW (qQ (qK H1 (b:=b) e_2 rfl ?_));refine qG (Uk omQ H1 e_1) ?_;rintro _ _ ⟨rfl,rfl⟩;refine qA rfl (qA rfl ?_);refine qG (Gm omQ H1 e_1) ?_;rintro _ _ ⟨rfl,rfl⟩;refine jT [] (λs h'=>s=(.int .i64 (if zP x=true then 2 else jc x),.int .u64 x.begin_,.ptr a 0,.ptr v0 0,.int .i64 pick,.ptr b 0,())∧HS g h' (AttC a x::qg v0 [.int .i64 0,.int .i64 0,.int .i64 0,.bool false,.int .i64 0,.int .i64 0,.int .u64 0,.int .u64 0,.int .i64 0,.int .i64 0,.nils,.nils,.nils,.str []]::qg b (yo t { q with nv:=.ptr a 0 })::(thrV a b t x q R).drop 2)) (λj hj=>?_) ?_
 ·refine qG (J4 omQ O.c (H1.sel (P:=AttC a x) e_1)) ?_;rintro _ h2 ⟨rfl,H2⟩;cases hw:zP x with
  |true=>exact qZ (hj _ _ ⟨by rw[hw];rfl,H2⟩)
  |false=>exact qJ (hj _ _ ⟨by rw[hw];rfl,H2⟩)
 ·clear H H1;rintro _ h12 ⟨rfl,H12⟩;dsimp only;refine qV ?_
  try dsimp only
  refine qW (qQ (qK H12 (b:=b) e_2 rfl ?_));refine qW (qQ (qK H12 (b:=b) e_2 rfl ?_));refine qW (qQ (qp (qK H12 (b:=b) e_2 rfl ?_)));refine qW (qQ (qp (qK H12 (b:=b) e_2 rfl ?_)));refine qG (qW1 omQ H12 .here) ?_;rintro _ _ ⟨rfl,rfl⟩;refine qG (Uu omQ H12 .here) ?_;rintro _ _ ⟨rfl,rfl⟩;refine qW (qQ (qK H12 (b:=b) e_2 rfl ?_));refine qG (qV0 omQ O H12) λrv h42 H42=>?_;refine qG (qKn omQ O (H42.sel (P:=AttC a x) e_1)) λcv h44 H44=>?_;refine qG (MU omQ O (H44.sel (P:=AttC a x) e_1)) ?_;rintro fv h46 ⟨fe,H46⟩;refine qG (MZ omQ O (H46.sel (P:=AttC a x) e_1)) ?_;rintro _ h48 ⟨rfl,H48⟩;have o1:=H48.one (v:=rv) e_3;have o2:=H48.one (v:=cv) e_2;have o3:=H48.one (v:=fv) e_1;refine qH (l:=GT (jP t x pick) ⟨rv,cv,fe,fv⟩) (by simp only[yF,o1.1,o2.1,o3.1];rfl) ?_;refine qe H48 (b:=v0) e_4 rfl (by show 0+14≤14;omega) (by simp only[qm,GT,AV.cells,List.all_cons,o1.2,o2.2,o3.2];rfl) λh50 H50=>?_;refine qb H46 e_5 rfl H48 e_5 rfl (HS.lt H12 e_2) ?_;refine qb H44 e_4 rfl H46 e_5 rfl (HS.lt H12 e_2) ?_;refine qb H42 e_3 rfl H44 e_4 rfl (HS.lt H12 e_2) ?_;refine qb H12 e_2 rfl H42 e_3 rfl (HS.lt H12 e_2) ?_;refine qb H12 e_2 rfl H12 e_2 rfl (HS.lt H12 e_2) ?_;refine qb H12 e_2 rfl H12 e_2 rfl (HS.lt H12 e_2) ?_;refine qb H46 e_5 rfl H48 e_5 rfl (HS.lt H12 e_2) ?_;refine qb H44 e_4 rfl H46 e_5 rfl (HS.lt H12 e_2) ?_;refine qb H42 e_3 rfl H44 e_4 rfl (HS.lt H12 e_2) ?_;refine qb H12 e_2 rfl H42 e_3 rfl (HS.lt H12 e_2) ?_;refine qb H12 e_2 rfl H12 e_2 rfl (HS.lt H12 e_2) ?_;refine qb H12 e_2 rfl H12 e_2 rfl (HS.lt H12 e_2) ?_;refine qb H46 e_5 rfl H48 e_5 rfl (HS.lt H12 e_2) ?_;refine qb H44 e_4 rfl H46 e_5 rfl (HS.lt H12 e_2) ?_;refine qb H42 e_3 rfl H44 e_4 rfl (HS.lt H12 e_2) ?_;refine qb H12 e_2 rfl H42 e_3 rfl (HS.lt H12 e_2) ?_;refine qb H12 e_2 rfl H12 e_2 rfl (HS.lt H12 e_2) ?_;refine qb H12 e_2 rfl H12 e_2 rfl (HS.lt H12 e_2) ?_;refine qb H46 e_5 rfl H48 e_5 rfl (HS.lt H12 e_2) ?_;refine qb H44 e_4 rfl H46 e_5 rfl (HS.lt H12 e_2) ?_;refine qb H42 e_3 rfl H44 e_4 rfl (HS.lt H12 e_2) ?_;refine qb H12 e_2 rfl H42 e_3 rfl (HS.lt H12 e_2) ?_;refine qb H12 e_2 rfl H12 e_2 rfl (HS.lt H12 e_2) ?_;refine qb H12 e_2 rfl H12 e_2 rfl (HS.lt H12 e_2) ?_;refine qb H46 e_5 rfl H48 e_5 rfl (HS.lt H12 e_2) ?_;refine qb H44 e_4 rfl H46 e_5 rfl (HS.lt H12 e_2) ?_;refine qb H42 e_3 rfl H44 e_4 rfl (HS.lt H12 e_2) ?_;refine qb H12 e_2 rfl H42 e_3 rfl (HS.lt H12 e_2) ?_;refine qb H12 e_2 rfl H12 e_2 rfl (HS.lt H12 e_2) ?_;refine qb H12 e_2 rfl H12 e_2 rfl (HS.lt H12 e_2) ?_;refine qk (qD H50 (b:=v0) (off:=0) .here rfl omQ (l:=GT (jP t x pick) ⟨rv,cv,fe,fv⟩) rfl ?_);refine qj ⟨⟨rv,cv,fe,fv⟩,rfl,?_⟩;exact H50.sub (.cons e_4 (.cons e_3 (.cons e_2 (.cons e_1 (.drop .refl)))))
end
end
section
variable {g h:AH} {L R:List SP}
section
variable {n a b:Nat} {t:jE} {q:Vm} {x:jQ}
theorem qkt (hn:14≤n) (C:ke t) (hsw:t.sweep=false) (hr:t.rests.length≤1000000) (H:HS g h (ThdC b t::R)):t_w n 81 [.ptr b 0] h λ_ h'=>HS g h' (ThdC b (vy t)::R):=by
 refine t_e1 (S:=S81) rfl omQ λk hk=>?_;unfold S81;try simp only[iZ]
 obtain⟨q,H0⟩:=ThdC.E H;unfold vy;refine qW (qQ (qK H0 (b:=b) .here rfl ?_));refine qG (qGe omQ (H0.sel (P:=LimC q.lb t.rests) e_6)) ?_;rintro _ _ ⟨rfl,rfl⟩;by_cases c:t.rests=[]
 ·rw[iJ c];refine qx (by rw[c];rfl) (qZ ?_);exact qG (kw omQ (C.toThrB.next C.lt) H) λ_ h1 H1=>qj H1
 ·rw[iQ c];refine qX (λh0=>c (iA omQ)) (qJ ?_);refine qW (qQ ?_);refine qw H0 (b:=b) .here ⟨rfl,rfl⟩ (by simp[yo]) λh1 H1=>?_;refine qW (qQ ?_);refine qw H1 (b:=b) .here (x:=.nils) ⟨rfl,rfl⟩ (by simp[yo]) λh2 H2=>?_;have H3:=ThdC.I (b:=b) (t:={ t with state:=5,slots:=[] }) (q:={ q with sv:=.nils }) ((H2.nils (e:=23) (sz:=1)).sub (.cons e_1 (.cons e_1 (.cons e_1 (.cons e_1 (.cons e_1 (.cons e_1 (.cons e_1 (.cons .here (.drop .refl))))))))));refine qG (qZ7 (t:={ t with state:=5,slots:=[] }) omQ (C.go rfl rfl rfl rfl rfl rfl rfl (Nat.zero_le _) C.tries C.conf rfl rfl) (Nat.zero_le _) hsw hr H3) λ_ h4 H4=>qj H4
theorem V5 {w:Int} (hn:14≤n) (C:ke t) (hsw:t.sweep=false) (hs:t.slots.length≤4) (hr:t.rests.length≤1000000) (H:HS g h (ThdC b t::R)):t_w n 42 [.ptr b 0,.int .u64 w] h λ_ h'=>HS g h' (ThdC b (yr { t with slots:=t.slots++[w] })::R):=by
 refine t_e2 (S:=S42) rfl omQ λk hk=>?_;unfold S42;try simp only[iZ]
 obtain⟨q,H0⟩:=ThdC.E H;refine qW (qQ (qK H0 (b:=b) .here rfl ?_));refine qf (n:=1) (l:=[.int .u64 w]) (sz:=1) H0 rfl rfl rfl rfl λv2 h2 H2=>?_;refine jf (H2.sel (P:=qy 23 1 t.slots.length q.sv (t.slots.map (.int .u64))) e_8) (H2.sl .here) omQ omQ rfl λv3 h3 H3=>?_;have o3:=H3.one .here;refine qW (qQ ?_);refine qw H3 (b:=b) e_2 o3 (by simp[yo]) λh4 H4=>?_;have e:(t.slots++[w]).length=t.slots.length+1:=by simp
 have H5:HS g h4 (ThdC b { t with slots:=t.slots++[w] }::R):=by refine ThdC.I (q:={ q with sv:=v3 }) ?_;unfold YF;rw[e,List.map_append];exact H4.sub (.cons .here (.cons e_2 (.cons e_2 (.cons e_2 (.cons e_2 (.cons e_2 (.cons e_2 (.cons .here (.drop .refl)))))))))
 exact qG (qZ7 (t:={ t with slots:=t.slots++[w] }) omQ (C.go rfl rfl rfl rfl rfl rfl rfl (by show(t.slots++[w]).length≤6;omega) C.tries C.conf rfl rfl) (by show(t.slots++[w]).length≤5;omega) hsw hr H5) λ_ h4 H4=>qj H4
theorem qjA {fin:Int} (hn:14≤n) (C:ke t) (hr:t.rests.length+t.giving.length≤1000000) (H:HS g h (ThdC b t::R)):t_w n 75 [.ptr b 0,.int .i64 fin] h λ_ h'=>HS g h' (ThdC b (vL t fin)::R):=by
 refine t_e2 (S:=S75) rfl omQ λk hk=>?_;unfold S75;try simp only[iZ]
 obtain⟨q,H0⟩:=ThdC.E H;unfold vL;refine jT [] (λs h'=>s=(.ptr b 0,())∧HS g h' (ThdC b (if fin=4 then{ t with rests:=t.rests++t.giving }else t)::R)) (λj hj=>?_) ?_
 ·by_cases c:fin=4
  ·refine qx c (qZ ?_);refine qW (qQ (qp (qK H0 (b:=b) .here rfl ?_)));refine qi H0 (n:=t.giving.length) (v:=q.gv) e_2 ?_;refine jN (λc s h'=>∃i:Nat,s=(.int .i64 (i:Int),.int .i64 (t.giving.length:Int),q.gv,.ptr b 0,())∧i≤t.giving.length∧c=t.giving.length-i∧HS g h' (YF b { t with rests:=t.rests++t.giving.take i } q R))
    ?_ (m:=t.giving.length) (by show _<1000000000;omega) ⟨0,rfl,Nat.zero_le _,rfl,by rw[List.take_zero,List.append_nil];exact H0⟩
   clear H0 H;rintro c ih s h3 hih ⟨i,rfl,hi,rfl,H⟩;dsimp only;by_cases hlt:i<t.giving.length
   ·refine jd omQ (qZ ?_);refine zU (l:=jA t.giving[i]) (H.sl (n:=t.giving.length) (v:=q.gv) (xs:=t.giving.flatMap jA) e_2) hlt omQ (gF (sz:=2) (enc:=jA) (λ_=>rfl) (iW hlt)) ?_;refine qO H rfl λb2 h4 H4=>?_;refine qe H4 (b:=b2) .here rfl (by show 0+2≤2;omega) rfl λh5 H5=>?_;refine qW (qQ (qK H5 (b:=b) e_1 rfl ?_));refine qQ (qK H5 (b:=b2) .here (x:=.int .u64 t.giving[i].2) rfl ?_);refine qQ (qK H5 (b:=b2) .here (x:=.int .i64 t.giving[i].1) rfl ?_);refine qf (n:=1) (l:=[.int .i64 t.giving[i].1]) (sz:=1) H5 rfl rfl rfl rfl λv2 h6 H6=>?_;have H7:=H6.sel (P:=LimC q.lb (t.rests++t.giving.take i)) e_8;refine qG (V8 (z:=t.giving[i].2) (bs:=[t.giving[i].1]) omQ (by rw[List.length_append,List.length_take];show _+1≤_;omega) H7 (H7.drop.rd (sz:=1) (n:=1) .here)) λ_ h8 H8=>?_;refine qc omQ ?_;refine hih (t.giving.length-(i+1)) _ _ omQ ⟨i+1,rfl,by omega,rfl,?_⟩;have et:t.rests++t.giving.take (i+1)=(t.rests++t.giving.take i)++[(t.giving[i].1,t.giving[i].2)]:=by rw[List.take_add_one,iW hlt,List.append_assoc];rfl
    unfold YF;rw[et];exact H8.sub (.cons e_3 (.cons e_3 (.cons e_3 (.cons e_3 (.cons e_3 (.cons e_3 (.cons .here (.cons e_2 (.drop (.drop .refl))))))))))
   ·obtain rfl:i=t.giving.length:=by omega
    refine jH omQ (qJ ?_);rw[List.take_length]at H;exact hj _ _ ⟨rfl,by rw[iJ c];exact ThdC.I (q:=q) H⟩
  ·exact qX c (qJ (hj _ _ ⟨rfl,by rw[iQ c];exact H⟩))
 ·clear H0 H;rintro _ h1 ⟨rfl,H⟩;dsimp only;refine qG (kw omQ ?_ H) λ_ h4 H4=>qk (qj H4);have h1:=C.job;have h2:=C.rests;have h3:=C.lt
  split
  ·exact⟨C.set,C.me,C.jobs,C.jl,by show 0≤t.job+1∧t.job+1≤(t.jobs.length:Int);omega,by show(t.rests++t.giving).length+0≤9000*t.results.length;rw[List.length_append];omega,C.slots,by show(0:Int)≤0∧(0:Int)≤(t.past.length:Int);omega,by show(0:Int)≤0∧(0:Int)≤0;omega,λ_=>rfl⟩
  ·exact C.toThrB.next C.lt
theorem qYO {an:AnM} {draw:Int} (hn:13≤n) (B:ThrB t) (hg:t.giving.length≤1000000) (hd:0≤draw∧draw<256) (H:HS g h (ThdC b t::R)):t_w n 41 [.ptr b 0,.agg (xK an),.int .u8 draw] h λ_ h'=>
  HS g h' (ThdC b (if an.err=0∧an.word≠0∧(t.yielding=false∨an.word=t.since)then{ t with yielding:=true,since:=an.word }else xP t draw)::R):=by
 refine t_e3 (S:=S41) rfl omQ λk hk=>?_;unfold S41;try simp only[iZ]
 obtain⟨q,H0⟩:=ThdC.E H;clear H;refine qO H0 rfl λv0 h1 H1=>?_;clear H0;have no:∀c:¬(an.err=0∧an.word≠0∧(t.yielding=false∨an.word=t.since)),wp (jO (callT tab qz k) (.fn 74 [] []) [.ptr b 0,.int .u8 draw] h1 λ_ h'=>some (.tup [],h')) λ_ h'=>
  HS g h' (ThdC b (if an.err=0∧an.word≠0∧(t.yielding=false∨an.word=t.since)then{ t with yielding:=true,since:=an.word }else xP t draw)::R):=λc=>by
  rw[iQ c];exact qG (qQm omQ B hg hd (ThdC.I (q:=q) H1.drop)) λ_ h2 H2=>qj H2
 refine qQ (qK H1 (b:=v0) .here (x:=.int .i64 an.err) rfl ?_);by_cases c1:an.err=0
 ·refine qx c1 ?_;refine qV ?_
  try dsimp only
  refine qa (qQ (qK H1 (b:=v0) .here (x:=.int .u64 an.word) rfl ?_));by_cases c2:an.word=0
  ·refine jY c2 (qF ?_);refine qV ?_
   try dsimp only
   refine qS (qV ?_)
   try dsimp only
   refine jt (qV ?_)
   try dsimp only
   refine qS (qI (qJ ?_));exact no λh=>h.2.1 c2
  ·refine jj c2 (qF ?_);refine qV ?_
   try dsimp only
   refine qa ?_
   have yes:∀c:(t.yielding=false∨an.word=t.since),wp (ql (.ptr v0 0) 0 λv22=>jq h1 v22 λv23=>xU (.ptr b 0) λv24=>ql v24 25 λv25=>jC h1 v25 (.bool true) 1 λh26=>xU (.ptr b 0) λv27=>ql v27 24 λv28=>
     jC h26 v28 v23 1 λh29=>JX v22 none v23 h1 h26 h1.nx (some (.tup [],h29))) λ_ h'=>
      HS g h' (ThdC b (if an.err=0∧an.word≠0∧(t.yielding=false∨an.word=t.since)then{ t with yielding:=true,since:=an.word }else xP t draw)::R):=λc=>by
    rw[iJ ⟨c1,c2,c⟩];refine qp (qK H1 (b:=v0) .here (x:=.int .u64 an.word) rfl ?_);refine qW (qQ ?_);refine qw H1 (b:=b) e_1 ⟨rfl,rfl⟩ (by simp[yo]) λh2 H2=>?_;refine qW (qQ ?_);refine qw H2 (b:=b) .here ⟨rfl,rfl⟩ (by simp[yo]) λh3 H3=>?_;refine qb H1 .here rfl H2 e_1 rfl (HS.lt H1 .here) ?_;exact qj (ThdC.I (q:=q) (H3.sub (.cons .here (.drop .refl))))
   by_cases c3:t.yielding=false
   ·refine qW (qQ (qK H1 (b:=b) e_1 (x:=.bool false) (by rw[← c3];rfl) ?_));refine jV (qV ?_)
    try dsimp only
    refine qo (qV ?_)
    try dsimp only
    refine qa (qF ?_)
    try dsimp only
    refine qF (qZ ?_);refine qV ?_;exact yes (.inl c3)
   ·have c3':t.yielding=true:=by simpa using c3
    refine qW (qQ (qK H1 (b:=b) e_1 (x:=.bool true) (by rw[← c3'];rfl) ?_));refine jX (qV ?_)
    try dsimp only
    refine qd (qQ (qK H1 (b:=v0) .here (x:=.int .u64 an.word) rfl ?_));refine qW (qQ (qK H1 (b:=b) e_1 rfl ?_));by_cases c4:an.word=t.since
    ·refine qx c4 ?_;refine qV ?_
     try dsimp only
     refine qa (qI ?_)
     try dsimp only
     refine qF (qZ ?_);refine qV ?_;exact yes (.inr c4)
    ·refine qX c4 ?_;refine qV ?_
     try dsimp only
     refine qa (qI ?_)
     try dsimp only
     refine qF (qJ ?_);exact no λh=>by rcases h.2.2 with h |h;exact c3 h;exact c4 h
 ·refine qX c1 ?_;refine qV ?_
  try dsimp only
  refine qS (qI (qV ?_))
  try dsimp only
  refine qS (qV ?_)
  try dsimp only
  refine jt (qV ?_)
  try dsimp only
  refine qS (qI (qJ ?_));exact no λh=>c1 h.1
theorem PastC.E {r:List KU} {v:AV} (H:HS g h (PastC r v::R)):∃zs:List (KU×qK8),zs.map (·.1)=r∧HS g h (qy 74 14 zs.length v (zs.flatMap λz=>GT z.1 z.2):: .all (zs.flatMap λz=>Nl z.1 z.2)::R):=by obtain⟨zs,H⟩:=H.exE;exact⟨zs,H.allE.purE⟩
theorem PastC.I {r:List KU} {v:AV} {zs:List (KU×qK8)} (hl:zs.map (·.1)=r) (H:HS g h (qy 74 14 zs.length v (zs.flatMap λz=>GT z.1 z.2):: .all (zs.flatMap λz=>Nl z.1 z.2)::R)):HS g h (PastC r v::R) :=
 HS.exI zs (HS.allI (A:=[_,_,_]) (HS.purI hl H))
theorem OV {A B:List SP} (H:HS g h (.all A::(B++R))):HS g h (.all (A++B)::R):=by refine HS.allI ?_;rw[List.append_assoc];exact H.allE
theorem qWU {draw pick:Int} (hn:15≤n) (C:ke t) (hx:t.now=some x) (hp:t.past.length≤1000000) (hcf:t.tries≤1000000) (hrs:(t.results.length:Int)≤t.job+(if t.sweep=true then 1 else 0)) (hd:0≤draw∧draw<256) (H:HS g h (ThdC b t::R)) :
  t_w n 40 [.ptr b 0,.int .u8 draw,.int .i64 pick] h λ_ h'=>HS g h' (ThdC b (xJ t x draw pick)::R):=by
 refine t_e3 (S:=S40) rfl omQ λk hk=>?_;unfold S40;try simp only[iZ]
 have hN:=C.now x hx;have O:=hN.1;have hrl:t.rests.length+t.giving.length≤63000:=C.len (by split at hrs<;>omega);have hT:=C.tries;have hCf:=C.conf;have hjl:=C.jl;have hjb:=C.job;have hlt:=C.lt;obtain⟨a,q,H0⟩:=ThdC.V hx H;clear H;refine qW (qQ (qK H0 (b:=b) e_1 rfl ?_));refine qV ?_
 try dsimp only
 refine qW (qQ (qK H0 (b:=b) e_1 rfl ?_));refine qG (qkD omQ O H0) ?_;rintro _ h1 ⟨z,rfl,H1⟩;have H1:HS g h1 (qy 181 2 (jP t x pick).reads.length z.rv ((jP t x pick).reads.flatMap jA)::qy 181 2 (jP t x pick).cells.length z.cv ((jP t x pick).cells.flatMap jA)::qy z.fe 1 (jP t x pick).frees.length z.fv ((jP t x pick).frees.map (.int .i64))::thrV a b t x q R):=H1;have o1:=H1.one (v:=z.rv) .here;have o2:=H1.one (v:=z.cv) e_1;have o3:=H1.one (v:=z.fv) e_2;have a1:qm (GT (jP t x pick) z)=true:=by simp only[qm,GT,List.all_cons,o1.2,o2.2,o3.2];rfl
 refine qf (n:=1) (l:=GT (jP t x pick) z) (sz:=14) H1 rfl rfl rfl a1 λv2 h2 H2=>?_;obtain⟨zs,hzs,H3⟩:=PastC.E (H2.sel (P:=PastC t.past q.pv) e_8);have hzl:zs.length=t.past.length:=by rw[← hzs,List.length_map]
 refine jf H3 (H3.sl e_2) omQ omQ a1 λv3 h3 H4=>?_;have op:=H4.one .here;refine qW (qQ ?_);refine qw H4 (b:=b) e_7 op (by simp[yo]) λh4 H5=>?_;refine qb H0 e_1 rfl H1 e_4 rfl (HS.lt H0 e_1) ?_
 try dsimp only
 have B1:=OV (A:=zs.flatMap λz=>Nl z.1 z.2) (B:=Nl (jP t x pick) z) (H5.sub (.cons e_2 (.cons e_3 (.cons e_3 (.cons e_3 .refl)))));have eA:(zs++[(jP t x pick,z)]).flatMap (λz=>Nl z.1 z.2)=(zs.flatMap λz=>Nl z.1 z.2)++Nl (jP t x pick) z:=by rw[List.flatMap_append];simp
 have eB:(zs++[(jP t x pick,z)]).flatMap (λz=>GT z.1 z.2)=(zs.flatMap λz=>GT z.1 z.2)++GT (jP t x pick) z:=by rw[List.flatMap_append];simp
 have eC:(zs++[(jP t x pick,z)]).length=zs.length+1:=by simp
 have B2:=PastC.I (v:=v3) (zs:=zs++[(jP t x pick,z)]) (r:=t.past++[jP t x pick]) (by rw[List.map_append,hzs];rfl) (by rw[eA,eB,eC];exact B1.sub (.cons e_2 (.cons .here .refl)));have H6:HS g h4 (thrV a b { t with past:=t.past++[jP t x pick] } x { q with pv:=v3 } R):=B2.sub (.cons e_3 (.cons e_1 (.cons e_2 (.cons e_2 (.cons .here (.cons e_1 (.cons e_1 (.cons e_1 (.drop .refl)))))))));clear H0 H1 H2 H3 H4 H5 B1 B2 eA eB eC;refine qW (qQ (qp (qK H6 (b:=b) e_1 (x:=.int .i64 t.tries) rfl ?_)));refine qc omQ ?_;refine qW (qQ (qp ?_));refine qw H6 (b:=b) e_1 ⟨rfl,rfl⟩ (by simp[yo]) λh5 H7=>?_;have H8:HS g h5 (thrV a b { t with past:=t.past++[jP t x pick],tries:=t.tries+1 } x { q with pv:=v3 } R):=H7.sub (.cons e_1 (.cons .here .refl));have hpl:(t.past++[jP t x pick]).length=t.past.length+1:=by simp
 have hps:((t.past++[jP t x pick]).length:Int)=(t.past.length:Int)+1:=by rw[hpl];rfl
 clear H6 H7;generalize{ q with pv:=v3 }=q at*;refine qV ?_
 try dsimp only
 unfold xJ;dsimp only;refine qG (Gm omQ H8 .here) ?_;rintro _ _ ⟨rfl,rfl⟩;by_cases c5:jc x=5
 ·rw[iJ c5];refine qx c5 (qZ ?_);refine qW (qQ (qp (qK H8 (b:=b) e_1 (x:=.int .i64 t.conf) rfl ?_)));refine qc omQ ?_;refine qW (qQ (qp ?_));refine qw H8 (b:=b) e_1 ⟨rfl,rfl⟩ (by simp[yo]) λh6 H9=>?_;have HA:HS g h6 (thrV a b { t with past:=t.past++[jP t x pick],tries:=t.tries+1,conf:=t.conf+1 } x q R):=H9.sub (.cons e_1 (.cons .here .refl));clear H8 H9;have C3:ke { t with past:=t.past++[jP t x pick],tries:=t.tries+1,conf:=t.conf+1 } :=
   C.go rfl rfl rfl rfl rfl rfl rfl C.slots (by show 0≤t.tries+1∧t.tries+1≤((t.past++[jP t x pick]).length:Int);omega) (by show 0≤t.conf+1∧t.conf+1≤t.tries+1;omega) rfl rfl
  have no:∀c:¬(0≤QQ x∧QQ x<t.set.threads),wp (jO (callT tab qz k) (.fn 74 [] []) [.ptr b 0,.int .u8 draw] h6 λ_ h'=>ze [] h' λh'=>some (.tup [],h')) λ_ h'=>
    HS g h' (ThdC b (if 0≤QQ x∧QQ x<t.set.threads then{ t with past:=t.past++[jP t x pick],tries:=t.tries+1,conf:=t.conf+1,state:=2,by_:=QQ x,yielding:=false }else xP { t with past:=t.past++[jP t x pick],tries:=t.tries+1,conf:=t.conf+1 } draw)::R):=λc=>by
   rw[iQ c];exact qG (qQm (t:={ t with past:=t.past++[jP t x pick],tries:=t.tries+1,conf:=t.conf+1 }) omQ C3.toThrB (by show t.giving.length≤_;omega) hd (thrV.I hx HA)) λ_ h2 H2=>qk (qj H2)
  refine qV ?_
  try dsimp only
  refine qG (qW5 omQ HA .here) ?_;rintro _ _ ⟨rfl,rfl⟩;by_cases d1:0≤QQ x
  ·refine zO d1 (qa ?_);refine qG (qW5 omQ HA .here) ?_;rintro _ _ ⟨rfl,rfl⟩;refine qW (qQ (qp (qp (qK HA (b:=b) e_1 (x:=.int .i64 t.set.threads) rfl ?_))));by_cases d2:QQ x<t.set.threads
   ·refine jd d2 (qF ?_);refine qb HA e_1 rfl HA e_1 rfl (HS.lt HA e_1) ?_
    try dsimp only
    refine qZ ?_;rw[iJ ⟨d1,d2⟩];refine qG (qW5 omQ HA .here) ?_;rintro _ _ ⟨rfl,rfl⟩;refine qW (qQ ?_);refine qw HA (b:=b) e_1 ⟨rfl,rfl⟩ (by simp[yo]) λh7 HB=>?_;refine qW (qQ ?_);refine qw HB (b:=b) .here ⟨rfl,rfl⟩ (by simp[yo]) λh8 HC=>?_;refine qW (qQ ?_);refine qw HC (b:=b) .here ⟨rfl,rfl⟩ (by simp[yo]) λh9 HD=>?_;refine qj ?_;exact thrV.I (t:={ t with past:=t.past++[jP t x pick],tries:=t.tries+1,conf:=t.conf+1,state:=2,by_:=QQ x,yielding:=false }) (q:=q) hx (HD.sub (.cons e_1 (.cons .here .refl)))
   ·refine jH d2 (qF ?_);refine qb HA e_1 rfl HA e_1 rfl (HS.lt HA e_1) ?_
    try dsimp only
    exact qJ (no λh=>d2 h.2)
  ·refine zN d1 (qS (qI ?_))
   try dsimp only
   exact qJ (no λh=>d1 h.1)
 ·rw[iQ c5];refine qX c5 (qJ ?_);have C2:∀s:Int,ke { t with past:=t.past++[jP t x pick],tries:=t.tries+1,state:=s }:=λs=>
   C.go rfl rfl rfl rfl rfl rfl rfl C.slots (by show 0≤t.tries+1∧t.tries+1≤((t.past++[jP t x pick]).length:Int);omega) (by show 0≤t.conf∧t.conf≤t.tries+1;omega) rfl rfl
  refine qG (Gm omQ H8 .here) ?_;rintro _ _ ⟨rfl,rfl⟩;by_cases c3:jc x=3
  ·rw[iJ c3];refine qx c3 (qZ ?_);by_cases ca:t.alarm=true
   ·rw[iJ ca];refine qW (qQ (qK H8 (b:=b) e_1 (x:=.bool true) (by rw[← ca];rfl) ?_));refine qZ ?_;exact qG (GJ (t:={ t with past:=t.past++[jP t x pick],tries:=t.tries+1 }) omQ (C2 t.state).toThrB (by show t.giving.length≤_;omega) (thrV.I hx H8)) λ_ h6 H6=>qj H6
   ·have cf:t.alarm=false:=by simpa using ca
    rw[iQ ca];refine qW (qQ (qK H8 (b:=b) e_1 (x:=.bool false) (by rw[← cf];rfl) ?_));refine qJ (qW (qQ ?_));refine qw H8 (b:=b) e_1 ⟨rfl,rfl⟩ (by simp[yo]) λh6 H9=>?_;refine qk (qj ?_);exact thrV.I (t:={ t with past:=t.past++[jP t x pick],tries:=t.tries+1,state:=4 }) (q:=q) hx (H9.sub (.cons e_1 (.cons .here .refl)))
  ·rw[iQ c3];refine qX c3 (qJ ?_);by_cases cs:t.sweep=true
   ·rw[iJ cs];refine qW (qQ (qp (qK H8 (b:=b) e_1 (x:=.bool true) (by rw[← cs];rfl) ?_)));refine qZ (qG (Gm omQ H8 .here) ?_);rintro _ _ ⟨rfl,rfl⟩;exact qG (qjA (t:={ t with past:=t.past++[jP t x pick],tries:=t.tries+1 }) omQ (C2 t.state) (by show t.rests.length+t.giving.length≤_;omega) (thrV.I hx H8)) λ_ h6 H6=>qk (qj H6)
   ·have cf:t.sweep=false:=by simpa using cs
    rw[iQ cs];refine qW (qQ (qp (qK H8 (b:=b) e_1 (x:=.bool false) (by rw[← cf];rfl) ?_)));refine qJ (qV ?_)
    try dsimp only
    refine qV ?_
    try dsimp only
    refine qW (qQ (qK H8 (b:=b) e_1 rfl ?_));refine qG (Gm omQ H8 .here) ?_;rintro _ _ ⟨rfl,rfl⟩;refine qG (qW1 omQ H8 .here) ?_;rintro _ _ ⟨rfl,rfl⟩;refine qG (MZ omQ O H8) ?_;rintro _ h6 ⟨rfl,H9⟩;refine qG (Uu omQ H9 .here) ?_;rintro _ _ ⟨rfl,rfl⟩;refine qH (l:=JC ⟨jc x,xc x,zE x,x.stamp⟩) rfl ?_;refine qf (n:=1) (l:=JC ⟨jc x,xc x,zE x,x.stamp⟩) (sz:=4) H9 rfl rfl rfl rfl λv4 h7 HA=>?_;have hrl7:t.results.length≤7:=by split at hrs<;>omega
    refine jf (HA.sel (P:=qy 65 4 t.results.length q.rv (t.results.flatMap JC)) e_6) (HA.sl .here) omQ omQ rfl λv5 h8 HB=>?_;have o5:=HB.one .here;refine qW (qQ ?_);refine qw HB (b:=b) e_3 o5 (by simp[yo]) λh9 HC=>?_;refine qb H9 e_1 rfl H9 e_1 rfl (HS.lt H8 e_1) ?_;refine qb H8 e_1 rfl H9 e_1 rfl (HS.lt H8 e_1) ?_;refine qb H8 e_1 rfl H8 e_1 rfl (HS.lt H8 e_1) ?_;refine qb H8 e_1 rfl H8 e_1 rfl (HS.lt H8 e_1) ?_
    try dsimp only
    have eR:(t.results++[(⟨jc x,xc x,zE x,x.stamp⟩:KZ)]).length=t.results.length+1:=by simp
    have eF:(t.results++[(⟨jc x,xc x,zE x,x.stamp⟩:KZ)]).flatMap JC=t.results.flatMap JC++JC ⟨jc x,xc x,zE x,x.stamp⟩:=by rw[List.flatMap_append];simp
    have HD:HS g h9 (thrV a b { t with past:=t.past++[jP t x pick],tries:=t.tries+1,results:=t.results++[⟨jc x,xc x,zE x,x.stamp⟩] } x { q with rv:=v5 } R):=by unfold thrV;rw[eR,eF];exact HC.sub (.cons e_3 (.cons .here (.cons e_2 (.cons e_2 (.cons e_2 (.cons .here (.cons e_1 (.cons e_1 (.drop .refl)))))))))
    clear H8 H9 HA HB HC eF;refine qV ?_
    try dsimp only
    refine qW (qQ (qK HD (b:=b) e_1 rfl ?_));refine qG (Uu omQ HD .here) ?_;rintro _ _ ⟨rfl,rfl⟩;refine qG (MU omQ O HD) ?_;rintro fv hA ⟨fe,HE⟩;have hfl:=kB O (hN.2.2.2.trans cf);have HF:=HE.sel (P:=LimC q.lb t.rests) e_7;refine qG (V8 (z:=x.stamp) (bs:=zD x) omQ omQ HF (HF.drop.rd .here)) λ_ hB HG=>?_;refine qb HD e_1 rfl HE e_2 rfl (HS.lt HD e_1) ?_;refine qb HD e_1 rfl HD e_1 rfl (HS.lt HD e_1) ?_
    try dsimp only
    have HH:=thrV.I (a:=a) (b:=b) (t:={ t with past:=t.past++[jP t x pick],tries:=t.tries+1,results:=t.results++[⟨jc x,xc x,zE x,x.stamp⟩],rests:=t.rests++(zD x).map λb=>(b,x.stamp) }) (q:={ q with rv:=v5 }) hx
     (HG.sub (.cons e_2 (.cons e_2 (.cons e_2 (.cons e_2 (.cons e_2 (.cons e_2 (.cons .here (.cons e_1 (.drop .refl))))))))))
    have e2:(t.rests++(zD x).map λb=>(b,x.stamp)).length=t.rests.length+(zD x).length:=by simp
    have hgl:=C.giv cf;have hre:=C.rests;rw[hgl,List.length_nil]at hre;have C4:ke { t with past:=t.past++[jP t x pick],tries:=t.tries+1,results:=t.results++[⟨jc x,xc x,zE x,x.stamp⟩],rests:=t.rests++(zD x).map λb=>(b,x.stamp) } :=
     ⟨⟨C.set,C.me,C.jobs,C.jl,C.job,by show(t.rests++(zD x).map λb=>(b,x.stamp)).length+t.giving.length≤9000*(t.results++[(⟨jc x,xc x,zE x,x.stamp⟩:KZ)]).length;rw[eR,e2,hgl,List.length_nil];omega,
      C.slots,by show 0≤t.tries+1∧t.tries+1≤((t.past++[jP t x pick]).length:Int);omega,by show 0≤t.conf∧t.conf≤t.tries+1;omega,C.giv⟩,C.now,C.lt,C.some⟩
    exact qG (qkt omQ C4 cf (by show(t.rests++(zD x).map λb=>(b,x.stamp)).length≤1000000;omega) HH) λ_ hC HI=>qk (qj HI)
end
end
end Go.Proofs.YtnalffoigcmnnabGreatDoor
