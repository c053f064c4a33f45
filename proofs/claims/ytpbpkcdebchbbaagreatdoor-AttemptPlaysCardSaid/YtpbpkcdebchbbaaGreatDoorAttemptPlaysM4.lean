/- Lemmas for 'quietus/quietuslaw26.AttemptPlays': Stripes of cells: rows of numbers sorted, made thin, searched by the library;What was read;an extension: by the program;A commit: by the program;A commit: ... No condition. -/
import Derived.Test.YtpbpkcdebchbbaaGreatDoorAttemptPlaysM3
import Derived.Test.YtpbpkcdebchbbaaGreatDoorAttemptPlaysX
import Derived.Lib.SlicesCompact
import Derived.Test.YtpbpkcdebchbbaaGreatDoorAttemptPlaysM1
import Derived.Test.YtpbpkcdebchbbaaGreatDoorAttemptPlaysM2
namespace Go.Proofs.YtpbpkcdebchbbaaGreatDoor
open Go Go.Ae
set_option maxRecDepth 100000
section
variable {g h:AH} {L R:List SP}
theorem qjD:∀{a b:List Int},a.Pairwise (· < ·)→b.Pairwise (· < ·)→(∀x,x∈a↔x∈b)→a=b:=by
 intro a
 induction a with
 |nil=>
  intro b _ _ h;cases b with
  |nil=>rfl
  |cons y b=>have:=(h y).2 (iK ..);grind
 |cons x a ih=>
  intro b ha hb h;cases b with
  |nil=>grind
  |cons y b=>
   have EW:=List.pairwise_cons.1 ha;have bF:=List.pairwise_cons.1 hb;have e:x=y:=by
    rcases List.mem_cons.1 ((h x).1 (iK ..))with e |e
    ·grind
    ·rcases List.mem_cons.1 ((h y).2 (iK ..))with e2 |e2
     all_goals grind
   grind
theorem qKn {d:Array Int} (hs:∀i j,i≤j→j<d.size→d[i]! ≤d[j]!):∀m,m≤d.size→(Lib.compactUpTo d m).Pairwise (· < ·)∧∀x,x∈Lib.compactUpTo d m↔∃j,j<m∧d[j]! =x:=by
 intro m
 induction m with
 |zero=>intro _;exact⟨List.Pairwise.nil,λx=>⟨(nofun),λ⟨j,h,_⟩=>by omega⟩⟩
 |succ m ih=>
  intro hm;obtain⟨p,q⟩:=ih omQ;rw[Lib.compactUpTo_succ];by_cases hk:Lib.keeps d m=true
  ·rw[iJ hk];refine⟨?_,λx=>?_⟩
   ·rw[List.pairwise_append];refine⟨p,List.pairwise_singleton ..,λa ha b hb=>?_⟩;rw[List.mem_singleton]at hb;subst hb;obtain⟨j,hj,rfl⟩:=(q a).1 ha;have h1:=hs j (m-1) omQ omQ;have h2:=hs (m-1) m omQ omQ;have h3:d[m]! ≠d[m-1]!:=by
     intro e;rw[Lib.keeps_neg omQ e]at hk;grind
    omega
   grind
  ·rw[iQ hk,List.append_nil];refine⟨p,λx=>?_⟩;rw[q x];refine⟨λ⟨j,hj,e⟩=>⟨j,by omega,e⟩,λ⟨j,hj,e⟩=>?_⟩;by_cases iR:j=m
   ·subst iR;have h0:0<j:=by
     rcases Nat.eq_zero_or_pos j with h |h
     ·simp_all[Lib.keeps_lt_one,omQ]
     grind
    refine⟨j-1,by omega,?_⟩;refine Decidable.byContradiction λbG=>hk (Lib.keeps_pos λh=>bG ?_);grind
   grind
theorem qgF {zs:List Int} (h:zs.Pairwise (· ≤ ·)):(Lib.compact zs).Pairwise (· < ·)∧∀x,x∈Lib.compact zs↔x∈zs:=by
 have hg:∀i:Nat,i<zs.length→zs.toArray[i]! =zs[i]!:=λi hi=>by simp
 obtain⟨p,q⟩:=qKn (d:=zs.toArray) (λi j AD hj=>by
  have hj:j<zs.length:=by grind
  rw[hg i omQ,hg j hj,getElem!_pos zs i omQ,getElem!_pos zs j hj];by_cases e:i=j
  ·grind
  ·exact List.pairwise_iff_getElem.1 h i j omQ hj omQ) zs.length aA
 refine⟨p,λx=>?_⟩;refine(q x).trans ⟨λ⟨j,hj,e⟩=>?_,λhx=>?_⟩
 ·grind
 ·obtain⟨j,hj,e⟩:=List.mem_iff_getElem.1 hx;grind
theorem VD {p n w:Int} (h:0≤p):0≤ofM p n w∧ofM p n w<16:=by unfold ofM;rw[iQ omQ];have h1:=Int.emod_nonneg (p/max 1 (min w 16)) (show max 1 (min n 16)≠0 by omega);have h2:=Int.emod_lt_of_pos (p/max 1 (min w 16)) (show 0<max 1 (min n 16) by omega);omega
theorem GM {cs:List Cl} {n w:Int}:(xz cs n w).Pairwise (· < ·):=by unfold xz;refine List.Pairwise.filter _ ?_;trivial
theorem XT {cs:List Cl} {n w:Int} (h:∀c∈cs,0≤c.1) {x:Int}:x∈xz cs n w↔x∈cs.map λc=>ofM c.1 n w:=by unfold xz;rw[List.mem_filter,List.any_eq_true,List.mem_map,List.mem_map];refine⟨λ⟨_,c,hc,e⟩=>⟨c,hc,by grind⟩,λ⟨c,hc,e⟩=>⟨?_,c,hc,by grind⟩⟩;have:=VD (n:=n) (w:=w) (h c hc);exact⟨x.toNat,List.mem_range.2 omQ,by omega⟩
theorem qJc {cs:List Cl} {n w:Int} (h:∀c∈cs,0≤c.1):Lib.compact (QR (cs.map λc=>ofM c.1 n w))=xz cs n w:=by obtain⟨p,q⟩:=qgF (YD (cs.map λc=>ofM c.1 n w));grind[qjD,GM,Xw,XT]
section
variable {n m:Nat} {v:AV} {zs:List Int}
theorem qz2 {e:TypeId} (hn:1≤n) (H:HS g h (qF e 1 m v (zs.map (.int .i64))::R)) (h0:0<m) (hm:m≤1000000) :
  af n 211 [v] h λ_ h'=>HS g h' (qF e 1 m v ((QR zs).map (.int .i64))::R):=by
 have hl:zs.length=m:=by have:=H.dl .here;grind
 obtain⟨b,cp,o,ys,rfl,HC,q1,q2,q3⟩:=H.ux h0;rw[Nat.mul_one]at q1 q2;refine qE rfl omQ λk hk=>?_;show wp (FZ _ [.slice b 0 m cp o] h) _;obtain⟨D,⟨hD,A⟩,eI,kk⟩:=HC.act;obtain⟨c,c1,c2,c3⟩:=A.bf;unfold FZ;simp only[c1,c2];rw[q2,Nm];simp only[];rw[show Nat.beq zs.length m=true from by simp_all,iY hm];simp;refine⟨_,_,rfl,?_⟩;have RX:=kk _ (Cell b ((QR zs).map (.int .i64)++ys.drop m) e o) D ⟨by simp,λa ha hn=>AH.br h _ λe=>hn ((hD a).2 e.symm)⟩ ⟨hD,by simp_all,CT.ofList _,AH.aN ..,CT.aD _,CT.bx _⟩ λa ha=>⟨.inl ha,by simp_all⟩;have hlen:((QR zs).map (AV.int .i64)).length=m:=by rw[List.length_map,Vt,hl]
 have:=HS.BQ (n:=m) (sz:=1) (cp:=cp) RX (by grind) (by
  grind)
 grind
theorem qjl (hn:1≤n) (H:HS g h (qF 3 1 m v (zs.map (.int .i64))::R)) (h0:0<m) (hm:m≤1000000) :
  af n 212 [v] h λr h'=>HS g h' (qF 3 1 (Lib.compact zs).length r ((Lib.compact zs).map (.int .i64))::R):=by
 have hl:zs.length=m:=by have:=H.dl .here;grind
 obtain⟨b,cp,o,ys,rfl,HC,q1,q2,q3⟩:=H.ux h0;rw[Nat.mul_one]at q1 q2;refine qE rfl omQ λk hk=>?_;show wp (Ou 3 _ [.slice b 0 m cp o] h) _;obtain⟨D,⟨hD,A⟩,eI,kk⟩:=HC.act;obtain⟨c,c1,c2,c3⟩:=A.bf;have hle:=qXa zs;unfold Ou;simp only[c1,c2];rw[q2,Nm];simp only[];have hc:(Nat.beq zs.length m&&(Nat.ble m 1000000&&(bif o then Nat.beq cp 0&&(o&&Nat.beq 3 3)else Nat.ble m cp)))=true:=by
  rw[show Nat.beq zs.length m=true from by simp_all,iY hm];cases o with
  |true=>simp_all
  |false=>simp_all
 rw[hc];simp only[cond_true];refine⟨_,_,rfl,?_⟩;have RX:=kk _ (Cell b ((Lib.compact zs++List.replicate (zs.length-(Lib.compact zs).length) 0).map (.int .i64)++ys.drop m) 3 o) D ⟨by simp,λa ha hn=>AH.br h _ λe=>hn ((hD a).2 e.symm)⟩ ⟨hD,by simp_all,CT.ofList _,AH.aN ..,CT.aD _,CT.bx _⟩ λa ha=>⟨.inl ha,by simp_all⟩;have hlen:((Lib.compact zs++List.replicate (zs.length-(Lib.compact zs).length) 0).map (AV.int .i64)).length=m:=by grind
 have:=HS.BQ (n:=(Lib.compact zs).length) (sz:=1) (cp:=cp) RX (by simp) (by
  grind)
 grind
theorem qz6:∀{l:List Int},l.Pairwise (· ≤ ·)→VG l=true:=by
 intro l
 induction l with
 |nil=>trivial
 |cons x r ih=>
  intro h;cases r with
  |nil=>rfl
  |cons y r=>simp_all[List.pairwise_cons,VG,iG]
theorem qxc {e:TypeId} {x:Int} (hn:1≤n) (H:HS g h L) (s:aR L (qF e 1 m v (zs.map (.int .i64))) R) (h0:0<m) (hm:m≤1000000) (hs:zs.Pairwise (· ≤ ·)) :
  af n 437 [v,.int .i64 x] h λr h'=>r=.bm [.int .i64 (zs.countP (· <x):Nat),.bool (zs.contains x)]∧h'=h:=by
 have hl:zs.length=m:=by have:=H.dl s;grind
 obtain⟨b,cp,o,ys,rfl,HC,q1,q2,q3⟩:=(H.ah s).ux h0;rw[Nat.mul_one]at q1 q2;refine qE rfl omQ λk hk=>?_;show wp (Ot _ [.slice b 0 m cp o,.int .i64 x] h) _;obtain⟨D,⟨hD,A⟩,eI,kk⟩:=HC.act;obtain⟨c,c1,c2,c3⟩:=A.bf;unfold Ot;simp only[c1,c2];rw[q2,Nm];simp only[];rw[show Nat.beq zs.length m=true from by simp_all,iY hm,qz6 hs];exact⟨_,_,rfl,rfl,rfl⟩
end
theorem Uv {n:Nat} {a b:Int} (hn:1≤n):af n 141 [.int .i64 a,.int .i64 b] h λr h'=>r=.int .i64 (max 1 (min a b))∧h'=h:=by
 refine aG rfl omQ λk hk=>?_;unfold S141;try simp only[iZ]
 refine zS (zu ?_);exact qY ⟨rfl,rfl⟩
theorem qYf {n:Nat} {p a w:Int} (hn:2≤n) (hp:p<4611686018427387904):af n 164 [.int .i64 p,.int .i64 a,.int .i64 w] h λr h'=>r=.int .i64 (ofM p a w)∧h'=h:=by
 refine b8 rfl omQ λk hk=>?_;unfold S164;try simp only[iZ]
 unfold ofM;by_cases c:p<0
 ·refine jB c ?_;rw[iJ c];refine qX<|qY ⟨rfl,rfl⟩
 ·refine jk c ?_;rw[iQ c];refine qJ (qW (Uv omQ) ?_);rintro _ _ ⟨rfl,rfl⟩;refine Pp omQ ?_;have h1:p.tdiv (max 1 (min w ((16:Nat):Int)))=p/max 1 (min w 16):=Int.tdiv_eq_ediv_of_nonneg omQ;have h2:0≤p/max 1 (min w 16):=Int.ediv_nonneg omQ omQ;have h3:p/max 1 (min w 16)≤p:=Int.ediv_le_self _ omQ;rw[h1,Md omQ];refine qW (Uv omQ) ?_;rintro _ _ ⟨rfl,rfl⟩;refine ga omQ ?_;rw[Int.tmod_eq_emod_of_nonneg h2];exact qY ⟨rfl,rfl⟩
theorem qZ8 {n:Nat} {cv:AV} {cs:List Cl} {a w:Int} (hn:4≤n) (H:HS g h R) (S:Rd g R 2 cs.length cv (cs.flatMap jH)) (h0:0<cs.length) (hl:cs.length≤1000) (hc:∀c∈cs,0≤c.1∧c.1<100000) :
  af n 168 [cv,.int .i64 a,.int .i64 w] h λr h'=>HS g h' (qF 3 1 (xz cs a w).length r ((xz cs a w).map (.int .i64))::R):=by
 refine b8 rfl omQ λk hk=>?_;unfold S168;try simp only[iZ]
 have tV:=(S.sl H).sL;refine z8 ‹_›<|jF (λm s h'=>∃(i:Nat) (v:AV),s=(.int .i64 (i:Int),.int .i64 (cs.length:Int),cv,v,.int .i64 w,.int .i64 a,())∧i≤cs.length∧m=cs.length-i∧
  HS g h' (qF 3 1 i v (((cs.take i).map λc=>ofM c.1 a w).map (.int .i64))::R))
  ?_ (m:=cs.length) omQ ⟨0,.ad,rfl,by omega,by rfl,H.ad⟩
 rintro m ih s h2 aY ⟨i,v,rfl,hi,rfl,H⟩;by_cases ae:i<cs.length
 ·refine jB omQ (qX ?_);have fX:=hc _ (List.getElem_mem ae);have hr:=VD (n:=a) (w:=w) fX.1;refine qG ?_
  try dsimp only
  refine zj (l:=jH cs[i]) (S.sl H.drop) ae omQ (gO (sz:=2) (λ_=>rfl) (iW ae))<|qH H rfl λb h3 H3=>?_;refine qh H3 .here rfl (by simp) rfl λh4 H4=>?_;have H4:HS g h4 (qx b [.int .i64 cs[i].1,.int .u64 cs[i].2]::qF 3 1 i v (((cs.take i).map λc=>ofM c.1 a w).map (.int .i64))::R):=H4;refine qQ (qZ ‹_› .here rfl ?_);refine qW (qYf omQ omQ) ?_;rintro _ _ ⟨rfl,rfl⟩;refine jA omQ (qX ?_);refine qr H4 rfl rfl rfl rfl λv2 h5 H5=>?_;refine jh (H5.ah e_2) (H5.sl .here) omQ omQ rfl λv3 h6 H6=>?_;refine qS omQ<|aY (cs.length-(i+1)) _ _ omQ ⟨i+1,v3,rfl,by omega,rfl,?_⟩;have e:(cs.take (i+1)).map (λc=>ofM c.1 a w)=(cs.take i).map (λc=>ofM c.1 a w)++[ofM cs[i].1 a w]:=by rw[List.take_add_one,iW ae,List.map_append];rfl
  rw[e,List.map_append];exact H6.pk [0] 2
 ·obtain rfl:i=cs.length:=by omega
  refine jk omQ (qJ ?_);rw[List.take_of_length_le (Nat.le_refl _)]at H;refine qW (qz2 omQ H h0 omQ) λ_ h3 H3=>?_;refine qW (qjl omQ H3 h0 omQ) λr h4 H4=>?_;rw[qJc λc mi=>(hc c mi).1]at H4;refine qg<|qY H4
end
section
variable {g h:AH} {L R:List SP}
theorem Oa {l:List xA} {k:Nat} (hk:k<l.length):((l.flatMap xK).drop (k*2)).take 2=xK (zL l (k:Int)):=gO (enc:=xK) (λ_=>rfl) (by simp_all[zL,Int.toNat_natCast])
theorem yt {l:List xA} {k:Nat} (hk:k<l.length):(l.flatMap xK)[k*2+0]? =some (.int .i64 (zL l (k:Int)).1)∧(l.flatMap xK)[k*2+1]? =some (.int .u64 (zL l (k:Int)).2):=by
 have e:=Oa hk;have hl:(l.flatMap xK).length=l.length*2:=vD xK (λ_=>rfl) (l:=l);constructor
 ·have:=congrArg (·[0]?) e;simp only[List.getElem?_take_of_lt (show 0<2 by omega),List.getElem?_drop]at this;trivial
 ·have:=congrArg (·[1]?) e;simp only[List.getElem?_take_of_lt (show 1<2 by omega),List.getElem?_drop]at this;trivial
def bW (b:Nat) (r:List xA):SP:=.ex λsv=>.all [qx b [.int .i64 16,sv],qF 122 2 r.length sv (r.flatMap xK)]
section
variable {n b:Nat} {r:List xA} {x:xA}
theorem bW.E (H:HS g h (bW b r::R)):∃sv,HS g h (qx b [.int .i64 16,sv]::qF 122 2 r.length sv (r.flatMap xK)::R):=by obtain⟨sv,H⟩:=H.dj;exact⟨sv,H.bS⟩
theorem bW.I {sv:AV} (H:HS g h (qx b [.int .i64 16,sv]::qF 122 2 r.length sv (r.flatMap xK)::R)):HS g h (bW b r::R):=HS.dE sv H.allI
theorem qvl (hn:1≤n) (H:HS g h R):af n 96 [.int .i64 ((16:Nat):Int)] h λv h'=>∃b,v=.ptr b 0∧HS g h' (bW b []::R):=by
 refine ag rfl omQ λk hk=>?_;unfold S96;try simp only[iZ]
 refine zS (zu (qy rfl ?_));refine qH H rfl λb h1 H1=>qY ⟨b,rfl,bW.I (sv:=.ad) ?_⟩;have:=(H1.ad (e:=122) (sz:=2));exact this.pk [1,0] 0
theorem qX5 {r:List xA} {i:Nat} {st:Int} {y:xA} (hb:∀z∈r.take i,z.1≠st) (hi:r[i]? =some y) (hy:y.1=st):r.find? (λz=>decide (z.1=st))=some y:=by
 obtain⟨ae,e⟩:=List.getElem?_eq_some_iff.1 hi;have h1:(r.take i).find? (λz=>decide (z.1=st))=none:=List.find?_eq_none.2 λz hz=>by grind
 have h2:r=r.take i++y::r.drop (i+1):=by grind[List.drop_eq_getElem_cons,List.take_append_drop]
 grind
theorem qvc {st:Int} (hn:1≤n) (hr:r.length≤1000) (H:HS g h (bW b r::R)) :
  af n 248 [.ptr b 0,.int .i64 st] h λv h'=>v=.bm [.int .u64 ((r.find? λz=>decide (z.1=st)).getD (0,0)).2,.bool (r.find? λz=>decide (z.1=st)).isSome]∧HS g h' (bW b r::R):=by
 refine aG rfl omQ λk hk=>?_;unfold S248;try simp only[iZ]
 obtain⟨sv,H⟩:=bW.E H;refine qK (qQ (qZ ‹_› .here rfl ?_));refine qd ‹_› e_1<|jF (λm s h'=>∃i:Nat,s=(.int .i64 (i:Int),.int .i64 (r.length:Int),sv,.int .i64 st,())∧i≤r.length∧m=r.length-i∧(∀z∈r.take i,z.1≠st)∧HS g h' (qx b [.int .i64 16,sv]::qF 122 2 r.length sv (r.flatMap xK)::R))
  ?_ (m:=r.length) omQ ⟨0,rfl,by omega,by rfl,by simp,H⟩
 rintro m ih s h2 aY ⟨i,rfl,hi,rfl,hb,H⟩;by_cases ae:i<r.length
 ·refine jB omQ (qX ?_);refine zj (H.sl e_1) ae omQ (Oa ae)<|qH H rfl λc h3 H3=>?_;refine qh H3 .here rfl (by simp) rfl λh4 H4=>?_;have hg:r[i]? =some (zL r i):=by unfold zL;grind
  refine qQ (qZ ‹_› .here rfl ?_);by_cases hy:(zL r i).1=st
  ·refine qj hy<|qX (qQ (qZ ‹_› .here rfl ?_));refine qg ?_;rw[qX5 hb hg hy];exact qY ⟨rfl,bW.I H4.drop⟩
  ·refine qV hy<|qJ (qS omQ ?_);refine aY (r.length-(i+1)) _ _ omQ ⟨i+1,rfl,by omega,rfl,?_,H4.drop⟩;intro z hz;rw[List.take_add_one,hg]at hz;grind
 ·obtain rfl:i=r.length:=by omega
  refine jk omQ (qJ ?_);rw[List.take_of_length_le (Nat.le_refl _)]at hb;rw[List.find?_eq_none.2 λz hz=>by grind];refine qg<|qY ⟨rfl,bW.I H⟩
theorem qvu (hn:2≤n) (hr:r.length≤16) (H:HS g h (bW b r::R)) :
  af n 214 [.ptr b 0,.agg (xK x)] h λv h'=>v=.int .i64 (gV r x).1∧HS g h' (bW b (gV r x).2::R):=by
 refine aG rfl omQ λk hk=>?_;unfold S214;try simp only[iZ]
 generalize hA:gV r x=A;refine qH H rfl λb0 h1 H1=>?_;unfold gV at hA;refine qQ (qZ ‹_› .here rfl ?_);by_cases c1:x.1<0
 ·refine jB c1<|qG<|qf<|qC (qG ?_);refine qf<|qC (qX ?_)
  rw[iJ (.inl c1)]at hA;subst hA;exact qY ⟨rfl,H1.drop⟩
 refine jk c1<|qG<|qM<|qQ (qZ ‹_› .here rfl ?_)
 by_cases c2:16≤x.1
 ·refine jA omQ<|qB (qG ?_);refine qf<|qC (qX ?_)
  rw[iJ (.inr (.inl c2))]at hA;subst hA;exact qY ⟨rfl,H1.drop⟩
 refine jz omQ<|qB (qG ?_);refine qM<|qQ (qZ ‹_› .here rfl ?_)
 by_cases c3:4611686018427387904≤x.2
 ·refine jA omQ<|qB (qX ?_);rw[iJ (.inr (.inr c3))]at hA;subst hA;exact qY ⟨rfl,H1.drop⟩
 refine jz omQ<|qB (qJ (qQ (qZ ‹_› .here rfl ?_)));rw[iQ omQ]at hA;refine qW (qvc omQ omQ (H1.ah e_1)) ?_;rintro _ h2 ⟨rfl,H2⟩;have H3:=H2.ah e_1;refine qA rfl<|qA rfl ?_;cases hf:r.find? λz=>decide (z.1=x.1)with
 |some y=>
  rw[hf]at hA;dsimp only at hA;refine qX (qQ (qZ ‹_› .here rfl ?_));by_cases c4:y.2=x.2
  ·refine q9 c4 ?_;rw[iQ (λh=>h c4)]at hA;subst hA;refine qJ<|qY ⟨rfl,H3.drop⟩
  ·refine jJ c4 ?_;rw[iJ c4]at hA;subst hA;refine qX<|qY ⟨rfl,H3.drop⟩
 |none=>
  rw[hf]at hA;dsimp only at hA;refine qJ ?_;obtain⟨sv,H4⟩:=bW.E H2;refine qK (qQ (qZ ‹_› .here rfl ?_));refine qd ‹_› e_1<|qK (qQ (qZ ‹_› .here rfl ?_));by_cases c4:r.length=16
  ·refine qj omQ ?_;rw[iJ c4]at hA;subst hA;refine qX<|qY ⟨rfl,H3.drop⟩
  ·refine qV omQ ?_;rw[iQ c4]at hA;subst hA;refine qJ (qK (qQ (qZ ‹_› .here rfl ?_)));refine qD H4 e_2 rfl omQ rfl<|qr H4 rfl rfl rfl rfl λv2 h5 H5=>?_;refine jh (H5.ah e_2) (H5.sl .here) omQ omQ rfl λv3 h6 H6=>?_;have o6:=H6.one .here;refine qK (qQ (qw H6 e_2 o6 aA λh7 H7=>?_));refine qY ⟨rfl,bW.I (sv:=v3) ?_⟩;rw[List.length_append,List.flatMap_append];exact H7.pk [0,0] 2
theorem OC (hn:2≤n) (hr:r.length≤1000) (H:HS g h (bW b r::R)):af n 104 [.ptr b 0] h λv h'=>HS g h' (qF 122 2 r.length v (r.flatMap xK)::bW b r::R):=by
 refine ag rfl omQ λk hk=>?_;unfold S104;try simp only
 obtain⟨sv,H⟩:=bW.E H;refine qK (qQ (qZ ‹_› .here rfl ?_));refine qW (Y0 omQ H e_1 (QS (λ_=>rfl) _) omQ) λv h1 H1=>qY<|HS.dh e_1 (bW.I (sv:=sv) (H1.pk [1,1,0] 0))
end
def Us (x:wQ) (sv:AV):List AV:=yf x.p [sv,.bool x.bH,.int .i64 x.at_,.int .u64 x.ak]
def bZ (b:Nat) (x:wQ):SP:=.ex λsv=>.all [qx b (Us x sv),qF 122 2 x.seen.length sv (x.seen.flatMap xK)]
structure KR (x:wQ):Prop where
  p:Km x.p
  lo:0≤x.at_
  hi:x.at_≤1000
  len:x.seen.length≤16
  le:x.at_≤x.seen.length
  Hi:x.p.fin=0→x.bH=true→x.at_<x.seen.length
section
variable {n b:Nat} {x:wQ}
theorem bZ.E (H:HS g h (bZ b x::R)):∃sv,HS g h (qx b (Us x sv)::qF 122 2 x.seen.length sv (x.seen.flatMap xK)::R):=by obtain⟨sv,H⟩:=H.dj;exact⟨sv,H.bS⟩
theorem bZ.I {sv:AV} (H:HS g h (qx b (Us x sv)::qF 122 2 x.seen.length sv (x.seen.flatMap xK)::R)):HS g h (bZ b x::R):=HS.dE sv H.allI
theorem qkC {me sp:Int} {v:AV} {r:List xA} (hn:2≤n) (hr:r.length≤1000) (H:HS g h (qF 122 2 r.length v (r.flatMap xK)::R)) :
  af n 165 [.int .i64 me,.int .i64 sp,v] h λv h'=>∃b,v=.ptr b 0∧HS g h' (bZ b (Gf me sp r)::R):=by
 refine b8 rfl omQ λk hk=>?_;unfold S165;try simp only[iZ]
 refine qW (OX omQ H) ?_;rintro _ h1 ⟨rfl,H1⟩;refine qW (Y0 omQ H1 .here (QS (λ_=>rfl) _) omQ) λv h2 H2=>?_;unfold yf;have o2:=H2.one .here;refine qy (by simp only[vG,o2.1];rfl)<|qH H2 (by simp only[jV,List.all_cons,o2.2];rfl) λb h3 H3=>qY ⟨b,rfl,?_⟩;exact bZ.I (sv:=v) (H3.pk [0,0] 1)
theorem qXs (hn:2≤n) {sv:AV} (H:HS g h L) (s:aR L (qx b (Us x sv)) R):af n 218 [.ptr b 0] h λr h'=>r=.int .i64 x.p.fin∧h'=h:=by
 refine ag rfl omQ λk hk=>?_;unfold S218;try simp only
 refine qK (qQ (qW (Xl omQ H s) ?_));rintro _ _ ⟨rfl,rfl⟩;exact qY ⟨rfl,rfl⟩
theorem qyn (hn:2≤n) {sv:AV} (H:HS g h L) (s:aR L (qx b (Us x sv)) R):af n 421 [.ptr b 0] h λr h'=>r=.int .i64 x.p.bM∧h'=h:=by
 refine ag rfl omQ λk hk=>?_;unfold S421;try simp only
 refine qK (qQ (qW (RU omQ H s) ?_));rintro _ _ ⟨rfl,rfl⟩;exact qY ⟨rfl,rfl⟩
theorem Mj (hn:3≤n) {sv:AV} (H:HS g h L) (s:aR L (qx b (Us x sv)) R):af n 171 [.ptr b 0] h λr h'=>r=.int .u64 (yC x)∧h'=h:=by
 refine ag rfl omQ λk hk=>?_;unfold S171;try simp only[iZ]
 refine qW (qXs omQ H s) ?_;rintro _ _ ⟨rfl,rfl⟩;unfold yC;by_cases c:x.p.fin=2
 ·refine q9 c ?_;rw[iQ (λh=>h c)];refine qJ (qK (qQ ?_));exact qZ H s rfl (qY ⟨rfl,rfl⟩)
 ·refine jJ c ?_;rw[iJ c];refine qX<|qY ⟨rfl,rfl⟩
theorem qYo (hn:2≤n) (O:KR x) (H:HS g h (bZ b x::R)):af n 422 [.ptr b 0] h λr h'=>r=tu (QX x)∧HS g h' (bZ b x::R):=by
 refine ag rfl omQ λk hk=>?_;unfold S422;try simp only[iZ]
 obtain⟨sv,H⟩:=bZ.E H;refine qH H rfl λb0 h1 H1=>?_;refine qK (qQ (qW (Xl omQ H1 e_1) ?_));rintro _ _ ⟨rfl,rfl⟩;unfold QX;have H2:=H1;unfold Us yf at H2;by_cases c:x.p.fin=0
 ·refine q9 c ?_;rw[iQ (λh=>h c)];refine qJ (qK (qQ (qZ ‹_› e_1 rfl ?_)));cases hl:x.bH with
  |false=>rw[iJ rfl];refine jg (qX (qy rfl ?_));refine qh H1 .here rfl (by simp) rfl λh3 H3=>?_;refine qD H3 .here rfl omQ rfl<|qY ⟨rfl,bZ.I H3.drop⟩
  |true=>rw[iQ aA];refine jQ (qJ (qK (qQ (qZ ‹_› e_1 rfl ?_))));refine qK (qQ (qZ ‹_› e_1 rfl ?_));have cM:=O.Hi c hl;have dJ:=O.lo;obtain⟨k,hk⟩:∃k:Nat,x.at_=k:=⟨x.at_.toNat,by omega⟩;rw[hk]at cM ⊢;refine jU (H1.sl e_2) omQ omQ (yt omQ).1<|qy rfl<|qh H1 .here rfl (by simp) rfl λh3 H3=>?_;refine qD H3 .here rfl omQ rfl<|qY ⟨rfl,bZ.I H3.drop⟩
 ·refine jJ c ?_;rw[iJ c];refine qX (qy rfl ?_);refine qh H1 .here rfl (by simp) rfl λh3 H3=>?_;refine qD H3 .here rfl omQ rfl<|qY ⟨rfl,bZ.I H3.drop⟩
theorem XO {p:QQ} {a:cT} (hs:(qo p a).1=false):(qo p a).2=p∧p.fin=0:=by
 unfold qo at hs ⊢
 grind
theorem qqc {a:cT} (hn:3≤n) (O:KR x) (H:HS g h (bZ b x::R)):af n 423 [.ptr b 0,.agg (jI a)] h λ_ h'=>HS g h' (bZ b (xM x a)::R):=by
 refine aG rfl omQ λk hk=>?_;unfold S423;try simp only[iZ]
 generalize hF:xM x a=F;obtain⟨sv,H⟩:=bZ.E H;refine qH H rfl λb0 h1 H1=>?_;refine jq [] (λs h'=>s=(.ptr b 0,())∧∃y,F=Jw y∧y.seen.length≤16∧HS g h' (bZ b y::R)) (λj hj=>?_) ?_
 rotate_left
 ·rintro s h2 ⟨rfl,y,rfl,hy,H2⟩;obtain⟨sv,H2⟩:=bZ.E H2;have H3:=H2;unfold Us yf at H3;unfold Jw;refine qK (qQ (qZ ‹_› .here rfl ?_));refine qK (qQ (qZ ‹_› .here rfl ?_));refine qd ‹_› e_1 ?_;by_cases c:y.at_=(y.seen.length:Int)
  ·refine qj c ?_;rw[iJ c];refine qX (qK (qQ (qW (wV omQ H2) λ_ h4 H4=>?_)));refine qg<|qY (bZ.I H4)
  ·refine qV c ?_;rw[iQ c];refine qJ (qg ?_);exact qY (bZ.I H2)
 refine qK (qQ (qD H1 .here rfl omQ rfl ?_));refine qW (XG omQ (H1.ah e_1)) ?_;rintro _ h2 ⟨rfl,H2⟩;unfold xM at hF;cases hs:(qo x.p a).1 with
 |true=>rw[iJ hs]at hF;subst hF;refine qX<|qY (bZ.I (sv:=sv) (H2.pk [0,1] 1))
 |false=>
  rw[iQ (by grind)]at hF;have tx:=XO hs;rw[tx.1]at H2;have H3:HS g h2 (qx b (Us x sv)::qx b0 (jI a)::qF 122 2 x.seen.length sv (x.seen.flatMap xK)::R):=H2;have H4:=H3;unfold Us yf jI at H4;have dJ:=O.lo;have hlen:=O.len;refine qJ (qK (qQ (qZ ‹_› .here rfl ?_)));cases hl:x.bH with
  |false=>
   rw[iJ hl]at hF;refine jg (qX (qG ?_));refine qQ (qZ ‹_› e_1 rfl ?_);refine qK (qQ ?_)
   refine qw H4 .here ⟨rfl,rfl⟩ aA λh5 H5=>?_;refine qK (qQ (qw H5 .here ⟨rfl,rfl⟩ aA λh6 H6=>?_));refine qu ‹_› e_1 rfl ‹_› e_1 rfl (HS.lt ‹_› e_1)<|hj _ _ ⟨rfl,{ x with bH:=true,ak:=a.word },hF.symm,hlen,bZ.I (sv:=sv) (H6.pk [0,1] 1)⟩
  |true=>
   rw[iQ (by grind)]at hF;refine jQ (qJ (qQ (qc (qZ H4 e_1 rfl ?_))));cases hd:a.lk.2.1 with
   |true=>
    rw[iJ hd]at hF;refine qX (qG ?_);refine qK (qQ (qQ ?_))
    refine qD H4 e_1 rfl omQ rfl<|qW (KG omQ (O.p tx.2) H3) ?_;rintro _ h5 ⟨rfl,H5⟩;cases hw:(jX x.p a.lk).1 with
    |true=>rw[iJ hw]at hF;subst hF;refine jQ (qJ (qg ?_));exact qY (bZ.I (sv:=sv) (H5.pk [0,1] 1))
    |false=>rw[iQ (by grind)]at hF;subst hF;have H6:=H5;unfold jI at H6;refine jg (qX (qK (qQ (qQ (qc (qZ H6 e_1 rfl ?_))))));refine qW (wV omQ H5) λ_ h7 H7=>?_;refine qg<|qY (bZ.I (sv:=sv) (H7.pk [0,1] 1))
   |false=>
    rw[iQ (by grind)]at hF;refine qJ (qQ (qc (qZ H4 e_1 rfl ?_)));refine qK (qQ (qZ ‹_› .here rfl ?_));refine qK (qQ (qZ ‹_› .here rfl ?_));have cM:=O.Hi tx.2 hl;obtain⟨k,hk⟩:∃k:Nat,x.at_=k:=⟨x.at_.toNat,by omega⟩;rw[hk]at cM ⊢;rw[hk]at hF;refine jU (H3.sl e_2) omQ omQ (yt omQ).2 ?_;by_cases c:a.lk.1=(zL x.seen k).2
    ·refine q9 c ?_;rw[iQ (λh=>h c)]at hF;refine qJ (qK (qQ (qZ ‹_› .here rfl ?_)));refine qS omQ<|qK (qQ ?_);rw[hk]
     skip
     refine qw H4 .here ⟨rfl,rfl⟩ aA λh5 H5=>?_;exact hj _ _ ⟨rfl,{ x with at_:=(k:Int)+1 },hF.symm,hlen,bZ.I (sv:=sv) (H5.pk [0,1] 1)⟩
    ·refine jJ c ?_;rw[iJ c,← hk]at hF;subst hF;refine qX (qK (qQ (qW (wV omQ H3) λ_ h7 H7=>?_)));exact qY (bZ.I (sv:=sv) (H7.pk [0,1] 1))
end
end
section
variable {g h:AH} {L R:List SP}
structure ComL (c:zG):Prop where
  seen:c.seen.length≤16
  cells:c.cells.length≤1000
  s:c.s.length≤16
  az:c.az.length≤c.s.length
  pos:0<c.s.length
  dx:c.s.Pairwise (· < ·)
  lo:0≤c.at_
  hi:c.at_≤1000
  now:0≤c.now∧c.now<9223372036854775807
def zh (fin spins state at_ now bE:Int) (sl cl tl wl:Nat):Prop :=
 (sl≤16∧cl≤1000∧tl≤16∧wl≤tl∧0<tl∧0≤at_∧at_≤1000∧0≤now∧now<9223372036854775807∧0≤state∧state≤7)∧(fin=0→state≤6→0≤spins∧spins≤4)∧(fin=0→state≤1→wl<tl)∧(state≤4→at_≤sl)∧
 (2≤state→state≤6→wl=tl)∧(fin=0→state=4→at_<sl)∧(fin=0→state=5→at_<cl)∧(fin=0→state=6→at_<tl)∧(fin=0→state=7→at_<wl)∧(state=7→bE≠0)
structure xY (c:zG):Prop where
  dx:c.s.Pairwise (· < ·)
  ar:zh c.p.fin c.p.spins c.state c.at_ c.now c.bE c.seen.length c.cells.length c.s.length c.az.length
section
variable {c:zG} (O:xY c)
include O
theorem xY.toComL:ComL c:=by have h:=O.ar;unfold zh at h;exact⟨by omega,by omega,by omega,by omega,by omega,O.dx,by omega,by omega,by omega⟩
theorem xY.p (hg:c.p.fin=0) (hs:c.state≤6):0≤c.p.spins∧c.p.spins≤4:=by have h:=O.ar;grind[zh]
theorem xY.iN (hg:c.p.fin=0) (hs:c.state≤1):c.az.length<c.s.length:=by have h:=O.ar;grind[zh]
theorem xY.I5 (h1:2≤c.state) (h2:c.state≤4):c.az.length=c.s.length∧c.at_≤c.seen.length:=by have h:=O.ar;grind[zh]
theorem xY.I6 (hg:c.p.fin=0) (hs:c.state=4):c.at_<c.seen.length:=by have h:=O.ar;grind[zh]
theorem xY.RY (hg:c.p.fin=0) (hs:c.state=5):c.at_<c.cells.length:=by have h:=O.ar;grind[zh]
theorem xY.RZ (hg:c.p.fin=0) (hs:c.state=6):c.at_<c.s.length:=by have h:=O.ar;grind[zh]
theorem xY.R0 (hg:c.p.fin=0) (hs:c.state=7):c.at_<c.az.length:=by have h:=O.ar;grind[zh]
theorem xY.st:0≤c.state∧c.state≤7:=by have h:=O.ar;grind[zh]
theorem xY.s:c.s.length≤16:=O.toComL.s
theorem xY.az:c.az.length≤c.s.length:=O.toComL.az
theorem xY.seen:c.seen.length≤16:=O.toComL.seen
theorem xY.lo:0≤c.at_:=O.toComL.lo
theorem xY.hi:c.at_≤1000:=O.toComL.hi
theorem xY.now:0≤c.now∧c.now<9223372036854775807:=O.toComL.now
end
theorem qje:∀{s:List Int} {az:List dI} {x:Int},s.Pairwise (· < ·)→az.length=s.length→KH s az x=if x∈s then some (yP az (s.countP (· <x):Nat)).1 else none:=by
 intro s
 induction s with
 |nil=>intro az x _ _;rfl
 |cons y s ih=>
  intro az x hp hl;cases az with
  |nil=>grind
  |cons w az=>
   have h1:=List.pairwise_cons.1 hp;unfold KH;by_cases e:y=x
   ·subst e;rw[iJ rfl,iJ (iK ..),List.countP_cons,List.countP_eq_zero.2 (λa ha=>by grind),iV omQ];rfl
   ·rw[iQ e,ih h1.2 (by grind)];by_cases hm:x∈s
    ·simp_all[iG,yP]
    grind
theorem qgH {s:List Int} {x:Int} (_:s.Pairwise (· < ·)) (h:x∈s):s.countP (· <x)<s.length:=by
 grind[Nat.lt_or_ge,List.countP_eq_length,Nat.le_antisymm,List.countP_le_length]
def Qf (c:zG) (sv cv tv wv:AV):List AV:=yf c.p [.int .i64 c.me,.int .u64 c.ak,sv,cv,tv,wv,.int .i64 c.state,.int .i64 c.at_,.int .u64 c.lk.1,.bool c.lk.2.1,.int .i64 c.lk.2.2,.int .u64 c.now,.bool c.writing,.int .i64 c.bE,.int .i64 c.pF,.int .i64 c.fJ]
def ao (b:Nat) (c:zG):SP:=.ex λq:AV×AV×AV×AV=>.all [qx b (Qf c q.1 q.2.1 q.2.2.1 q.2.2.2),qF 122 2 c.seen.length q.1 (c.seen.flatMap xK),qF 129 2 c.cells.length q.2.1 (c.cells.flatMap jH),
 qF 3 1 c.s.length q.2.2.1 (c.s.map (.int .i64)),qF 54 3 c.az.length q.2.2.2 (c.az.flatMap jS)]
section
variable {n b:Nat} {c:zG} {sv cv tv wv:AV}
theorem ao.E (H:HS g h (ao b c::R)):∃sv cv tv wv,HS g h (qx b (Qf c sv cv tv wv)::qF 122 2 c.seen.length sv (c.seen.flatMap xK)::qF 129 2 c.cells.length cv (c.cells.flatMap jH)::
  qF 3 1 c.s.length tv (c.s.map (.int .i64))::qF 54 3 c.az.length wv (c.az.flatMap jS)::R):=by
 obtain⟨⟨sv,cv,tv,wv⟩,H⟩:=H.dj;exact⟨sv,cv,tv,wv,H.bS⟩
theorem ao.I (H:HS g h (qx b (Qf c sv cv tv wv)::qF 122 2 c.seen.length sv (c.seen.flatMap xK)::qF 129 2 c.cells.length cv (c.cells.flatMap jH)::
  qF 3 1 c.s.length tv (c.s.map (.int .i64))::qF 54 3 c.az.length wv (c.az.flatMap jS)::R)):HS g h (ao b c::R):=HS.dE (sv,cv,tv,wv) H.allI
theorem Z5 (hn:2≤n) (H:HS g h (ao b c::R)):af n 432 [.ptr b 0] h λ_ h'=>HS g h' (ao b (yU c)::R):=by
 refine ag rfl omQ λk hk=>?_;unfold S432;try simp only[iZ]
 obtain⟨sv,cv,tv,wv,H⟩:=ao.E H;have H1:=H;unfold Qf yf at H1;unfold yU;refine qK (qQ (qZ ‹_› .here rfl ?_));refine qK (qQ (qZ ‹_› .here rfl ?_));refine qd ‹_› e_3 ?_;by_cases c0:c.at_=(c.s.length:Int)
 ·refine qj c0 ?_;rw[iJ c0];refine qX (qK (qQ (qW (wV omQ H) λ_ h2 H2=>?_)));exact qY (ao.I H2)
 ·refine qV c0 ?_;rw[iQ c0];refine qJ<|qY (ao.I H)
theorem M3 (hn:3≤n) (H:HS g h (ao b c::R)):af n 431 [.ptr b 0] h λ_ h'=>HS g h' (ao b (yw c)::R):=by
 refine ag rfl omQ λk hk=>?_;unfold S431;try simp only[iZ]
 obtain⟨sv,cv,tv,wv,H⟩:=ao.E H;have H1:=H;unfold Qf yf at H1;unfold yw;refine qK (qQ (qZ ‹_› .here rfl ?_));refine qK (qQ (qZ ‹_› .here rfl ?_));refine qd ‹_› e_2 ?_;by_cases c0:c.at_=(c.cells.length:Int)
 ·refine qj c0 ?_;rw[iJ c0];refine qX (qK (qQ (qw H1 .here ⟨rfl,rfl⟩ aA λh2 H2=>?_)));refine qK (qQ (qw H2 .here ⟨rfl,rfl⟩ aA λh3 H3=>?_));refine qW (Z5 omQ (ao.I H3)) λ_ h4 H4=>qY H4
 ·refine qV c0 ?_;rw[iQ c0];refine qJ<|qY (ao.I H)
theorem MD (hn:4≤n) (H:HS g h (ao b c::R)):af n 427 [.ptr b 0] h λ_ h'=>HS g h' (ao b (vn c)::R):=by
 refine ag rfl omQ λk hk=>?_;unfold S427;try simp only[iZ]
 obtain⟨sv,cv,tv,wv,H⟩:=ao.E H;unfold Qf yf at H;refine qK (qQ (qw H .here ⟨rfl,rfl⟩ aA λh2 H2=>?_));refine qK (qQ (qw H2 .here ⟨rfl,rfl⟩ aA λh3 H3=>?_));refine qK (qQ (qw H3 .here ⟨rfl,rfl⟩ aA λh4 H4=>?_));refine qW (M3 omQ (ao.I H4)) λ_ h5 H5=>qY H5
theorem Mk (hn:2≤n) (H:HS g h (ao b c::R)):af n 433 [.ptr b 0] h λ_ h'=>HS g h' (ao b (yv c)::R):=by
 refine ag rfl omQ λk hk=>?_;unfold S433;try simp only
 obtain⟨sv,cv,tv,wv,H⟩:=ao.E H;have H1:=H;unfold Qf yf at H1;unfold yv;refine qK (qQ (qZ ‹_› .here rfl ?_));refine qK (qQ (qZ ‹_› .here rfl ?_));refine qd ‹_› e_4 ?_;by_cases c0:c.at_=(c.az.length:Int)
 ·refine qj c0 ?_;rw[iJ c0];refine qX (qK (qQ (qK (qQ (qZ ‹_› .here rfl ?_)))));refine qK (qQ (qZ ‹_› .here rfl ?_));refine qK (qQ (qZ ‹_› .here rfl ?_));refine qW (wV omQ H) λ_ h2 H2=>?_;exact qY (ao.I H2)
 ·refine qV c0 ?_;rw[iQ c0];refine qJ<|qY (ao.I H)
theorem GK {f e y:Int} (hn:3≤n) (H:HS g h (ao b c::R)):af n 435 [.ptr b 0,.int .i64 f,.int .i64 e,.int .i64 y] h λ_ h'=>HS g h' (ao b (gK c f e y)::R):=by
 refine ra rfl omQ λk hk=>?_;unfold S435;try simp only[iZ]
 obtain⟨sv,cv,tv,wv,H⟩:=ao.E H;unfold Qf yf at H;refine qK (qQ (qw H .here ⟨rfl,rfl⟩ aA λh2 H2=>?_));refine qK (qQ (qw H2 .here ⟨rfl,rfl⟩ aA λh3 H3=>?_));refine qK (qQ (qw H3 .here ⟨rfl,rfl⟩ aA λh4 H4=>?_));refine qK (qQ (qw H4 .here ⟨rfl,rfl⟩ aA λh5 H5=>?_));refine qK (qQ (qw H5 .here ⟨rfl,rfl⟩ aA λh6 H6=>?_));refine qW (Mk omQ (ao.I H6)) λ_ h5 H5=>qY H5
theorem qQs (hn:1≤n) (H:HS g h (ao b c::R)):af n 169 [.ptr b 0] h λ_ h'=>HS g h' (ao b (kt c)::R):=by
 refine ag rfl omQ λk hk=>?_;unfold S169;try simp only[iZ]
 obtain⟨sv,cv,tv,wv,H⟩:=ao.E H;unfold Qf yf at H;unfold kt;refine qK (qQ (qw H .here ⟨rfl,rfl⟩ aA λh2 H2=>?_));refine qK (qQ (qZ ‹_› .here rfl ?_));refine qd ‹_› e_4<|qK (qQ (qZ ‹_› .here rfl ?_));refine qd ‹_› e_3 ?_;by_cases c0:c.az.length=c.s.length
 ·refine qj omQ ?_;rw[iJ c0];refine qX (qK (qQ (qw H2 .here ⟨rfl,rfl⟩ aA λh3 H3=>?_)));exact qY (ao.I H3)
 ·refine qV omQ ?_;rw[iQ c0];refine qJ<|qY (ao.I H2)
theorem Oo {l:dI} (hn:4≤n) (hp:0≤c.p.spins∧c.p.spins≤4) (H:HS g h (ao b c::R)):af n 434 [.ptr b 0,.agg (jS l)] h λ_ h'=>HS g h' (ao b (yo c l)::R):=by
 refine aG rfl omQ λk hk=>?_;unfold S434;try simp only[iZ]
 obtain⟨sv,cv,tv,wv,H⟩:=ao.E H;refine qH H rfl λb0 h1 H1=>?_;unfold yo;refine qK (qQ (qD H1 .here rfl omQ rfl ?_));refine qW (KG omQ hp (H1.ah e_1)) ?_;rintro _ h2 ⟨rfl,H2⟩;have H3:HS g h2 (ao b { c with p:=(jX c.p l).2 }::qx b0 (jS l)::R):=ao.I (sv:=sv) (cv:=cv) (tv:=tv) (wv:=wv) (H2.pk [0,1,1,1,1] 0);cases hw:(jX c.p l).1 with
 |true=>rw[iJ rfl];refine jQ (qJ ?_);exact qY (H3.pk [0] 1)
 |false=>rw[iQ aA];unfold jS at H3;refine jg (qX (qQ (qZ ‹_› e_1 rfl ?_)));refine qW (GK omQ H3) λ_ h4 H4=>?_;exact qY (H4.pk [0] 1)
theorem NZ (hn:5≤n) (O:ComL c) (hw:c.az.length=c.s.length) (ha:c.at_≤c.seen.length) (H:HS g h (ao b c::R)):af n 436 [.ptr b 0] h λ_ h'=>HS g h' (ao b (gC c)::R):=by
 refine ag rfl omQ λk hk=>?_;unfold S436;try simp only[iZ]
 generalize hF:gC c=F;unfold gC at hF;obtain⟨sv,cv,tv,wv,H⟩:=ao.E H;unfold Qf yf at H;have l1:=O.seen;have l2:=O.s;have l3:=O.pos;have l4:=O.lo;refine qK (qQ (qw H .here ⟨rfl,rfl⟩ aA λh2 H2=>?_));have H2:HS g h2 (ao b { c with state:=4 }::R):=ao.I H2;refine jF (λm s h'=>s=(.ptr b 0,())∧∃a:Int,xo { c with state:=4,at_:=a } m=F∧0≤a∧a≤c.seen.length∧c.seen.length<a+m∧HS g h' (ao b { c with state:=4,at_:=a }::R))
  ?_ omQ ⟨rfl,c.at_,hF,l4,ha,by omega,H2⟩
 clear H H2 hF;rintro m ih s h3 aY ⟨rfl,a,hF,ha0,ha,hm,H⟩;obtain⟨m,rfl⟩:∃k,m=k+1:=⟨m-1,by omega⟩;unfold xo at hF;dsimp only at hF;obtain⟨sv,cv,tv,wv,H⟩:=ao.E H;have H1:=H;unfold Qf yf at H1;dsimp only at H1;refine qK (qQ (qZ ‹_› .here rfl ?_));refine qK (qQ (qZ ‹_› .here rfl ?_));refine qd ‹_› e_1 ?_;by_cases ae:a<c.seen.length
 ·refine jB ae ?_;rw[iJ ae]at hF;obtain⟨k,rfl⟩:∃k:Nat,a=k:=⟨a.toNat,by omega⟩;refine qX (qK (qQ (qZ ‹_› .here rfl ?_)));refine qK (qQ (qZ ‹_› .here rfl ?_));refine qK (qQ (qZ ‹_› .here rfl ?_));refine jU (H.sl e_1) omQ (by grind) (yt (by grind)).1<|qW (qxc omQ H1 e_3 l3 omQ (O.dx.imp λh=>by omega)) ?_;rintro _ _ ⟨rfl,rfl⟩;rw[qje O.dx hw]at hF;by_cases hc:(zL c.seen k).1∈c.s
  ·rw[iJ hc]at hF;dsimp only at hF;rw[show c.s.contains (zL c.seen k).1=true from List.contains_iff_mem.2 hc];have Rq:=qgH O.dx hc;refine qA rfl<|qA rfl<|jQ (qJ (qK (qQ (qZ ‹_› .here rfl ?_))));refine jU (x:=.int .u64 (yP c.az (c.s.countP (· <(zL c.seen k).1):Nat)).1) (H.sl e_4) omQ (Nat.lt_of_lt_of_eq Rq hw.symm) ?_ ?_
   ·have:=congrArg (·[0]?) (JN (l:=c.az) (k:=c.s.countP (· <(zL c.seen k).1)) omQ);simp only[List.getElem?_take_of_lt (show 0<3 by omega),List.getElem?_drop]at this;trivial
   refine qK (qQ (qZ ‹_› .here rfl ?_));refine qK (qQ (qZ ‹_› .here rfl ?_));refine jU (H.sl e_1) omQ (by grind) (yt (by grind)).2 ?_;by_cases hv:(yP c.az (c.s.countP (· <(zL c.seen k).1):Nat)).1=(zL c.seen k).2
   ·refine q9 hv ?_;rw[iQ (λh=>h hv)]at hF;refine qJ (qK (qQ (qZ ‹_› .here rfl ?_)));refine qS omQ<|qK (qQ (qw H1 (b:=b) .here ⟨rfl,rfl⟩ aA λh4 H4=>?_));exact aY m _ _ omQ ⟨rfl,(k:Int)+1,hF,by omega,by omega,by omega,ao.I (c:={ c with state:=4,at_:=(k:Int)+1 }) H4⟩
   ·refine jJ hv ?_;rw[iJ hv]at hF;subst hF;refine qX (qW (GK omQ (ao.I H)) λ_ h4 H4=>?_);refine qg<|qY H4
  ·rw[iQ hc]at hF;dsimp only at hF;subst hF;rw[show c.s.contains (zL c.seen k).1=false from by grind];refine qA rfl<|qA rfl<|jg (qX (qg ?_));exact qY (ao.I H)
 ·refine jk ae ?_;rw[iQ ae]at hF;subst hF;refine qJ (qW (MD omQ (ao.I H)) λ_ h4 H4=>?_);refine qg<|qY H4
end
end
section
variable {g h:AH} {L R:List SP}
section
variable {n b:Nat} {c:zG} {sv cv tv wv:AV} {a:cT}
theorem qZS {l:dI} (hn:6≤n) (O:xY c) (hg:c.p.fin=0) (h4:c.state=4) (H:HS g h (ao b c::R)):af n 430 [.ptr b 0,.agg (jS l)] h λ_ h'=>HS g h' (ao b (yR c l)::R):=by
 refine aG rfl omQ λk hk=>?_;unfold S430;try simp only[iZ]
 generalize hF:yR c l=F;refine qH H rfl λb0 h1 H1=>?_;refine jq [] (λ_ h'=>HS g h' (ao b F::R)) (λj hj=>?_) λ_ h' H'=>?_
 rotate_left
 ·refine qg<|qY H'
 unfold yR at hF;have H2:=H1;unfold jS at H2;refine qQ (qZ ‹_› .here rfl ?_);cases hd:l.2.1 with
 |true=>rw[iJ hd]at hF;subst hF;refine qX (qD H1 .here rfl omQ rfl ?_);refine qW (Oo omQ (O.p hg omQ) (H1.ah e_1)) λ_ h3 H3=>?_;exact hj _ _ (H3.pk [0] 1)
 |false=>
  rw[iQ (by grind)]at hF;obtain⟨sv,cv,tv,wv,H3⟩:=ao.E (H2.ah e_1);have H4:=H3;unfold Qf yf at H4;have ae:=O.I6 hg h4;have dJ:=O.lo;have l1:=O.seen;obtain⟨k,hk⟩:∃k:Nat,c.at_=k:=⟨c.at_.toNat,by omega⟩;refine qJ (qQ (qZ ‹_› e_5 rfl ?_));refine qK (qQ (qZ ‹_› .here rfl ?_));refine qK (qQ (qZ ‹_› .here rfl ?_));rw[hk]at hF ae ⊢;refine jU (H3.sl e_1) omQ omQ (yt omQ).2 ?_;by_cases c0:l.1=(zL c.seen k).2
  ·refine q9 c0 ?_;rw[iQ (λh=>h c0)]at hF;subst hF;refine qJ (qK (qQ (qZ ‹_› .here rfl ?_)));refine qS omQ<|qK (qQ ?_);rw[hk]
   skip
   refine qw H4 .here ⟨rfl,rfl⟩ aA λh5 H5=>?_;refine qW (NZ (c:={ c with at_:=(k:Int)+1 }) omQ { O.toComL with lo:=(by grind),hi:=(by grind) } (O.I5 omQ omQ).1 (by grind) (ao.I H5)) λ_ h6 H6=>?_;exact hj _ _ (H6.pk [0] 1)
  ·refine jJ c0 ?_;rw[iJ c0]at hF;subst hF;refine qX (qW (GK omQ (ao.I H3)) λ_ h6 H6=>?_);exact hj _ _ (H6.pk [0] 1)
theorem ZW (hn:5≤n) (O:xY c) (hg:c.p.fin=0) (H:HS g h (ao b c::R)):af n 428 [.ptr b 0,.agg (jI a)] h λ_ h'=>HS g h' (ao b (gW c a)::R):=by
 refine aG rfl omQ λk hk=>?_;unfold S428;try simp only[iZ]
 generalize hF:gW c a=F;refine qH H rfl λb0 h1 H1=>?_;refine jq [] (λ_ h'=>HS g h' (ao b F::R)) (λj hj=>?_) λ_ h' H'=>?_
 rotate_left
 ·refine qg<|qY H'
 unfold gW at hF;obtain⟨sv,cv,tv,wv,H2⟩:=ao.E (H1.ah e_1);have H3:=H2;unfold Qf yf jI at H3;have l1:=O.s;have l2:=O.az;refine qK (qQ (qZ ‹_› .here rfl ?_));by_cases c0:c.state=0
 ·refine qj c0<|qG<|qR<|qQ ?_
  refine qc (qZ H3 e_5 rfl ?_);cases hd:a.lk.2.1 with
  |true=>rw[iJ ⟨c0,hd⟩]at hF;subst hF;refine qC (qX (qQ (qD H1 .here rfl omQ rfl ?_)));refine qW (Oo omQ (O.p hg omQ) (H1.ah e_1)) λ_ h3 H3=>?_;exact hj _ _ (H3.pk [0] 1)
  |false=>rw[iQ (λh=>by grind),iJ c0]at hF;subst hF;refine qC (qJ (qK (qQ (qZ ‹_› .here rfl ?_))));refine qj omQ<|qX (qQ (qD H1 .here rfl omQ rfl ?_));refine qK (qQ (qh H3 .here rfl (by simp) rfl λh5 H5=>?_));refine qK (qQ (qw H5 .here ⟨rfl,rfl⟩ (by simp[wL]) λh6 H6=>?_));have H7:HS g h6 (ao b { c with lk:=a.lk,state:=1 }::qx b0 (jI a)::R):=ao.I (sv:=sv) (cv:=cv) (tv:=tv) (wv:=wv) H6;exact hj _ _ (H7.pk [0] 1)
 ·refine qV c0 ?_;rw[iQ (λh=>c0 h.1),iQ c0]at hF;refine qG<|qT<|qB (qJ (qK (qQ (qZ ‹_› .here rfl ?_))));refine qV omQ<|qJ (qQ (qZ ‹_› e_5 rfl ?_))
  cases hd:a.done with
  |true=>
   rw[iJ hd]at hF;subst hF;refine qX (qK (qQ (qZ ‹_› .here rfl ?_)));refine qK (qQ (qD H3 .here rfl omQ rfl ?_));refine qr H3 rfl rfl rfl rfl λv2 h5 H5=>?_;refine jh (H5.ah e_5) (H5.sl .here) omQ omQ rfl λv3 h6 H6=>?_;have o6:=H6.one .here;refine qK (qQ (qw H6 e_2 o6 aA λh7 H7=>?_));have H8:HS g h7 (ao b { c with az:=c.az++[c.lk] }::qx b0 (jI a)::R):=by refine ao.I (sv:=sv) (cv:=cv) (tv:=tv) (wv:=v3) ?_;rw[List.length_append,List.flatMap_append];exact H7.pk [0,2,2,2,0] 1
   refine qW (qQs omQ H8) λ_ h9 H9=>?_;exact hj _ _ (H9.pk [0] 1)
  |false=>rw[iQ (by grind)]at hF;subst hF;refine qJ (qK (qQ (qw H3 .here ⟨rfl,rfl⟩ aA λh6 H6=>?_)));have H7:HS g h6 (ao b { c with state:=0 }::qx b0 (jI a)::R):=ao.I (sv:=sv) (cv:=cv) (tv:=tv) (wv:=wv) H6;exact hj _ _ (H7.pk [0] 1)
theorem Ms (hn:6≤n) (O:xY c) (oG:c.state=2∨c.state=3) (H:HS g h (ao b c::R)):af n 429 [.ptr b 0,.agg (jI a)] h λ_ h'=>HS g h' (ao b (vo c a)::R):=by
 refine aG rfl omQ λk hk=>?_;unfold S429;try simp only[iZ]
 generalize hF:vo c a=F;refine qH H rfl λb0 h1 H1=>?_;refine jq [] (λ_ h'=>HS g h' (ao b F::R)) (λj hj=>?_) λ_ h' H'=>?_
 rotate_left
 ·refine qg<|qY H'
 unfold vo at hF;obtain⟨sv,cv,tv,wv,H2⟩:=ao.E (H1.ah e_1);have H3:=H2;unfold Qf yf jI at H3;refine qK (qQ (qZ ‹_› .here rfl ?_));by_cases c0:c.state=2
 ·refine qj c0<|qG<|qR<|qQ (qZ ‹_› e_5 rfl ?_)
  by_cases c1:4611686018427387903≤a.word
  ·refine jA omQ ?_;rw[iJ ⟨c0,c1⟩]at hF;subst hF;refine qC (qX (qW (GK omQ (ao.I H2)) λ_ h6 H6=>?_));exact hj _ _ (H6.pk [0] 1)
  ·refine jz omQ ?_;rw[iQ (λh=>c1 h.2),iJ c0]at hF;subst hF;refine qC (qJ (qK (qQ (qZ ‹_› .here rfl ?_))));refine qj omQ<|qX (qQ (qZ ‹_› e_5 rfl ?_));refine qK (qQ (qw H3 .here ⟨rfl,rfl⟩ aA λh6 H6=>?_));refine qK (qQ (qw H6 .here ⟨rfl,rfl⟩ aA λh7 H7=>?_));have H8:HS g h7 (ao b { c with now:=a.word,state:=3 }::qx b0 (jI a)::R):=ao.I (sv:=sv) (cv:=cv) (tv:=tv) (wv:=wv) H7;exact hj _ _ (H8.pk [0] 1)
 ·refine qV c0 ?_;rw[iQ (λh=>c0 h.1),iQ c0]at hF;have h3:=O.I5 omQ omQ;refine qG<|qT<|qB (qJ (qK (qQ (qZ ‹_› .here rfl ?_))));refine qV omQ<|qJ (qQ (qZ ‹_› e_5 rfl ?_))
  cases hd:a.done with
  |false=>rw[iJ hd]at hF;subst hF;refine jg (qX (qK (qQ (qw H3 .here ⟨rfl,rfl⟩ aA λh6 H6=>?_))));have H7:HS g h6 (ao b { c with state:=2 }::qx b0 (jI a)::R):=ao.I (sv:=sv) (cv:=cv) (tv:=tv) (wv:=wv) H6;exact hj _ _ (H7.pk [0] 1)
  |true=>
   rw[iQ (by grind)]at hF;refine jQ (qJ (qK (qQ (qZ ‹_› .here rfl ?_))));refine qK (qQ (qZ ‹_› .here rfl ?_));by_cases c1:c.now=c.ak
   ·refine qj c1 ?_;rw[iJ c1]at hF;subst hF;refine qX (qW (MD omQ (ao.I H2)) λ_ h6 H6=>?_);exact hj _ _ (H6.pk [0] 1)
   ·refine qV c1 ?_;rw[iQ c1]at hF;subst hF;refine qJ (qW (NZ omQ O.toComL h3.1 h3.2 (ao.I H2)) λ_ h6 H6=>?_);exact hj _ _ (H6.pk [0] 1)
theorem qxe (hn:7≤n) (O:xY c) (H:HS g h (ao b c::R)):af n 426 [.ptr b 0,.agg (jI a)] h λ_ h'=>HS g h' (ao b (zD c a)::R):=by
 refine aG rfl omQ λk hk=>?_;unfold S426;try simp only[iZ]
 generalize hF:zD c a=F;refine qH H rfl λb0 h1 H1=>?_;obtain⟨sv,cv,tv,wv,H2⟩:=ao.E (H1.ah e_1);have dJ:=O.lo;have iC:=O.hi;have bK:=O.st;unfold zD at hF;refine qK (qQ (qD H1 .here rfl omQ rfl ?_));refine qW (XG omQ H2) ?_;rintro _ h2 ⟨rfl,H3⟩;cases hs:(qo c.p a).1 with
 |true=>rw[iJ hs]at hF;subst hF;refine qX ?_;have H4:HS g h2 (ao b { c with p:=(qo c.p a).2 }::qx b0 (jI a)::R):=ao.I (sv:=sv) (cv:=cv) (tv:=tv) (wv:=wv) H3;exact qY (H4.pk [0] 1)
 |false=>
  rw[iQ (by grind)]at hF;have tx:=XO hs;rw[tx.1]at H3;have hg:=tx.2;have H2:HS g h2 (ao b c::qx b0 (jI a)::R):=ao.I (sv:=sv) (cv:=cv) (tv:=tv) (wv:=wv) H3
  have H4:HS g h2 (qx b (Qf c sv cv tv wv)::qF 122 2 c.seen.length sv (c.seen.flatMap xK)::qF 129 2 c.cells.length cv (c.cells.flatMap jH)::
   qF 3 1 c.s.length tv (c.s.map (.int .i64))::qF 54 3 c.az.length wv (c.az.flatMap jS)::qx b0 (jI a)::R):=H3
  unfold Qf yf at H4;refine qJ (qK (qc (qZ H4 .here rfl ?_)));refine jq [] (λ_ h'=>HS g h' (ao b F::R)) (λj hj=>?_) λ_ h' H'=>?_
  rotate_left
  ·refine qg<|qY H'
  by_cases c0:c.state=0∨c.state=1
  ·rw[iJ c0]at hF;subst hF;rcases c0 with c0 |c0
   ·refine qG<|qj omQ<|qX (qX ?_)
    refine qD H3 e_5 rfl omQ rfl<|qW (ZW omQ O hg H2) λ_ h6 H6=>?_;exact hj _ _ (H6.pk [0] 1)
   ·refine qG<|qV omQ<|qJ (qj omQ ?_);refine qX ?_
    refine qD H3 e_5 rfl omQ rfl<|qW (ZW omQ O hg H2) λ_ h6 H6=>?_;exact hj _ _ (H6.pk [0] 1)
  rw[iQ c0]at hF;by_cases c1:c.state=2∨c.state=3
  ·rw[iJ c1]at hF;subst hF;have c2:=c1;rcases c1 with c1' |c1'
   ·refine qG<|qV omQ<|qJ (qV omQ ?_);refine qJ (qG ?_);refine qj omQ<|qX (qX ?_)
    refine qD H3 e_5 rfl omQ rfl<|qW (Ms omQ O c2 H2) λ_ h6 H6=>?_;exact hj _ _ (H6.pk [0] 1)
   ·refine qG<|qV omQ<|qJ (qV omQ ?_);refine qJ (qG ?_);refine qV omQ<|qJ (qj omQ ?_);refine qX ?_
    refine qD H3 e_5 rfl omQ rfl<|qW (Ms omQ O c2 H2) λ_ h6 H6=>?_;exact hj _ _ (H6.pk [0] 1)
  rw[iQ c1]at hF;by_cases c4:c.state=4
  ·rw[iJ c4]at hF;subst hF;refine qG<|qV omQ<|qJ (qV omQ ?_);refine qJ (qG ?_);refine qV omQ<|qJ (qV omQ ?_);refine qJ (qj omQ ?_);refine qX (qQ ?_)
   refine qD H3 e_5 rfl omQ rfl<|qW (qZS omQ O hg c4 H2) λ_ h6 H6=>?_;exact hj _ _ (H6.pk [0] 1)
  rw[iQ c4]at hF;by_cases c5:c.state=5
  ·rw[iJ c5]at hF;subst hF;refine qG<|qV omQ<|qJ (qV omQ ?_);refine qJ (qG ?_);refine qV omQ<|qJ (qV omQ ?_);refine qJ (qV omQ ?_);refine qJ (qj omQ ?_);refine qX (qK (qQ (qZ ‹_› .here rfl ?_)));refine qS omQ<|qK (qQ ?_)
   refine qw H4 .here ⟨rfl,rfl⟩ aA λh5 H5=>?_;have H6:HS g h5 (ao b { c with at_:=c.at_+1 }::qx b0 (jI a)::R):=ao.I (sv:=sv) (cv:=cv) (tv:=tv) (wv:=wv) H5;refine qW (M3 omQ H6) λ_ h6 H6=>?_;exact hj _ _ (H6.pk [0] 1)
  rw[iQ c5]at hF;by_cases c6:c.state=6
  ·rw[iJ c6]at hF;subst hF;refine qG<|qV omQ<|qJ (qV omQ ?_);refine qJ (qG ?_);refine qV omQ<|qJ (qV omQ ?_);refine qJ (qV omQ ?_);refine qJ (qV omQ ?_);refine qJ (qj omQ ?_);refine qX (qK (qQ (qZ ‹_› .here rfl ?_)));refine qS omQ<|qK (qQ ?_)
   refine qw H4 .here ⟨rfl,rfl⟩ aA λh5 H5=>?_;have H6:HS g h5 (ao b { c with at_:=c.at_+1 }::qx b0 (jI a)::R):=ao.I (sv:=sv) (cv:=cv) (tv:=tv) (wv:=wv) H5;refine qW (Z5 omQ H6) λ_ h6 H6=>?_;exact hj _ _ (H6.pk [0] 1)
  rw[iQ c6]at hF;subst hF;refine qG<|qV omQ<|qJ (qV omQ ?_);refine qJ (qG ?_);refine qV omQ<|qJ (qV omQ ?_);refine qJ (qV omQ ?_);refine qJ (qV omQ ?_);refine qJ (qV omQ ?_);refine qJ (qj omQ ?_);refine qX (qK (qQ (qZ ‹_› .here rfl ?_)));refine qS omQ<|qK (qQ ?_)
  refine qw H4 .here ⟨rfl,rfl⟩ aA λh5 H5=>?_;have H6:HS g h5 (ao b { c with at_:=c.at_+1 }::qx b0 (jI a)::R):=ao.I (sv:=sv) (cv:=cv) (tv:=tv) (wv:=wv) H5;refine qW (Mk omQ H6) λ_ h6 H6=>?_;exact hj _ _ (H6.pk [0] 1)
end
end
section
variable {g h:AH} {L R:List SP}
theorem Gb {l:List Cl} {k:Nat} (hk:k<l.length):(l.flatMap jH)[k*2+0]? =some (.int .i64 (ka l (k:Int)).1)∧(l.flatMap jH)[k*2+1]? =some (.int .u64 (ka l (k:Int)).2):=by
 have e:((l.flatMap jH).drop (k*2)).take 2=jH (ka l (k:Int)):=gO (enc:=jH) (λ_=>rfl) (by simp_all[ka,Int.toNat_natCast]);constructor
 ·have:=congrArg (·[0]?) e;simp only[List.getElem?_take_of_lt (show 0<2 by omega),List.getElem?_drop]at this;trivial
 ·have:=congrArg (·[1]?) e;simp only[List.getElem?_take_of_lt (show 1<2 by omega),List.getElem?_drop]at this;trivial
section
variable {n b:Nat} {c:zG} {sv cv tv wv:AV}
theorem UZ (hn:2≤n) (H:HS g h (ao b c::R)):af n 92 [.ptr b 0] h λr h'=>r=.int .i64 c.p.fin∧h'=h:=by
 refine ag rfl omQ λk hk=>?_;unfold S92;try simp only
 obtain⟨sv,cv,tv,wv,H⟩:=ao.E H;refine qK (qQ (qW (Xl omQ H .here) ?_));rintro _ _ ⟨rfl,rfl⟩;exact qY ⟨rfl,rfl⟩
theorem qx0 (hn:2≤n) (H:HS g h (ao b c::R)):af n 172 [.ptr b 0] h λr h'=>r=.int .i64 c.p.err∧h'=h:=by
 refine ag rfl omQ λk hk=>?_;unfold S172;try simp only
 obtain⟨sv,cv,tv,wv,H⟩:=ao.E H;refine qK (qQ (qW (qx2 omQ H .here) ?_));rintro _ _ ⟨rfl,rfl⟩;exact qY ⟨rfl,rfl⟩
theorem qy2 (hn:2≤n) (H:HS g h (ao b c::R)):af n 424 [.ptr b 0] h λr h'=>r=.int .i64 c.p.bM∧h'=h:=by
 refine ag rfl omQ λk hk=>?_;unfold S424;try simp only
 obtain⟨sv,cv,tv,wv,H⟩:=ao.E H;refine qK (qQ (qW (RU omQ H .here) ?_));rintro _ _ ⟨rfl,rfl⟩;exact qY ⟨rfl,rfl⟩
theorem qVu (hn:1≤n) (hw:0≤c.now∧c.now<9223372036854775807) (H:HS g h (ao b c::R)):af n 116 [.ptr b 0] h λr h'=>r=.int .u64 (gQ c)∧h'=h:=by
 refine ag rfl omQ λk hk=>?_;unfold S116;try simp only[iZ]
 obtain⟨sv,cv,tv,wv,H⟩:=ao.E H;unfold Qf yf at H;unfold gQ;refine qK (qQ (qZ ‹_› .here rfl ?_));cases hd:c.writing with
 |true=>rw[iQ aA];refine jQ (qJ (qK (qQ (qZ ‹_› .here rfl ?_))));refine xT omQ<|qY ⟨rfl,rfl⟩
 |false=>rw[iJ rfl];refine jg (qX ?_);exact qY ⟨rfl,rfl⟩
theorem ZB (hn:3≤n) (H:HS g h (ao b c::R)):af n 91 [.ptr b 0] h λr h'=>r=.bool (zl c)∧h'=h:=by
 refine ag rfl omQ λk hk=>?_;unfold S91;try simp only[iZ]
 obtain⟨sv,cv,tv,wv,H1⟩:=ao.E H;unfold Qf yf at H1;unfold zl;refine qK (qQ (qZ ‹_› .here rfl ?_));refine qG ?_;(try dsimp only)
 cases hd:c.writing with
 |true=>
  refine qR ?_;(try dsimp only)
  refine qW (UZ omQ H) ?_;rintro _ _ ⟨rfl,rfl⟩;refine xR (λc1=>?_) (λc1=>?_)
  ·refine qC<|qY ⟨congrArg AV.bool (by grind),rfl⟩
  ·refine qC<|qY ⟨congrArg AV.bool (by grind),rfl⟩
 |false=>
  refine qT<|qB ?_
  exact qY ⟨rfl,rfl⟩
theorem qY1 (hn:2≤n) (O:xY c) (H:HS g h (ao b c::R)):af n 425 [.ptr b 0] h λr h'=>r=tu (wK c)∧HS g h' (ao b c::R):=by
 refine ag rfl omQ λk hk=>?_;unfold S425;try simp only[iZ]
 obtain⟨sv,cv,tv,wv,H⟩:=ao.E H;refine qH H rfl λb0 h1 H1=>?_;have dJ:=O.lo;have bK:=O.st;have Hj:=O.now;have l1:=O.s;have l2:=O.az;refine qK (qQ (qW (Xl omQ H1 e_1) ?_));rintro _ _ ⟨rfl,rfl⟩;unfold wK;have H2:=H1;unfold Qf yf at H2;by_cases hg:c.p.fin=0
 rotate_left
 ·refine jJ hg ?_;rw[iJ hg];refine qX (qy rfl ?_);refine qh H1 .here rfl (by simp) rfl λh3 H3=>?_;refine qD H3 .here rfl omQ rfl<|qY ⟨rfl,ao.I H3.drop⟩
 refine q9 hg ?_;rw[iQ (λh=>h hg)];refine qJ (qK (qQ (qZ ‹_› e_1 rfl ?_)));by_cases c0:c.state=0
 ·refine qj c0 ?_;rw[iJ c0];refine qX (qK (qQ (qZ ‹_› e_1 rfl ?_)));refine qK (qQ (qZ ‹_› e_1 rfl ?_));refine qd ‹_› e_5 ?_;have hw:=O.iN hg omQ;refine jN (H1.sl e_4) (by rw[List.getElem?_map,yS hw];rfl)<|qy rfl<|qh H2 .here rfl (by simp) rfl λh3 H3=>?_;refine qD H3 .here rfl omQ rfl<|qY ⟨rfl,ao.I H3.drop⟩
 refine qV c0 ?_;rw[iQ c0];refine qJ ?_;by_cases c1:c.state=1
 ·refine qj c1 ?_;rw[iJ c1];refine qX (qK (qQ ?_));have hw:=O.iN hg omQ;refine qc (qZ H2 e_1 rfl ?_);refine qK (qQ (qZ ‹_› e_1 rfl ?_));refine qy rfl<|qH H2 rfl λb1 h3 H3=>?_;refine qh H3 .here rfl (by simp) rfl λh4 H4=>?_;have H4:HS g h4 (qx b1 (jS (c.lk.1,true,c.me))::qx b0 _::qx b (Qf c sv cv tv wv)::_):=H4;have H5:=H4;unfold Qf yf at H5;refine qK (qQ (qZ ‹_› e_2 rfl ?_));refine qK (qQ (qZ ‹_› e_2 rfl ?_));refine qd ‹_› e_6<|jN (H4.sl e_5) (by rw[List.getElem?_map,yS hw];rfl)<|qK (qQ (qD H5 e_2 rfl omQ rfl ?_));refine qD H5 .here rfl omQ rfl<|qy rfl<|qh H5 e_1 rfl (by simp) rfl λh6 H6=>?_;refine qD H6 .here rfl omQ rfl<|qY ⟨rfl,ao.I H6.drop.drop⟩
 refine qV c1 ?_;rw[iQ c1];refine qJ ?_;by_cases c2:c.state=2
 ·refine qj c2 ?_;rw[iJ c2];refine qX (qy rfl ?_);refine qh H2 .here rfl (by simp) rfl λh3 H3=>?_;refine qD H3 .here rfl omQ rfl<|qY ⟨rfl,ao.I H3.drop⟩
 refine qV c2 ?_;rw[iQ c2];refine qJ ?_;by_cases c3:c.state=3
 ·refine qj c3 ?_;rw[iJ c3];refine qX (qK (qQ (qZ ‹_› e_1 rfl ?_)));refine qK (qQ (qZ ‹_› e_1 rfl ?_));refine xT omQ<|qy rfl<|qh H2 .here rfl (by simp) rfl λh3 H3=>?_;refine qD H3 .here rfl omQ rfl<|qY ⟨rfl,ao.I H3.drop⟩
 refine qV c3 ?_;rw[iQ c3];refine qJ ?_;by_cases c4:c.state=4
 ·refine qj c4 ?_;rw[iJ c4];refine qX (qK (qQ (qZ ‹_› e_1 rfl ?_)));refine qK (qQ (qZ ‹_› e_1 rfl ?_));have ae:=O.I6 hg c4;obtain⟨k,hk⟩:∃k:Nat,c.at_=k:=⟨c.at_.toNat,by omega⟩;rw[hk]at ae ⊢;refine jU (H1.sl e_2) omQ omQ (yt omQ).1<|qy rfl<|qh H2 .here rfl (by simp) rfl λh3 H3=>?_;refine qD H3 .here rfl omQ rfl<|qY ⟨rfl,ao.I H3.drop⟩
 refine qV c4 ?_;rw[iQ c4];refine qJ ?_;by_cases c5:c.state=5
 ·refine qj c5 ?_;rw[iJ c5];refine qX (qK (qQ (qZ ‹_› e_1 rfl ?_)));refine qK (qQ (qZ ‹_› e_1 rfl ?_));have ae:=O.RY hg c5;obtain⟨k,hk⟩:∃k:Nat,c.at_=k:=⟨c.at_.toNat,by omega⟩;rw[hk]at ae ⊢;refine jU (H1.sl e_3) omQ omQ (Gb omQ).1<|qK (qQ (qZ ‹_› e_1 rfl ?_));refine qK (qQ (qZ ‹_› e_1 rfl ?_));rw[hk];refine jU (H1.sl e_3) omQ omQ (Gb omQ).2<|qy rfl<|qh H2 .here rfl (by simp) rfl λh3 H3=>?_;refine qD H3 .here rfl omQ rfl<|qY ⟨rfl,ao.I H3.drop⟩
 refine qV c5 ?_;rw[iQ c5];refine qJ ?_;by_cases c6:c.state=6
 ·refine qj c6 ?_;rw[iJ c6];refine qX (qK (qQ (qZ ‹_› e_1 rfl ?_)));refine qK (qQ (qZ ‹_› e_1 rfl ?_));have ae:=O.RZ hg c6;obtain⟨k,hk⟩:∃k:Nat,c.at_=k:=⟨c.at_.toNat,by omega⟩;rw[hk]at ae ⊢;refine jN (H1.sl e_4) (by rw[List.getElem?_map,yS omQ];rfl)<|qK (qQ (qZ ‹_› e_1 rfl ?_));refine xT omQ<|qy rfl<|qy rfl<|qh H2 .here rfl (by simp) rfl λh3 H3=>?_;refine qD H3 .here rfl omQ rfl<|qY ⟨rfl,ao.I H3.drop⟩
 refine qV c6 ?_;rw[iQ c6];refine qJ (qK (qQ (qZ ‹_› e_1 rfl ?_)));refine qK (qQ (qZ ‹_› e_1 rfl ?_));have ae:=O.R0 hg omQ;obtain⟨k,hk⟩:∃k:Nat,c.at_=k:=⟨c.at_.toNat,by omega⟩;rw[hk]at ae ⊢;refine jN (H1.sl e_4) (by rw[List.getElem?_map,yS omQ];rfl)<|qK (qQ (qZ ‹_› e_1 rfl ?_));refine qK (qQ (qZ ‹_› e_1 rfl ?_));rw[hk];refine zj (H1.sl e_5) omQ omQ (JN omQ)<|qy rfl<|qh H2 .here rfl (by simp) rfl λh3 H3=>?_;refine qD H3 .here rfl omQ rfl<|qY ⟨rfl,ao.I H3.drop⟩
theorem qkO {me sp st a w:Int} {v1 v2:AV} {r:List xA} {cs:List Cl} (hn:5≤n) (hr:r.length≤1000) (h0:0<cs.length) (hl:cs.length≤1000) (hc:∀c∈cs,0≤c.1∧c.1<100000)
  (H:HS g h (qF 122 2 r.length v1 (r.flatMap xK)::qF 129 2 cs.length v2 (cs.flatMap jH)::R)) :
  af n 113 [.int .i64 me,.int .i64 sp,.int .u64 st,v1,v2,.int .i64 a,.int .i64 w] h λv h'=>∃b,v=.ptr b 0∧HS g h' (ao b (Kt me sp st r cs a w)::R):=by
 refine Fo rfl omQ λk hk=>?_;unfold S113;try simp only[iZ]
 refine qW (OX omQ H) ?_;rintro _ h1 ⟨rfl,H1⟩;refine qW (Y0 omQ H1 .here (QS (λ_=>rfl) _) omQ) λu1 h2 H2=>?_;refine qW (qQ5 omQ H2 e_2 omQ) λu2 h3 H3=>?_;refine qW (qZ8 omQ H3 (H3.rd e_3) h0 hl hc) λu3 h4 H4=>?_;have o1:=H4.one e_2;have o2:=H4.one e_1;have o3:=H4.one .here;unfold yf;refine qy (by simp only[vG,o1.1,o2.1,o3.1];rfl)<|qH H4 (by simp only[jV,List.all_cons,o1.2,o2.2,o3.2];rfl) λb h5 H5=>?_;have H6:=H5.ad (e:=54) (sz:=3);have H7:HS g h5 (ao b ⟨J8 me sp,me,st,r,cs,xz cs a w,[],0,0,cZ,0,false,0,0,0⟩::R) :=
  ao.I (sv:=u1) (cv:=u2) (tv:=u3) (wv:=.ad) (H6.pk [1,3,2,1,0] 2)
 refine qW (qQs omQ H7) λ_ h6 H8=>qY ⟨b,rfl,H8⟩
end
end
section
def Kd (a:cT):Prop:=0≤a.word∧a.word<18446744073709551616
theorem Qs {p:QQ} {a:cT} (h:(qo p a).1=true):(qo p a).2.fin≠0:=by
 unfold qo at h ⊢
 split
 ·nofun
 grind
theorem OW {p:QQ} {l:dI} (hp:0≤p.spins∧p.spins≤4) (h:(jX p l).1=true):(jX p l).2.fin=p.fin∧0≤(jX p l).2.spins∧(jX p l).2.spins≤4:=by
 unfold jX at h ⊢
 grind
theorem qXp {me sp:Int}:Km (J8 me sp):=λ_=>by show 0≤max 0 (min sp 4)∧max 0 (min sp 4)≤4;omega
theorem Yx {p:QQ} {f e y:Int} (h:f≠0):Km (jc p f e y):=λhf=>absurd hf h
theorem Jc {f:kT} {a:cT} (hp:Km f.p):Km (xQ f a).p:=by
 unfold xQ;cases hs:(qo f.p a).1 with
 |true=>rw[iJ rfl];exact λh=>absurd h (Qs hs)
 |false=>
  rw[iQ aA];have hg:=(XO hs).2;unfold QI
  split
  ·grind
  ·split
   ·nofun
   ·split
    ·split
     ·rename_i hw;exact λ_=>(OW (hp hg) hw).2
     nofun
    ·split
     all_goals simp_all[Yx,od]
theorem qkP {me sp:Int} {r:List xA} (hr:r.length≤16):KR (Gf me sp r):=⟨qXp,Int.le_refl _,by show(0:Int)≤1000;simp,hr,by show(0:Int)≤_;omega,λ_ h=>by cases h⟩
theorem qQb {x:wQ} (hp:Km x.p) (h0:0≤x.at_) (h1:x.at_≤x.seen.length) (hr:x.seen.length≤16):KR (Jw x):=by
 unfold Jw
 split
 ·exact⟨Yx od,h0,by grind,hr,h1,nofun⟩
 ·exact⟨hp,h0,by omega,hr,h1,λ_ _=>by omega⟩
theorem Jn {x:wQ} {a:cT} (O:KR x):KR (xM x a):=by
 unfold xM;cases hs:(qo x.p a).1 with
 |true=>rw[iJ rfl];exact⟨λh=>absurd h (Qs hs),O.lo,O.hi,O.len,O.le,λh=>absurd h (Qs hs)⟩
 |false=>
  rw[iQ aA];have hg:=(XO hs).2;have dJ:=O.lo;have iC:=O.hi;have hlen:=O.len
  split
  ·exact qQb O.p dJ O.le hlen
  ·rename_i hl;have hl:x.bH=true:=by grind
   have cM:=O.Hi hg hl
   split
   ·split
    ·rename_i hw;have:=OW (O.p hg) hw;exact⟨λ_=>this.2,dJ,iC,hlen,O.le,λ_ _=>cM⟩
    ·exact⟨Yx od,dJ,iC,hlen,O.le,nofun⟩
   ·split
    ·exact⟨Yx od,dJ,iC,hlen,O.le,nofun⟩
    ·exact qQb O.p (by grind) (by grind) hlen
section
variable {c:zG}
theorem Nj (r:c.s.Pairwise (· < ·)) (h:zh 1 c.p.spins 6 c.at_ c.now c.bE c.seen.length c.cells.length c.s.length c.az.length) (hs:c.state=6) (hp:0≤c.p.spins∧c.p.spins≤4) (ha:c.at_≤c.s.length):xY (yU c):=by
 unfold yU;unfold zh at h
 split
 ·refine⟨r,?_⟩;show zh 2 c.p.spins c.state c.at_ c.now c.bE c.seen.length c.cells.length c.s.length c.az.length;grind[zh]
 ·refine⟨r,?_⟩;grind[zh]
theorem U9 (r:c.s.Pairwise (· < ·)) (h:zh 1 c.p.spins 5 c.at_ c.now c.bE c.seen.length c.cells.length c.s.length c.az.length) (hs:c.state=5) (hp:0≤c.p.spins∧c.p.spins≤4) (ha:c.at_≤c.cells.length):xY (yw c):=by
 unfold yw;unfold zh at h
 split
 ·refine Nj r ?_ rfl hp (by simp);grind[zh]
 ·refine⟨r,?_⟩;grind[zh]
theorem Yd (r:c.s.Pairwise (· < ·)) (h:zh 1 c.p.spins 4 c.at_ c.now c.bE c.seen.length c.cells.length c.s.length c.az.length) (hp:0≤c.p.spins∧c.p.spins≤4):xY (vn c):=by unfold vn;unfold zh at h;refine U9 r ?_ rfl hp (by simp);grind[zh]
theorem U6 (r:c.s.Pairwise (· < ·)) (h:zh 1 c.p.spins 7 c.at_ c.now c.bE c.seen.length c.cells.length c.s.length c.az.length) (hs:c.state=7) (ha:c.at_≤c.az.length):xY (yv c):=by
 unfold yv;unfold zh at h
 split
 ·refine⟨r,?_⟩;show zh c.bE c.p.spins c.state c.at_ c.now c.bE c.seen.length c.cells.length c.s.length c.az.length;grind[zh]
 ·refine⟨r,?_⟩;grind[zh]
theorem YG {f e y:Int} (r:c.s.Pairwise (· < ·)) (h:zh 1 c.p.spins c.state c.at_ c.now c.bE c.seen.length c.cells.length c.s.length c.az.length) (hf:f≠0):xY (gK c f e y):=by unfold gK;unfold zh at h;refine U6 r ?_ rfl (by simp);grind[zh]
theorem xY.dead (O:xY c):zh 1 c.p.spins c.state c.at_ c.now c.bE c.seen.length c.cells.length c.s.length c.az.length:=by have h:=O.ar;grind[zh]
theorem Mv {l:dI} (O:xY c) (hg:c.p.fin=0) (hs:c.state≤6):xY (yo c l):=by
 unfold yo;have h:=O.ar
 split
 ·rename_i hw;have:=OW (O.p hg hs) hw;refine⟨O.dx,?_⟩;show zh (jX c.p l).2.fin (jX c.p l).2.spins c.state c.at_ c.now c.bE c.seen.length c.cells.length c.s.length c.az.length;grind[zh]
 ·refine YG O.dx ?_ od;grind[zh,jX]
theorem ZJ (r:c.s.Pairwise (· < ·)):∀(m:Nat) (a:Int),zh 1 c.p.spins 4 a c.now c.bE c.seen.length c.cells.length c.s.length c.az.length→(0≤c.p.spins∧c.p.spins≤4)→xY (xo { c with state:=4,at_:=a } m):=by
 intro m
 induction m with
 |zero=>intro a h hp;exact Yd r h hp
 |succ m ih=>
  intro a h hp;unfold xo;dsimp only
  split
  ·rename_i ae
   split
   ·refine⟨r,?_⟩;grind[zh]
   ·split
    ·exact YG r h od
    grind[zh]
  grind[Yd]
theorem U2 (r:c.s.Pairwise (· < ·)) (h:zh 1 c.p.spins 4 c.at_ c.now c.bE c.seen.length c.cells.length c.s.length c.az.length) (hp:0≤c.p.spins∧c.p.spins≤4):xY (gC c):=ZJ r _ c.at_ h hp
set_option maxHeartbeats 4000000 in
theorem Yk {a:cT} (O:xY c) (ha:Kd a):xY (zD c a):=by
 have h:=O.ar;have hd:=O.dead;unfold zD;cases hs:(qo c.p a).1 with
 |true=>rw[iJ rfl];have hf:=Qs hs;refine⟨O.dx,?_⟩;show zh (qo c.p a).2.fin (qo c.p a).2.spins c.state c.at_ c.now c.bE c.seen.length c.cells.length c.s.length c.az.length;unfold zh at h ⊢;omega
 |false=>
  rw[iQ aA];have hg:=(XO hs).2;have ha:=ha.1;rw[hg]at h
  split
  ·rename_i bK;unfold gW
   split
   ·exact Mv O hg omQ
   ·split
    ·refine⟨O.dx,?_⟩;show zh c.p.fin c.p.spins 1 c.at_ c.now c.bE c.seen.length c.cells.length c.s.length c.az.length;rw[hg];unfold zh at h ⊢;omega
    ·split
     ·unfold kt;dsimp only;have hl:(c.az++[c.lk]).length=c.az.length+1:=by simp
      split
      ·refine⟨O.dx,?_⟩;show zh c.p.fin c.p.spins 2 c.at_ c.now c.bE c.seen.length c.cells.length c.s.length (c.az++[c.lk]).length;rw[hg];unfold zh at h ⊢;omega
      ·refine⟨O.dx,?_⟩;show zh c.p.fin c.p.spins 0 c.at_ c.now c.bE c.seen.length c.cells.length c.s.length (c.az++[c.lk]).length;rw[hg];unfold zh at h ⊢;omega
     ·refine⟨O.dx,?_⟩;show zh c.p.fin c.p.spins 0 c.at_ c.now c.bE c.seen.length c.cells.length c.s.length c.az.length;rw[hg];unfold zh at h ⊢;omega
  split
  ·unfold vo
   split
   ·exact YG O.dx hd od
   ·split
    ·refine⟨O.dx,?_⟩;show zh c.p.fin c.p.spins 3 c.at_ a.word c.bE c.seen.length c.cells.length c.s.length c.az.length;rw[hg];unfold zh at h ⊢;omega
    ·split
     ·refine⟨O.dx,?_⟩;show zh c.p.fin c.p.spins 2 c.at_ c.now c.bE c.seen.length c.cells.length c.s.length c.az.length;rw[hg];unfold zh at h ⊢;omega
     ·have h4:zh 1 c.p.spins 4 c.at_ c.now c.bE c.seen.length c.cells.length c.s.length c.az.length:=by unfold zh at h ⊢;omega
      split
      ·exact Yd O.dx h4 (O.p hg omQ)
      ·exact U2 O.dx h4 (O.p hg omQ)
  split
  ·rename_i h4;unfold yR
   split
   ·exact Mv O hg omQ
   ·split
    ·exact YG O.dx hd od
    ·refine U2 O.dx ?_ (O.p hg omQ);show zh 1 c.p.spins 4 (c.at_+1) c.now c.bE c.seen.length c.cells.length c.s.length c.az.length;unfold zh at h ⊢;omega
  split
  ·rename_i h5;have:=O.RY hg h5;refine U9 O.dx ?_ h5 (O.p hg omQ) (by show c.at_+1≤(c.cells.length:Int);omega);show zh 1 c.p.spins 5 (c.at_+1) c.now c.bE c.seen.length c.cells.length c.s.length c.az.length;unfold zh at h ⊢;omega
  split
  ·rename_i h6;have:=O.RZ hg h6;refine Nj O.dx ?_ h6 (O.p hg omQ) (by show c.at_+1≤(c.s.length:Int);omega);show zh 1 c.p.spins 6 (c.at_+1) c.now c.bE c.seen.length c.cells.length c.s.length c.az.length;unfold zh at h ⊢;omega
  ·have bK:=O.st;have h7:c.state=7:=by omega
   have:=O.R0 hg h7;refine U6 O.dx ?_ h7 (by show c.at_+1≤(c.az.length:Int);omega);show zh 1 c.p.spins 7 (c.at_+1) c.now c.bE c.seen.length c.cells.length c.s.length c.az.length;unfold zh at h ⊢;omega
theorem qyl {me sp st a w:Int} {r:List xA} {cs:List Cl} (hr:r.length≤16) (h0:0<cs.length) (hl:cs.length≤1000) (hc:∀c∈cs,0≤c.1):xY (Kt me sp st r cs a w):=by
 have h1:(xz cs a w).length≤16:=by unfold xz;grind
 have h2:0<(xz cs a w).length:=by obtain⟨c,Pg⟩:=List.exists_mem_of_length_pos h0;exact List.length_pos_of_mem ((XT hc).2 (List.mem_map.2 ⟨c,Pg,rfl⟩))
 unfold Kt kt;rw[iQ (by grind)];refine⟨GM,?_⟩;show zh 0 (max 0 (min sp 4)) 0 0 0 0 r.length cs.length (xz cs a w).length 0;grind[zh]
end
end
section
theorem qyP {l:List qe} (F:Fit l) (Q:Quiet l):∀(n:Nat) {s:IM} {V:VM},GI l s V→bA V.lv+n<9000→(zw l (qb l) n s V).kind=1→bA (zw l (qb l) n s V).v.lv+(zw l (qb l) n s V).left≤bA V.lv+n:=by
 intro n
 induction n with
 |zero=>
  grind[wc]
 |succ n ih=>
  intro s V G hf;rw[kw]
  split
  ·simp
  ·rename_i h0;obtain⟨i,hi,p0⟩:=G.pc;have ae:i<l.length:=by omega
   rw[hi];have S:=YY F G hi ae omQ (Q.at ae).2 (Q.at ae).1;generalize aZ (qb l) s V (qU l i)=D at*
   split
   ·rename_i h1
    split
    ·simp
    ·rename_i h2;have A3:=S.fr;intro h;have:=ih (S.next h1 (by grind)) omQ h;omega
   ·split
    ·rename_i bY;obtain⟨n1,n2,_⟩:=S.aw bY;grind
    simp
theorem qyT {l:List qe} {mt:List Int}:∀(n:Nat) {s:IM} {V:VM},(zw l mt n s V).kind=1→(zw l mt n s V).err=0:=by
 intro n
 induction n with
 |zero=>grind[wc]
 |succ n ih=>
  grind[kw,aZ,qU]
theorem qkU {l:List qe} {s:IM} {V:VM} {p x:Int} (G:GI l s V) (hx:0≤x∧x<18446744073709551616):GI l s (yd V p x).2:=by
 have hl:(yd V p x).2.lv=V.lv:=by
  grind[yd]
 refine⟨G.gb,G.pc,G.mQ,G.told,G.CC,by rw[hl];exact G.lv,⟨qQ6 G.ap.ok,?_⟩⟩;unfold yd
 split
 ·split
  ·exact G.ap.wd
  ·refine⟨λc hc=>?_,G.ap.wd.l⟩;rcases List.mem_append.1 hc with hc |hc
   ·exact G.ap.wd.k c hc
   grind
 ·exact G.ap.wd
theorem qyp {l:List qe} {mt:List Int}:∀(n:Nat) {s:IM} {V:VM},(zw l mt n s V).left≤n:=by
 intro n
 induction n with
 |zero=>intro s V;rw[wc];grind
 |succ n ih=>
  intro s V;rw[kw];grind
end
section
structure JD (S:xn):Prop where
  words:32≤S.words∧S.words≤256
  aj:1≤S.aj∧S.aj≤16
  wide:1≤S.wide∧S.wide≤16
  aF:1≤S.aF∧S.aF≤4
  start:0≤S.start∧S.start≤4611686018427387903
  spins:0≤S.spins∧S.spins≤4
  writes:0≤S.writes∧S.writes≤96
  fuel:0≤S.fuel∧S.fuel≤400
theorem JU {n lo hi:Int} (h:lo≤hi):lo≤wB n lo hi∧wB n lo hi≤hi:=by grind[wB]
theorem vX {n lo hi:Int} (h:lo≤n∧n≤hi):wB n lo hi=n:=by grind[wB]
theorem YL {s:xn} (h:0≤s.start):JD (ja s) :=
 ⟨JU omQ,JU omQ,JU omQ,JU omQ,by show 0≤min s.start 4611686018427387903∧min s.start 4611686018427387903≤4611686018427387903;omega,JU omQ,JU omQ,JU omQ⟩
theorem Uf {S:xn} (O:JD S):ja S=S:=by obtain⟨a,b,c,d,e,f,g,i⟩:=O;simp_all[ja,vX,min]
theorem qV6 {M:VM} {b:Int} (h:(xj M b).1=11):J5 M (xj M b).2:=by
 have ha:=qv8 M b;unfold xj at h ⊢
 split
 ·rename_i h1;rw[iJ h1]at h;have e:=ha.2 h1
  split
  ·grind
  ·rename_i h2;rw[iQ h2]at h
   split
   ·rename_i h3;rw[iJ h3]at h;grind[GE]
   simp_all[Qj]
 simp_all[qQR]
theorem qK0 {M:VM} {b:Int} (O:cU M):Jr M (xj M b).2:=by
 have ha:=ZY M b;unfold xj
 repeat' split
 ·grind
 ·exact(ha.trans (xd _ _)).trans (gi (xH (Qt O)))
 ·exact ha.trans (xd _ _)
 grind
theorem qz5:∀(bs:List Int) (k:Nat) {V:VM},ju V→ju (xI V bs k).2∧Jr V (xI V bs k).2∧bA (xI V bs k).2.lv=bA V.lv∧(xI V bs k).1.1≤k+bs.length∧
  ((xI V bs k).1.2=11→1≤(xI V bs k).2.aw∧(xI V bs k).2.aw<V.sz∧zc (xI V bs k).2.aw V.K=none):=by
 intro bs
 induction bs with
 |nil=>intro k V G;exact⟨G,.refl V,rfl,Nat.le_refl _,nofun⟩
 |cons b r ih=>
  intro k V G;have hg:=G.tg (b:=b);have hk:=qK0 (b:=b) G.ok;by_cases h0:(xj V b).1=0
  ·rw[show xI V (b::r) k=xI (xj V b).2 r (k+1)from iJ h0];obtain⟨a1,a2,a3,a4,a5⟩:=ih (k+1) hg.1;refine⟨a1,hk.trans a2,a3.trans hg.2,by simp;omega,λh=>?_⟩;have:=a5 h;rw[hk.sz,hk.K]at this;omega
  ·rw[show xI V (b::r) k=((k,(xj V b).1),(xj V b).2)from iQ h0];exact⟨hg.1,hk,hg.2,by simp,λh=>(qV6 h).2⟩
def bQ (live:Prop) (V:VM):Kv→Prop
 | .prog q=>Fit q.l∧Quiet q.l∧GB q.s∧(live→GI q.l q.s V∧q.fin=0∧q.err=0∧bA V.lv+q.left<9000)∧q.left≤400
 | .aV bs k=>k≤bs.length∧bs.length≤100000
theorem bQ.dead {live nJ:Prop} {V V':VM} {j:Kv} (O:bQ live V j) (h:¬nJ):bQ nJ V' j:=by
 cases j with
 |prog q=>exact⟨O.1,O.2.1,O.2.2.1,λh'=>absurd h' h,O.2.2.2.2⟩
 |aV bs k=>exact O
theorem bQ.same {live nJ:Prop} {V:VM} {j:Kv} (O:bQ live V j) (h:nJ→live):bQ nJ V j:=by
 cases j with
 |prog q=>exact⟨O.1,O.2.1,O.2.2.1,λh'=>O.2.2.2.1 (h h'),O.2.2.2.2⟩
 |aV bs k=>exact O
structure zE (x:jd):Prop where
  set:JD x.set
  ap:ju x.v
  sz:(x.v.sz:Int)=x.set.words
  fr:bA x.v.lv<9000
  r:x.r.length≤16
  aW:bQ (x.state≤4) x.v x.aW
  st:0≤x.state∧x.state≤8
  f:x.state=3→Km x.f.p∧0≤x.f.word∧x.f.word<18446744073709551616
  aw:3≤x.state→x.state≤4→1≤x.v.aw∧x.v.aw<x.v.sz∧zc x.v.aw x.v.K=none
  e:4≤x.state→x.state≤5→KR x.e
  c:∀c,x.c=some c→xY c
  c0:x.state≤5→x.c=none
  c6:x.state=6→x.c≠none
structure Hk (x:jd) (k:Int) (y:jd):Prop where
  ap:ju y.v
  kept:y.v.sz=x.v.sz∧y.v.K=x.v.K∧y.v.most=x.v.most
  fr:bA y.v.lv<9000
  aW:bQ (k=1) y.v y.aW
  aw:k=1→1≤y.v.aw∧y.v.aw<x.v.sz∧zc y.v.aw x.v.K=none
  same:y.me=x.me∧y.set=x.set∧y.r=x.r∧y.ak=x.ak∧y.c=x.c
theorem Uk {x:jd} (hg:ju x.v) (hf:bA x.v.lv<9000) (hj:bQ True x.v x.aW):Hk x (xu x).1.1 (xu x).2:=by
 unfold xu;cases hx:x.aW with
 |prog q=>
  rw[hx]at hj;obtain⟨F,Q,gb,h,hl⟩:=hj;obtain⟨G,h0,h1,h2⟩:=h trivial;obtain⟨RB,rfr,_,rn,_⟩:=RN F Q q.left G h2;refine⟨RB.ap,⟨RB.sz,RB.K,RB.most⟩,by grind,⟨F,Q,RB.gb,λhk=>?_,?_⟩,λhk=>?_,⟨rfl,rfl,rfl,rfl,rfl⟩⟩
  ·have hr:=qyP F Q q.left G h2 hk;exact⟨(rn hk).1,iJ hk,qyT _ hk,by grind⟩
  ·have hr:=qyp (l:=q.l) (mt:=qb q.l) q.left (s:=q.s) (V:=x.v);grind
  grind
 |aV bs k=>
  rw[hx]at hj;obtain⟨a1,a2,a3,a4,a5⟩:=qz5 (bs.drop k) k hg;dsimp only;refine⟨a1,⟨a2.sz,a2.K,a2.most⟩,by grind,⟨by rw[List.length_drop]at a4;have:=hj.1;omega,hj.2⟩,λh=>?_,⟨rfl,rfl,rfl,rfl,rfl⟩⟩
  grind
structure Qh (x:jd):Prop where
  set:JD x.set
  ap:ju x.v
  sz:(x.v.sz:Int)=x.set.words
  fr:bA x.v.lv<9000
  r:x.r.length≤16
  aW:bQ False x.v x.aW
  c:∀c,x.c=some c→xY c
theorem zE.b {x:jd} (O:zE x):Qh x:=⟨O.set,O.ap,O.sz,O.fr,O.r,O.aW.dead not_false,O.c⟩
theorem Qh.out {x:jd} (B:Qh x) {f e y:Int}:zE (yG x f e y) :=
 ⟨B.set,B.ap,B.sz,B.fr,B.r,B.aW.dead (by nofun),by show(0:Int)≤7∧(7:Int)≤8;simp,λh=>(by cases h),λ_ h=>(by cases h),λ_ h=>(by cases h),B.c,λh=>(by cases h),nofun⟩
theorem Qh.gone {x:jd} (B:Qh x) {f e y:Int}:zE { yG x f e y with state:=8 } :=
 ⟨B.set,B.ap,B.sz,B.fr,B.r,B.aW.dead (by simp),by simp,λh=>(by grind),λ_ h=>(by grind),λ_ h=>(by grind),B.c,λh=>(by grind),nofun⟩
theorem Qh.ask {x:jd} (B:Qh x) (hj:bQ True x.v x.aW) (hn:1≤x.v.aw∧x.v.aw<x.v.sz∧zc x.v.aw x.v.K=none) (hc:x.c=none):zE (XE x x.v.aw) :=
 ⟨B.set,B.ap,B.sz,B.fr,B.r,hj.same λ_=>trivial,by show(0:Int)≤3∧(3:Int)≤8;simp,λ_=>⟨qXp,by show(0:Int)≤0;simp,by show(0:Int)<_;simp⟩,λ_ _=>hn,λh=>absurd h (by nofun),B.c,λ_=>hc,nofun⟩
theorem Qh.later {x:jd} (B:Qh x) (hc:x.c=none) {s:Int} (hs:s=4∨s=5) (hj:s=4→bQ True x.v x.aW∧1≤x.v.aw∧x.v.aw<x.v.sz∧zc x.v.aw x.v.K=none):zE (Jz x s):=by
 refine⟨B.set,B.ap,B.sz,B.fr,B.r,?_,by show 0≤s∧s≤8;omega,λh=>?_,λ_ h=>(hj ?_).2,λ_ _=>qkP B.r,B.c,λ_=>hc,λh=>?_⟩
 ·show bQ (s≤4) x.v x.aW;rcases hs with rfl |rfl
  ·grind
  ·exact B.aW.dead od
 ·have h:s=3:=h;omega
 ·have h:s≤4:=h;omega
 ·have h:s=6:=h;omega
theorem Gv {V:VM} (O:cU V):(jL V.lv).length≤96∧∀c∈jL V.lv,1≤c.1∧c.1<256:=by have h1:=VZ V.lv [];have h2:=O.eR.held;have h3:=O.eR.le;refine⟨by grind[jL],?_⟩;exact MV V.lv [] (λc hc=>by grind) O.eR.ins
theorem Qh.u6 {x:jd} (B:Qh x) (hj:bQ True x.v x.aW) (hc:x.c=none):zE (kC x):=by
 have D:=Uk B.ap B.fr hj;unfold kC;generalize(xu x).1.1=k at*;generalize(xu x).1.2=e at*;generalize(xu x).2=y at*;obtain⟨e1,e2,e3,e4,e5⟩:=D.same;have rX:y.c=none:=by grind
 have B':Qh y:=⟨by rw[e2];exact B.set,D.ap,by rw[D.kept.1,e2];exact B.sz,D.fr,by rw[e3];exact B.r,D.aW.same λh=>h.elim,λc h=>by grind⟩;unfold wC
 split
 ·rename_i h1;exact B'.ask (D.aW.same λ_=>h1) (by have:=D.aw h1;rw[D.kept.1,D.kept.2.1];grind) rX
 ·split
  ·exact Qh.later (x:={ y with aH:=true }) ⟨B'.set,B'.ap,B'.sz,B'.fr,B'.r,B'.aW,B'.c⟩ rX (.inr rfl) nofun
  ·split
   ·exact B'.out
   ·split
    ·exact B'.out
    ·rename_i hm;have AG:=Gv D.ap.ok;refine⟨B'.set,B'.ap,B'.sz,B'.fr,B'.r,B'.aW.dead (by simp),by simp,λh=>(by grind),λ_ h=>(by grind),λ_ h=>(by grind),λc h=>?_,λh=>(by grind),λ_ h=>by grind⟩;cases h;exact qyl B'.r (List.length_pos_iff.2 hm) omQ λc hc=>by grind
theorem Gc {r:List xA} {x:xA} (h:r.length≤16):(gV r x).2.length≤16:=by
 grind[gV,List.length_append,List.length_singleton]
theorem kp {V:VM} {p x:Int}:(yd V p x).2.lv=V.lv∧(yd V p x).2.sz=V.sz:=by
 unfold yd
 grind
theorem Xi {V:VM} {p x:Int} (G:ju V) (hx:0≤x∧x<18446744073709551616):ju (yd V p x).2:=by
 refine⟨qQ6 G.ok,?_⟩;unfold yd
 split
 ·split
  ·exact G.wd
  ·refine⟨λc hc=>?_,G.wd.l⟩;rcases List.mem_append.1 hc with hc |hc
   ·exact G.wd.k c hc
   grind
 ·exact G.wd
theorem bQ.oL {V:VM} {j:Kv} {p x:Int} (O:bQ True V j) (hx:0≤x∧x<18446744073709551616):bQ True (yd V p x).2 j:=by
 cases j with
 |prog q=>exact⟨O.1,O.2.1,O.2.2.1,λ_=>⟨qkU (O.2.2.2.1 trivial).1 hx,(O.2.2.2.1 trivial).2.1,(O.2.2.2.1 trivial).2.2.1,by rw[kp.1];exact(O.2.2.2.1 trivial).2.2.2⟩,O.2.2.2.2⟩
 |aV bs k=>exact O
theorem X9 {f:kT} (h:0≤f.word∧f.word<18446744073709551616):0≤xp f∧xp f<18446744073709551616:=by
 grind[xp]
theorem Yj {f:kT} {a:cT} (h:0≤f.word∧f.word<18446744073709551616) (ha:Kd a):0≤(xQ f a).word∧(xQ f a).word<18446744073709551616:=by
 unfold xQ QI
 repeat' split
 all_goals first |exact h |exact ha
theorem Qh.u7 {x:jd} (B:Qh x) (hj:bQ True x.v x.aW) (hn:1≤x.v.aw∧x.v.aw<x.v.sz∧zc x.v.aw x.v.K=none) (hc:x.c=none) (hw:0≤x.f.word∧x.f.word<18446744073709551616):zE (yE x):=by
 unfold yE
 split
 ·exact B.later hc (.inl rfl) λ_=>⟨hj,hn⟩
 ·have hx:=X9 hw
  split
  ·refine Qh.u6 ?_ (hj.oL hx) hc;exact⟨B.set,Xi B.ap hx,by rw[kp.2];exact B.sz,by rw[kp.1];exact B.fr,Gc B.r,(hj.oL hx).same λh=>h.elim,B.c⟩
  ·split<;>exact B.out
theorem V5 {x:jd} (O:zE x):zE (yV x):=by
 unfold yV
 split
 ·split
  ·exact⟨O.set,O.ap,O.sz,O.fr,O.r,O.aW,O.st,O.f,O.aw,O.e,O.c,O.c0,O.c6⟩
  grind
 grind
theorem O1 {x:jd} (O:zE x) (h3:3≤x.state) (_:x.state≤6):zE (yy x):=by
 unfold yy
 split
 ·rename_i hs;exact O.b.u7 (O.aW.same λ_=>by omega) (O.aw omQ omQ) (O.c0 omQ) (O.f hs).2
 ·split
  ·rename_i hs;exact Qh.ask ⟨O.set,O.ap,O.sz,O.fr,O.r,O.aW.dead not_false,O.c⟩ (O.aW.same λ_=>by omega) (O.aw omQ omQ) (O.c0 omQ)
  ·split
   ·exact Qh.out (x:={ x with ak:=yC x.e }) ⟨O.set,O.ap,O.sz,O.fr,O.r,O.aW.dead not_false,O.c⟩
   ·split
    ·exact O.b.out
    grind
def xU (x:jd):jd:=if(yi x).1=0 then x else if(yi x).1=5 then yG x 5 0 (yi x).2 else yy x
theorem Ng {x:jd} (O:zE x) (h3:3≤x.state) (h6:x.state≤6):zE (xU x):=by
 unfold xU
 split
 ·grind
 ·split
  ·exact O.b.out
  grind[O1]
theorem Y1 {x:jd} (O:zE x) (h3:3≤x.state) (h6:x.state≤6):zE (wA x):=V5 (Ng O h3 h6)
theorem qWS {x:jd} {a:cT} (O:zE x) (ha:Kd a):zE (yc x a):=by
 have bK:=O.st;unfold yc
 split
 ·grind
 ·split
  ·exact O.b.gone
  ·split
   ·exact⟨O.set,O.ap,O.sz,O.fr,O.r,O.aW.same λ_=>by omega,by simp,λh=>(by grind),λh=>absurd h (by simp),λh=>absurd h (by simp),O.c,λ_=>O.c0 omQ,nofun⟩
   ·split
    ·exact⟨O.set,O.ap,O.sz,O.fr,O.r,O.aW.same λ_=>by omega,by simp,λh=>(by grind),λh=>absurd h (by simp),λh=>absurd h (by simp),O.c,λ_=>O.c0 omQ,nofun⟩
    ·split
     ·exact O.b.u6 (O.aW.same λ_=>by omega) (O.c0 omQ)
     ·split
      ·exact⟨O.set,O.ap,O.sz,O.fr,O.r,O.aW.dead (by simp),by simp,λh=>(by grind),λ_ h=>(by grind),λ_ h=>(by grind),O.c,λh=>(by grind),nofun⟩
      ·split
       ·rename_i hs;have hf:=O.f hs;refine Y1 ?_ (by grind) (by grind);exact⟨O.set,O.ap,O.sz,O.fr,O.r,O.aW,O.st,λ_=>⟨Jc hf.1,Yj hf.2 ha⟩,O.aw,O.e,O.c,O.c0,O.c6⟩
       ·split
        ·rename_i hs;refine Y1 ?_ (by grind) (by grind);refine⟨O.set,O.ap,O.sz,O.fr,O.r,O.aW,O.st,O.f,O.aw,O.e,λc h=>?_,λh=>absurd h (by grind),λh hn=>O.c6 h ?_⟩
         ·obtain⟨c',h1,rfl⟩:=Option.map_eq_some_iff.1 h;exact Yk (O.c c' h1) ha
         simp_all
        ·refine Y1 ?_ (by grind) (by grind);exact⟨O.set,O.ap,O.sz,O.fr,O.r,O.aW,O.st,O.f,O.aw,λh1 h2=>Jn (O.e h1 h2),O.c,O.c0,O.c6⟩
theorem NX (w m:Int):ju (Vl w m):=⟨qkb w m,λc hc=>(by cases hc),λx hx c hc=>by
 rcases List.mem_cons.1 hx with rfl |hx
 all_goals grind⟩
theorem qKL {me:Int} {S:xn} {j:Kv} (O:JD S) (hj:bQ True (Vl S.words S.writes) j):zE (VW me S j):=by have:=O.words;refine⟨O,NX _ _,?_,by show(0:Nat)<9000;simp,Nat.zero_le _,hj.same λ_=>trivial,by show(0:Int)≤0∧(0:Int)≤8;simp,λh=>(by cases h),λh=>absurd h (by nofun),λh=>absurd h (by nofun),λc h=>(by cases h),λ_=>rfl,nofun⟩;show((lT S.words:Nat):Int)=S.words;grind[lT]
theorem qZB {me:Int} {S:xn} {l:List qe} (hs:0≤S.start) (hc:(yu l).2=0) (Q:Quiet l):zE (YZ me S l):=by
 have O:=YL hs;refine qKL O ?_;have G:=NX (ja S).words (ja S).writes;have hf:wz (ja S).fuel≤400:=by grind[wz]
 exact⟨Kk hc,Q,(OA (l:=l) rfl G).gb,λ_=>⟨OA rfl G,rfl,rfl,by show(0:Nat)+wz (ja S).fuel<9000;omega⟩,hf⟩
theorem Zo {me:Int} {S:xn} {bs:List Int} (hs:0≤S.start) (hl:bs.length≤100000):zE (JW me S bs):=qKL (YL hs) ⟨Nat.zero_le _,hl⟩
end
section
structure CH where
  R5:Int
  aW:Int
  try_:Int
  aV:Bool
  kind:Int
  err:Int
  cI:Int
  ak:Int
  born:Int
  ended:Int
  reads:List Cl
  cells:List Cl
  A5:List Int
  Hl:List UInt8
structure Hm where
  kind:Int
  err:Int
  Hl:List UInt8
  ak:Int
abbrev R6:Type:=Int×Int
structure xB where
  me:Int
  set:xn
  eS:List (List qe)
  aW:Int
  state:Int
  aV:Bool
  dp:List R6
  dM:Int
  dY:Int
  now:Option jd
  born:Int
  pG:Bool
  eF:List CH
  results:List Hm
  cq:List R6
  cd:List Int
  bM:Int
  since:Int
  lE:Bool
  lF:Int
def Jd (x:jd):Int:=if x.state≠8 then 0 else x.err
def YE (x:jd):Int:=if x.state≠8 then-1 else x.bM
def Qo (x:jd):Bool:=decide (x.state≠8)&&x.aH
def GS (t:xB):xB :=
 if t.aW=(t.eS.length:Int)then{ t with born:=0,pG:=false,state:=6,now:=none }
 else{ t with born:=0,pG:=false,state:=1,now:=some (if t.aV=true then JW t.me t.set (t.dp.map (·.1))else YZ t.me t.set ((t.eS[t.aW.toNat]?).getD [])) }
def Js (t:xB):xB:=GS { t with aW:=t.aW+1,aV:=false,dp:=[],dM:=0,dY:=0 }
def NU (t:xB):Option dR:=if t.state=1 then t.now.bind yI else if t.state=2 then some (ck 8 t.bM 0)else if t.state=5 then some (ck 8 t.cd.length 0)else none
def Hn (t:xB) (x:jd) (pick:Int):CH :=
 ⟨t.me,t.aW,t.dM,t.aV,if zM x=true then 2 else vi x,Jd x,x.cI,x.ak,t.born,pick,x.v.K,vJ x,yB x,JB x⟩
def qwc (dY:Int):Int:=if dY≤0 then 1 else if dY=1 then 2 else if dY=2 then 4 else 8
def O3 (t:xB) (draw:Int):xB :=
 if draw%(qwc t.dY+1)=0 then GS { t with lF:=0,state:=3 }else{ t with lF:=draw%(qwc t.dY+1),state:=3 }
def UV (cd:List Int) (ak:Int):Bool:=cd.all λx=>decide (x=0∨ak<x)
def qqN (t:xB):xB :=
 if(t.cd.length:Int)<t.set.aF then t
 else if(t.cq.filter λr=>UV t.cd r.2)=[]then Js { t with cq:=t.cq.filter λr=>!UV t.cd r.2 }
 else GS { t with cq:=t.cq.filter (λr=>!UV t.cd r.2),aV:=true,dp:=t.cq.filter (λr=>UV t.cd r.2),dM:=0,dY:=0 }
def qXL (t:xB):xB:=qqN (if(t.cd.length:Int)=t.me then{ t with cd:=t.cd++[0] }else t)
def qwF (t:xB):xB:=if t.cq=[]then Js t else qXL { t with state:=5,cd:=[] }
def qjd (t:xB) (fin:Int):xB:=Js (if fin=4 then{ t with cq:=t.cq++t.dp }else t)
def qzH (t:xB) (x:jd) (draw pick:Int):xB :=
 let u:={ t with eF:=t.eF++[Hn t x pick],dM:=t.dM+1 }
 if vi x=5 then
  (if 0≤YE x∧YE x<t.set.aF then{ u with dY:=u.dY+1,state:=2,bM:=YE x,lE:=false }else O3 { u with dY:=u.dY+1 } draw)
 else if vi x=3 then(if u.pG=true then GS u else{ u with state:=4 })
 else if u.aV=true then qjd u (vi x)
 else qwF { u with results:=u.results++[⟨vi x,Jd x,JB x,x.ak⟩],cq:=u.cq++(yB x).map λb=>(b,x.ak) }
def qku (t:xB) (x y:jd) (draw pick:Int):xB :=
 let u:={ t with now:=some y,born:=if y.begun=true∧x.begun=false then pick else t.born }
 if vi y=0 then u else qzH u y draw pick
def Uy (t:xB) (a:cT) (draw pick:Int):xB :=
 if t.state=1 then(match t.now with
  |none=>t
  |some x=>qku t x (yc x a) draw pick)
 else if t.state=2 then(if a.err=0∧a.word≠0∧(t.lE=false∨a.word=t.since)then{ t with lE:=true,since:=a.word }else O3 t draw)
 else if t.state=5 then qXL { t with cd:=t.cd++[if a.err≠0 then 0 else a.word] }
 else t
structure R7 where
  s:xn
  m:zn
  t:List xB
  pH:Int
  last:dR
  did:Bool
def J0 (S:xn):zn:=⟨List.replicate S.words.toNat 0,List.replicate S.aj.toNat cZ,S.start,List.replicate S.aF.toNat 0,0⟩
end
section
variable {g h:AH} {L R:List SP}
theorem qVh:∀{l:List Cl} {c:Cl},pD l→c∈l→zc c.1 l=some c.2:=by
 intro l
 induction l with
 |nil=>simp
 |cons d l ih=>
  intro c hu hc;unfold pD at hu;rw[List.map_cons,List.nodup_cons]at hu;unfold zc;rcases List.mem_cons.1 hc with rfl |hc
  ·simp
  ·rw[iQ (λh=>hu.1 (by grind))];exact ih hu.2 hc
theorem qG7 {n:Nat} (hn:1≤n) {v:Nat} {M:VM} (H:HS g h (ab v M::R)) (O:cU M) :
  af n 105 [.ptr v 0] h λr h'=>HS g h' (qF 129 2 M.K.length r (M.K.flatMap jH)::ab v M::R):=by
 refine ag rfl omQ λk hk=>?_;unfold S105;try simp only[iZ]
 obtain⟨fv,ov,q,e,H⟩:=ab.E H;have mO:=O.td;refine qK (qQ (qZ ‹_› .here rfl ?_));refine qd ‹_› e_2<|JG (ln:=0) (cp:=M.K.length) H rfl omQ omQ λkv h1 H1=>?_;rw[Nat.zero_mul,List.take_zero]at H1;refine qK (qQ (qZ ‹_› e_1 rfl ?_));refine qd ‹_› e_3<|jF (λm s h'=>∃(i:Nat) (kv:AV),s=(.int .i64 (i:Int),.int .i64 (M.K.length:Int),ov,kv,.ptr v 0,())∧i≤M.K.length∧m=M.K.length-i∧
  HS g h' (qF 129 2 i kv ((M.K.take i).flatMap jH)::qx v [fv,ov,.ptr q 0,.int .i64 M.aw]::qF e 2 M.sz fv ((vA M.sz M.K).flatMap Q9)::
   qF 3 1 M.K.length ov (M.K.map λc=>.int .i64 c.1)::bU q M.most M.lv::R))
  ?_ (m:=M.K.length) omQ ⟨0,kv,rfl,by omega,by rfl,by grind⟩
 rintro m ih s h2 aY ⟨i,kv,rfl,hi,rfl,H⟩;by_cases ae:i<M.K.length
 ·have fX:M.K[i]? =some M.K[i]:=iW ae;have cM:=O.ins M.K[i] (List.getElem_mem ae);have hg:=qVh O.un (List.getElem_mem ae);have Ho:M.K.take (i+1)=M.K.take i++[M.K[i]]:=List.take_succ_eq_append_getElem ae;generalize hc:M.K[i]=c at*;obtain⟨p,x⟩:=c;dsimp only at cM hg;obtain⟨p,rfl⟩:∃j:Nat,p=(j:Int):=⟨p.toNat,by omega⟩;refine jB omQ<|qX (jN (H.sl e_3) (by rw[List.getElem?_map,fX];rfl) ?_);refine qK (qQ (qZ ‹_› e_1 rfl ?_));have hf:wZ M.K p=(x,true):=by grind[wZ]
  refine jU (H.sl e_2) omQ omQ (by rw[xl Q9 (λ_=>rfl) _ _ _ omQ,QT omQ,hf];rfl)<|qy rfl<|qr H rfl rfl rfl rfl λv5 h5 H5=>?_;refine jh (H5.ah e_1) (H5.sl .here) omQ omQ rfl λv6 h6 H6=>?_;refine qS omQ<|aY (M.K.length-(i+1)) _ _ omQ ⟨i+1,v6,rfl,by omega,rfl,?_⟩;rw[Ho,List.flatMap_append];exact H6.pk [0] 1
 ·obtain rfl:i=M.K.length:=by omega
  refine jk omQ<|qJ (qg ?_);rw[List.take_length]at H
  have H2:HS g h2 (qx v [fv,ov,.ptr q 0,.int .i64 M.aw]::qF e 2 M.sz fv ((vA M.sz M.K).flatMap Q9)::qF 3 1 M.K.length ov (M.K.map λc=>.int .i64 c.1)::bU q M.most M.lv::
   qF 129 2 M.K.length kv (M.K.flatMap jH)::R):=H.pk [1,1,1,1] 0
  exact qY ((ab.I H2).pk [1] 0)
end
section
variable {g h:AH} {L R:List SP}
theorem kf {c:CV} {l:List (Nat×Nat)} {t:TypeId} {x:AV} {f:Nat} {a:List AV} {K2:AV→AH→Go.Ae.R} {Q Q':AV→AH→Prop} (hf:Kl l t=some f) (w:wp (c (.fn f [] []) (x::a) h) Q') (hk:∀v h',Q' v h'→wp (K2 v h') Q):wp (yp c l (.iface t x) a h K2) Q:=by show wp (Option.rec (motive:=λ_=>Go.Ae.R) none (λf=>jC c (.fn f [] []) (x::a) h K2) (Kl l t)) Q;rw[hf];exact qW w hk
structure ZR where
  rv:AV
  bv:AV
  iv:AV
  fv:AV
  ev:AV
  cv:AV
  gv:Int
  vb:Nat
  db:Nat
def xP (x:jd) (q:ZR):List AV:=[.int .i64 x.me,.int .i64 x.set.words,.int .i64 x.set.aj,.int .i64 x.set.wide,.int .i64 x.set.aF,.int .u64 x.set.start,.int .i64 x.set.spins,.int .i64 x.set.writes,.int .i64 x.set.fuel,
 q.rv,q.bv,.int .i64 q.gv,.ptr q.vb 0,.ptr q.db 0,.int .i64 x.state,q.iv,q.fv,q.ev,q.cv,.bool x.begun,.int .u64 x.cI,.int .u64 x.ak,.int .i64 x.fin,.int .i64 x.bM,.int .i64 x.err,.bool x.aH]
def cm (vb:Nat) (j:Kv) (rv bv:AV) (gv:Int):SP:=match j with
 | .prog q=>.ex λz:Nat×Int=>.all [.di (rv=.ptr z.1 0∧bv=.ad∧gv=0),aB z.1 vb q.l 0 (qb q.l) q.s q.err q.fin q.left z.2]
 | .aV bs k=>.all [.di (rv=.au∧gv=(k:Int)),qF 3 1 bs.length bv (bs.map (.int .i64))]
def aL (st:Int) (f:kT) (e:wQ) (c:Option zG) (iv fv ev cv:AV):SP:=match c with
 |some c=>.ex λb:Nat=>.all [.di (cv=.ptr b 0∧(st=6→iv=.iface 100 (.ptr b 0))),ao b c]
 |none=>
  if st=3 then .ex λb:Nat=>.all [.di (cv=.au∧fv=.ptr b 0∧iv=.iface 98 (.ptr b 0)),qx b (wM f)]
  else if st=4∨st=5 then .ex λb:Nat=>.all [.di (cv=.au∧ev=.ptr b 0∧iv=.iface 99 (.ptr b 0)),bZ b e]
  else .di (cv=.au)
abbrev CI (a:Nat) (x:jd) (q:ZR) (R:List SP):List SP:=qx a (xP x q)::cm q.vb x.aW q.rv q.bv q.gv::ab q.vb x.v::bW q.db x.r::aL x.state x.f x.e x.c q.iv q.fv q.ev q.cv::R
def ax (a:Nat) (x:jd):SP:=.ex λq:ZR=>.all (CI a x q [])
section
variable {n a:Nat} {x:jd} {q:ZR}
theorem ax.E (H:HS g h (ax a x::R)):∃q,HS g h (CI a x q R):=by obtain⟨q,H⟩:=H.dj;exact⟨q,H.bS⟩
theorem ax.I (H:HS g h (CI a x q R)):HS g h (ax a x::R):=HS.dE q (HS.allI H)
theorem qGN (hn:1≤n) (H:HS g h L) (s:aR L (qx a (xP x q)) R):af n 28 [.ptr a 0] h λr h'=>r=.bm [.int .u64 x.cI,.bool x.begun]∧h'=h:=by
 refine ag rfl omQ λk hk=>?_;unfold S28;try simp only
 refine qK (qQ (qZ H s rfl ?_));refine qK (qQ (qZ H s rfl ?_))
 skip
 exact qY ⟨rfl,rfl⟩
theorem qKt (hn:1≤n) (H:HS g h L) (s:aR L (qx a (xP x q)) R):af n 29 [.ptr a 0] h λr h'=>r=.int .u64 x.ak∧h'=h:=by
 refine ag rfl omQ λk hk=>?_;unfold S29;try simp only
 refine qK (qQ (qZ H s rfl ?_))
 skip
 exact qY ⟨rfl,rfl⟩
theorem qX7 (hn:1≤n) (H:HS g h L) (s:aR L (qx a (xP x q)) R):af n 27 [.ptr a 0] h λr h'=>r=.int .i64 (vi x)∧h'=h:=by
 refine ag rfl omQ λk hk=>?_;unfold S27;try simp only[iZ]
 refine qK (qQ (qZ H s rfl ?_));unfold vi;by_cases c:x.state=8
 ·rw[iQ (λh=>h c)];refine q9 c<|qJ (qK (qQ (qZ H s rfl ?_)));exact qY ⟨rfl,rfl⟩
 ·rw[iJ c];refine jJ c<|qX<|qY ⟨rfl,rfl⟩
theorem qvS (hn:1≤n) (H:HS g h L) (s:aR L (qx a (xP x q)) R):af n 50 [.ptr a 0] h λr h'=>r=.int .i64 (Jd x)∧h'=h:=by
 refine ag rfl omQ λk hk=>?_;unfold S50;try simp only[iZ]
 refine qK (qQ (qZ H s rfl ?_));unfold Jd;by_cases c:x.state=8
 ·rw[iQ (λh=>h c)];refine q9 c<|qJ (qK (qQ (qZ H s rfl ?_)));exact qY ⟨rfl,rfl⟩
 ·rw[iJ c];refine jJ c<|qX<|qY ⟨rfl,rfl⟩
theorem qwu (hn:1≤n) (H:HS g h L) (s:aR L (qx a (xP x q)) R):af n 31 [.ptr a 0] h λr h'=>r=.int .i64 (YE x)∧h'=h:=by
 refine ag rfl omQ λk hk=>?_;unfold S31;try simp only[iZ]
 refine qK (qQ (qZ H s rfl ?_));unfold YE;by_cases c:x.state=8
 ·rw[iQ (λh=>h c)];refine q9 c<|qJ (qK (qQ (qZ H s rfl ?_)));exact qY ⟨rfl,rfl⟩
 ·rw[iJ c];refine jJ c<|qX<|qY ⟨rfl,rfl⟩
theorem Qi {f e y:Int} (hn:1≤n) (H:HS g h (qx a (xP x q)::R)):af n 63 [.ptr a 0,.int .i64 f,.int .i64 e,.int .i64 y] h λ_ h'=>HS g h' (qx a (xP (yG x f e y) q)::R):=by
 refine ra rfl omQ λk hk=>?_;unfold S63;try simp only[iZ]
 refine qK (qQ (qw H .here ⟨rfl,rfl⟩ (by simp[xP]) λh1 H1=>?_));refine qK (qQ (qw H1 .here ⟨rfl,rfl⟩ (by simp[xP]) λh2 H2=>?_));refine qK (qQ (qw H2 .here ⟨rfl,rfl⟩ (by simp[xP]) λh3 H3=>?_));refine qK (qQ (qw H3 .here ⟨rfl,rfl⟩ (by simp[xP]) λh4 H4=>?_));exact qY H4
theorem aL.nil {st:Int} {f:kT} {e:wQ} {iv fv ev cv:AV} (H:HS g h (aL st f e none iv fv ev cv::R)):cv=.au∧HS g h R:=by
 unfold aL at H;dsimp only at H
 split at H
 ·obtain⟨b,H⟩:=H.dj;have H:=H.bS;exact⟨H.cX.1.1,H.drop.drop⟩
 ·split at H
  ·obtain⟨b,H⟩:=H.dj;have H:=H.bS;exact⟨H.cX.1.1,H.drop.drop⟩
  ·exact H.cX
theorem aL.fet {f:kT} {e:wQ} {iv fv ev cv:AV} (H:HS g h (aL 3 f e none iv fv ev cv::R)):∃b,(cv=.au∧fv=.ptr b 0∧iv=.iface 98 (.ptr b 0))∧HS g h (qx b (wM f)::R):=by obtain⟨b,H⟩:=(show HS g h (.ex (λb:Nat=>SP.all [.di (cv=.au∧fv=.ptr b 0∧iv=.iface 98 (.ptr b 0)),qx b (wM f)])::R)from H).dj;exact⟨b,H.bS.cX⟩
end
end
section
theorem Xf {l t:List qe} {j:Nat} (h:j<l.length):qU (l++t) (j:Int)=qU l (j:Int):=by grind[qU,Int.toNat_natCast,List.getElem?_append_left]
theorem JL {l t:List qe} {k:Nat} {x:qe} (h:t[k]? =some x):qU (l++t) ((l.length+k:Nat):Int)=x:=by unfold qU;grind
theorem wn {l t:List qe}:∀i,i≤l.length→qL (l++t) i=qL l i:=by
 intro i
 induction i with
 |zero=>intro _;rfl
 |succ i ih=>intro h;rw[jb,jb,ih omQ,Xf omQ]
theorem qkI {l t:List qe} {st:List Int} (h:ch l.length st):cg (l++t) st=cg l st:=by
 unfold cg;by_cases h0:st=[]
 ·grind
 ·rw[iQ h0,iQ h0];have hb:=h.dG h0;obtain⟨p,hp⟩:∃p:Nat,jW st=p:=⟨(jW st).toNat,by omega⟩;rw[hp,Xf omQ]
theorem MK {l t:List qe} {st:List Int} {x:qe} (h:ch l.length st):xJ (l++t) st x=xJ l st x:=by grind[xJ,qkI]
theorem ch.mono {i j:Nat} {st:List Int} (h:ch i st) (AD:i≤j):ch j st:=λy hy=>by have:=h y hy;omega
def qju (l:List qe) (calm:Bool) (j:Nat) (x:qe):Prop:=(x.1=12∨x.1=13)→∃c:Nat,x.2.2.2.1=c∧c≤l.length∧qL l c=qL l j∧(calm=true→j<c)
structure Gd (calm:Bool) (x:qe):Prop where
  may:gG x=true
  no:x.1≠23
  n:0≤x.2.2.2.2∧x.2.2.2.2<18446744073709551616
  cal:calm=true→x.1≠20∧x.1≠22∧x.1≠12
structure cV (calm:Bool) (l:List qe) (st:List Int):Prop where
  ok:∀x∈l,Gd calm x
  wr:∀j,j<l.length→xJ l (qL l j) (qU l j)=0
  top:qL l l.length=st
  jp:∀j,j<l.length→qju l calm j (qU l j)
  oM:st.length≤5
def zY (l:List qe) (st:List Int):List Int:=st.map λp=>(qU l p).1
theorem Yq {l t:List qe} {st:List Int} (h:ch l.length st):zY (l++t) st=zY l st:=by unfold zY;refine List.map_congr_left λp hp=>?_;have:=h p hp;obtain⟨q,rfl⟩:∃q:Nat,p=q:=⟨p.toNat,by omega⟩;rw[Xf omQ]
theorem cV.tz {calm:Bool} {l:List qe} {st:List Int} (B:cV calm l st):ch l.length st:=by rw[← B.top];exact(YI l.length).1
theorem cV.nil (calm:Bool):cV calm [] []:=⟨λx hx=>(by grind),λj hj=>(by grind),rfl,λj hj=>(by grind),aA⟩
theorem cV.ext {calm:Bool} {l t:List qe} {st:List Int} (B:cV calm l st) (h1:∀x∈t,Gd calm x) (h2:∀k,k<t.length→xJ (l++t) (qL (l++t) (l.length+k)) (qU (l++t) ((l.length+k:Nat):Int))=0)
  (h3:∀k,k<t.length→qju (l++t) calm (l.length+k) (qU (l++t) ((l.length+k:Nat):Int))) (h5:(qL (l++t) (l++t).length).length≤5):cV calm (l++t) (qL (l++t) (l++t).length):=by
 refine⟨?_,?_,rfl,?_,h5⟩
 ·intro x hx;rcases List.mem_append.1 hx with hx |hx
  ·exact B.ok x hx
  grind
 ·intro j hj;by_cases l9:j<l.length
  ·rw[wn j omQ,Xf l9,MK ((YI j).1.mono omQ)];exact B.wr j l9
  ·have:=h2 (j-l.length) (by grind)
   simp_all
 ·intro j hj;by_cases l9:j<l.length
  ·intro ho;rw[Xf l9]at ho ⊢;obtain⟨c,c1,c2,c3,c4⟩:=B.jp j l9 ho;exact⟨c,c1,by grind,by rw[wn c c2,wn j omQ];grind,c4⟩
  ·have:=h3 (j-l.length) (by grind)
   simp_all
theorem qG2 {l:List qe} {x:qe}:qL (l++[x]) (l.length+1)=jD (qL l l.length) l.length x.1:=by have e:=JL (l:=l) (t:=[x]) (k:=0) (x:=x) rfl;simp_all[Nat.add_zero,jb,wn]
theorem cV.ix {calm:Bool} {l:List qe} {st:List Int} (B:cV calm l st) {x:qe} (h1:Gd calm x) (h2:xJ l st x=0) (h3:x.1≠12∧x.1≠13) (h5:(jD st l.length x.1).length≤5):cV calm (l++[x]) (jD st l.length x.1):=by
 have e:=JL (l:=l) (t:=[x]) (k:=0) (x:=x) rfl;rw[Nat.add_zero]at e;have hs:qL (l++[x]) (l++[x]).length=jD st l.length x.1:=by rw[List.length_append,List.length_singleton,qG2,B.top]
 rw[← hs]at h5 ⊢;refine B.ext (by grind) ?_ ?_ h5
 ·intro k hk;obtain rfl:k=0:=by grind
  rw[Nat.add_zero,e,wn _ (Nat.le_refl _),B.top,MK B.tz];grind
 ·intro k hk;obtain rfl:k=0:=by grind
  rw[Nat.add_zero,e];intro ho;omega
def Flat (op:Int):Prop:=op≠14∧op≠15∧op≠16∧op≠17∧op≠18∧op≠19
theorem Flat.behind {op:Int} (h:Flat op) (st:List Int) (i:Int):jD st i op=st:=by obtain⟨h1,h2,h3,h4,h5,h6⟩:=h;simp_all[jD,ze,zZ]
theorem Flat.tA {x:qe} (h:Flat x.1) (hm:gG x=true) (l:List qe) (st:List Int):xJ l st x=0:=by
 obtain⟨h1,h2,h3,h4,h5,h6⟩:=h;simp_all[xJ,zZ,ze]
theorem cV.flat {calm:Bool} {l:List qe} {st:List Int} (B:cV calm l st) {x:qe} (h1:Gd calm x) (hf:Flat x.1) (h3:x.1≠12∧x.1≠13):cV calm (l++[x]) st:=by
 have:=B.ix h1 (hf.tA h1.may l st) h3 (by rw[hf.behind];exact B.oM)
 rwa [hf.behind]at this
theorem cV.two {calm:Bool} {l:List qe} {st:List Int} (B:cV calm l st) {x y:qe} (hx:Gd calm x) (hy:Gd calm y) (fx:Flat x.1) (fy:Flat y.1)
  (jx:(x.1=12∨x.1=13)→x.2.2.2.1=((l.length+2:Nat):Int)) (jy:(y.1=12∨y.1=13)→y.2.2.2.1=(l.length:Int)∧calm=false):cV calm (l++[x,y]) st:=by
 have e0:=JL (l:=l) (t:=[x,y]) (k:=0) (x:=x) rfl;have e1:=JL (l:=l) (t:=[x,y]) (k:=1) (x:=y) rfl;rw[Nat.add_zero]at e0;have s0:qL (l++[x,y]) l.length=st:=by rw[wn _ (Nat.le_refl _),B.top]
 have s1:qL (l++[x,y]) (l.length+1)=st:=by rw[jb,s0,e0,fx.behind]
 have s2:qL (l++[x,y]) (l.length+2)=st:=by rw[show l.length+2=l.length+1+1 from rfl,jb,s1,e1,fy.behind]
 have hs:qL (l++[x,y]) (l++[x,y]).length=st:=by grind
 have:=B.ext (t:=[x,y]) (by grind) (λk hk=>by
  have hk:k=0∨k=1:=by grind
  rcases hk with rfl |rfl
  ·rw[Nat.add_zero,e0];exact fx.tA hx.may _ _
  ·rw[e1];exact fy.tA hy.may _ _) (λk hk=>by
  have hk:k=0∨k=1:=by grind
  rcases hk with rfl |rfl
  ·rw[Nat.add_zero,e0];intro ho;grind
  ·rw[e1];intro ho;grind) (by rw[hs];exact B.oM)
 grind
abbrev one (op:Int):qe:=(op,0,0,0,0)
theorem R8 (calm:Bool) {op:Int} (h:op=14∨op=15∨op=16∨op=17∨op=18∨op=19):Gd calm (one op):=by refine⟨?_,by grind,by simp,λ_=>by grind⟩;rcases h with rfl |rfl |rfl |rfl |rfl |rfl<;>decide
theorem cV.begin {calm:Bool} {l:List qe} {st:List Int} (B:cV calm l st) {op:Int} (h:op=14∨op=17) (h5:st.length<5):cV calm (l++[one op]) (st++[(l.length:Int)])∧zY (l++[one op]) (st++[(l.length:Int)])=zY l st++[op]:=by
 have hb:jD st l.length op=st++[(l.length:Int)]:=by unfold jD;rw[iJ (.inl (by simp_all[ze,iG])),iQ (by rcases h with rfl |rfl<;>decide)]
 have hw:xJ l st (one op)=0:=by unfold xJ;rw[iQ (by rcases h with rfl |rfl<;>decide),iQ (λhh=>by have:=hh.1;rcases h with rfl |rfl<;>exact absurd this od),iQ (λhh=>by grind),iQ omQ]
 have:=B.ix (R8 calm omQ) hw (by grind) (by grind);rw[hb]at this;refine⟨this,?_⟩;unfold zY;rw[List.map_append]
 congr 1
 ·exact Yq B.tz
 ·have e:=JL (l:=l) (t:=[one op]) (k:=0) (x:=one op) rfl;grind
theorem cV.R9 {calm:Bool} {l:List qe} {st:List Int} (B:cV calm l st) (h:cg l st=14):cV calm (l++[one 16]) st:=by
 have hb:jD st l.length 16=st:=by rfl
 have hw:xJ l st (one 16)=0:=by unfold xJ;rw[iQ od,iQ (λhh=>absurd hh.1 od),iQ (λhh=>hh.2 h),iQ (λhh=>absurd hh.1 od)]
 have:=B.ix (R8 calm omQ) hw od (by rw[hb];exact B.oM)
 grind
def gB (o:Int):Int:=if o=14 then 15 else if o=17 then 18 else 19
def JE (l:List qe) (st:List Int):List qe:=l++[one (gB (cg l st))]
def YB (l:List qe) (st:List Int):List Int:=if cg l st=17 then st.dropLast++[(l.length:Int)]else st.dropLast
theorem cV.shut {calm:Bool} {l:List qe} {st:List Int} (B:cV calm l st) (_:st≠[]) (ho:cg l st=14∨cg l st=17∨cg l st=18):cV calm (JE l st) (YB l st)∧
  zY (JE l st) (YB l st)=(zY l st).dropLast++(if cg l st=17 then[18]else[]):=by
 have hs:zZ (gB (cg l st))=cg l st:=by rcases ho with h |h |h<;>rw[h]<;>decide
 have I7:gB (cg l st)=15∨gB (cg l st)=18∨gB (cg l st)=19:=by
  grind[gB]
 have he:0<zZ (gB (cg l st)):=by grind
 have hb:jD st l.length (gB (cg l st))=YB l st:=by
  unfold jD YB;rw[iJ he];by_cases lV:cg l st=17
  ·rw[iJ lV,iJ (.inr (by rw[lV];rfl))]
  ·rw[iQ lV,iQ];rcases ho with h |h |h
   ·rw[h];decide
   ·grind
   ·rw[h];decide
 have hw:xJ l st (one (gB (cg l st)))=0:=by
  unfold xJ
  rw[iQ (by rcases I7 with h |h |h<;>rw[h]<;>decide),iQ (λhh=>hh.2 hs.symm),iQ (λhh=>by grind),iQ (λhh=>by
   have:=hh.1
   rcases I7 with h |h |h<;>rw[h]at this<;>exact absurd this od)]
 have h5:=B.oM;have:=B.ix (R8 calm omQ) hw (by grind) (by grind[YB]);rw[hb]at this;refine⟨this,?_⟩;unfold JE YB zY;have hd:(st.dropLast.map λp=>(qU (l++[one (gB (cg l st))]) p).1)=(zY l st).dropLast:=by have:=Yq (t:=[one (gB (cg l st))]) B.tz.dropLast;simp_all[zY,List.map_dropLast]
 split
 ·rename_i lV;have e:=JL (l:=l) (t:=[one (gB (cg l st))]) (k:=0) (x:=one (gB (cg l st))) rfl;rw[Nat.add_zero]at e;rw[List.map_append,hd,List.map_singleton,e,lV];rfl
 ·rw[hd,List.append_nil];rfl
theorem qJB {l:List qe} {st:List Int} (hn:st≠[]):cg l st=(zY l st).getLast?.getD 0:=by unfold cg zY jW;simp_all[List.getLast?_eq_some_getLast]
theorem cV.fit {calm:Bool} {l:List qe} (B:cV calm l []) (h0:0<l.length) (WJ:l.length≤40):yu l=(0,0):=by
 have key:∀d i,i+d=l.length→mc l (l.drop i) i (qL l i)=.inr []:=by
  intro d
  induction d with
  |zero=>
   intro i hi;obtain rfl:i=l.length:=by omega
   rw[List.drop_length,B.top];rfl
  |succ d ih=>
   intro i hi;have ae:i<l.length:=by omega
   rw[GP ae];have hw:=B.wr i ae;rw[xq ae]at hw;rw[iJ hw];have:=ih (i+1) omQ;grind[jb,xq]
 have hg:=key l.length 0 omQ;have Sa:∀j,j<l.length→(xc l 0 [])[j]? =some (jW (qL l j)):=λj hj=>by
  have:=Mg (l:=l) l.length 0 omQ j omQ;rw[Nat.zero_add]at this;trivial
 have CJ:∀j:Nat,j<l.length→qP (xc l 0 []) (j:Int)=jW (qL l j):=λj hj=>by
  grind[qP,Int.toNat_natCast]
 have hj:∀d i,i+d=l.length→XC l (xc l 0 []) (l.drop i) i=(0,0):=by
  intro d
  induction d with
  |zero=>
   intro i hi;obtain rfl:i=l.length:=by omega
   rw[List.drop_length];rfl
  |succ d ih=>
   intro i hi;have ae:i<l.length:=by omega
   rw[YU ae,iQ,ih (i+1) omQ];rintro⟨ho,hc⟩;have hB:=B.jp i ae;rw[xq ae]at hB;obtain⟨c,c1,c2,c3,_⟩:=hB ho;rw[c1]at hc;rcases hc with hc |⟨hc,na⟩ |⟨hc,na⟩
   ·omega
   ·have:c=l.length:=by omega
    subst this;rw[B.top]at c3;rw[CJ i ae,← c3]at na;trivial
   grind
 unfold yu;rw[iQ omQ];have ul:mc l l 0 []=.inr []:=hg;rw[ul];dsimp only;rw[iJ rfl];exact hj l.length 0 omQ
end
section
variable {g h:AH} {L R:List SP}
def CK (zs:List Int):Prop:=∀z∈zs,0≤z∧z<18446744073709551616
theorem CK.set {zs:List Int} {i:Nat} {x:Int} (h:CK zs) (hx:0≤x∧x<18446744073709551616):CK (zs.set i x):=by
 intro z hz;rcases List.mem_or_eq_of_mem_set hz with h1 |rfl
 ·exact h z h1
 grind
theorem Kp {u x:Bool} {r:AV} {K:AV→Go.Ae.R} {Q:AV→AH→Prop} (hr:u=true→r=.bool x) (w:wp (K (.bool (u&&x))) Q):wp (zo (.bool u) r (.bool false) K) Q:=by
 cases u
 ·exact w
 ·rw[hr rfl];exact w
theorem qz9 {k:IntKind} {a b:Int} {K:AV→Go.Ae.R} {Q:AV→AH→Prop} (w:∀z:Int,wp (K (.int k z)) Q):wp (jY .and (.int k a) (.int k b) K) Q:=by rw[ki];simp only[QH];exact w _
def tw (c:Int):Int:=zC .i64 (1*2 ^ (min c.toNat (IntKind.bits .i64)))
theorem Sc {c:Int} (h:1≤c∧c≤3):2≤tw c∧tw c≤8:=by
 obtain rfl |rfl |rfl:c=1∨c=2∨c=3:=by omega
 all_goals decide
theorem gH {x lo hi:Int} (h:lo≤hi):lo≤jt x lo hi∧jt x lo hi≤hi:=by
 unfold jt;have:=XK x (show 0<hi-lo+1 by omega)
 grind
def A6 (zs:List Int):Prop:=CK zs∧zs[0]? =some 0
theorem A6.set {zs:List Int} {i:Nat} {x:Int} (h:A6 zs) (hx:0≤x∧x<18446744073709551616) (hi:0<i):A6 (zs.set i x):=⟨h.1.set hx,by rw[List.getElem?_set_ne omQ];exact h.2⟩
theorem qZd {n:Nat} (hn:2≤n) {x:Int} {rv bv:AV} {rs bs:List Int} (H:HS g h R) (SR:Rd g R 1 rs.length rv (rs.map (.int .u64))) (hr:∀z∈rs,0≤z∧z<18446744073709551616) (S:Rd g R 1 bs.length bv (bs.map (.int .u8))) (hb:∀z∈bs,0≤z∧z≤255) :
  af n 36 [.int .i64 x,rv,bv] h λr h'=>∃zs,CK zs∧zs[0]? =some 0∧32≤zs.length∧zs.length≤80∧shut r=true∧Ww r∧HS g h' (qF 22 1 zs.length r (zs.map (.int .u64))::R):=by
 refine b8 rfl omQ λk hk=>?_;unfold S36;try simp only[iZ]
 refine qW (zr omQ omQ omQ omQ) ?_;rintro _ _ ⟨rfl,rfl⟩;have hwb:=gH (x:=x) (lo:=((32:Nat):Int)) (hi:=((80:Nat):Int)) omQ;obtain⟨n,hn⟩:∃n:Nat,jt x ((32:Nat):Int) ((80:Nat):Int)=(n:Int):=⟨_,(Int.toNat_of_nonneg omQ).symm⟩;rw[hn]at hwb ⊢;refine Og (Nat.le_refl _) omQ λb h3 l7 A F=>?_;have H3:HS g h3 (qF 22 1 n (.slice b 0 n n false) ((List.replicate n (0:Int)).map (.int .u64))::R):=by
  refine H.add (D':=λa=>a=b) F.none ⟨by simp,.inr ⟨b,n,false,_,rfl,λa=>Iff.rfl,A,by simp[vI],?_,?_⟩⟩ ?_
  ·simp[List.take_of_length_le,Uh,List.map_replicate]
  ·simp[aA,vI]
  ·rintro a rfl;exact⟨l7,A.lt⟩
 have z0:A6 (List.replicate n (0:Int)):=⟨by intro z hz;grind,by grind⟩;have El:shut (.slice b 0 n n false)=true:=rfl;have hro:Ww (.slice b 0 n n false):=Nat.le_refl n;generalize AV.slice b 0 n n false=wv at*;clear H F A;refine yr H3 omQ ⟨rfl,rfl⟩ λh4 H=>?_;rw[← List.map_set]at H;have z1:=z0.set (i:=5) (x:=((14:Nat):Int)) omQ omQ;have l1:((List.replicate n (0:Int)).set 5 ((14:Nat):Int)).length=n:=by simp
 generalize(List.replicate n (0:Int)).set 5 ((14:Nat):Int)=zs at*;clear z0 H3;refine jF (λm s h'=>∃(i:Nat) (zs:List Int),s=(.int .i64 (i:Int),wv,bv,rv,())∧i≤8∧m=8-i∧A6 zs∧zs.length=n∧HS g h' (qF 22 1 n wv (zs.map (.int .u64))::R))
  ?_ (m:=8) omQ ⟨0,zs,rfl,by omega,by rfl,z1,l1,H⟩
 clear H z1 l1 zs;rintro m ih s h4 aY ⟨i,zs,rfl,hi8,rfl,z1,l1,H⟩;refine zH (SR.sl H.drop) (wX ?_);refine gS (λs g'=>∃(r:AV) (u x:Bool),s=(r,.bool u,.int .i64 (i:Int),wv,bv,rv,())∧g'=h4∧(u=true→r=.bool x)∧((u&&x)=decide (i<rs.length∧i<8))) ?_ ?_
 ·intro j hj;refine Qn (λhl=>wX (hj _ _ ⟨_,_,decide (i<8),rfl,rfl,λ_=>(by simp;omega),?_⟩)) (λhl=>hj _ _ ⟨_,_,false,rfl,rfl,λh=>absurd (of_decide_eq_true h) hl,?_⟩)
  all_goals grind
 rintro s h4 ⟨r,u,x2,rfl,rfl,Ry,I8⟩;refine Kp Ry ?_;rw[I8];clear Ry I8;refine Gi (λhi=>?_) λhi=>?_
 ·have fX:(rs.map (AV.int .u64))[i]? =some (.int .u64 rs[i]):=by simp
  have sA:=hr rs[i] (List.getElem_mem hi.1);have fU:=Int.tmod_nonneg ((90:Nat):Int) sA.1;have eI:=Int.tmod_lt_of_pos rs[i] (show 0<((90:Nat):Int) by omega);refine qS omQ (jN (SR.sl H.drop) fX (ga omQ ?_));rw[show((6:Nat):Int)+(i:Int)=((6+i:Nat):Int) by rfl];refine yr H omQ ⟨rfl,rfl⟩ λh6 H6=>?_;rw[← List.map_set]at H6;exact qS omQ (aY (8-(i+1)) _ _ omQ ⟨i+1,_,rfl,by omega,rfl,z1.set omQ omQ,by grind,H6⟩)
 ·refine jq [] (λs h'=>s=(wv,())∧∃zs,A6 zs∧zs.length=n∧HS g h' (qF 22 1 n wv (zs.map (.int .u64))::R)) ?_ ?_
  ·intro j hj;refine jF (λm s h'=>∃(i:Nat) (at':Int) (zs:List Int),s=(.int .i64 (i:Int),.int .i64 at',wv,bv,())∧i≤8∧m=8-i∧14≤at'∧at'≤n∧A6 zs∧zs.length=n∧HS g h' (qF 22 1 n wv (zs.map (.int .u64))::R))
    ?_ (m:=8) omQ ⟨0,((14:Nat):Int),zs,rfl,by omega,by rfl,by omega,by omega,z1,l1,H⟩
   clear H z1 l1 aY zs ih;rintro m ih s h5 aY ⟨i,a,zs,rfl,hi8,rfl,ha,DH,hz,hl,H⟩;refine zH (S.sl H.drop) (wX ?_);refine gS (λs g'=>∃(r:AV) (u x:Bool),s=(r,.bool u,.int .i64 (i:Int),.int .i64 a,wv,bv,())∧g'=h5∧(u=true→r=.bool x)∧((u&&x)=decide (i<bs.length∧i<8))) ?_ ?_
   ·intro j hj;refine Qn (λhl=>wX (hj _ _ ⟨_,_,decide (i<8),rfl,rfl,λ_=>(by simp;omega),?_⟩)) (λhl=>hj _ _ ⟨_,_,false,rfl,rfl,λh=>absurd (of_decide_eq_true h) hl,?_⟩)
    all_goals grind
   rintro s h5 ⟨r,u,x,rfl,rfl,hr,I8⟩;refine Kp hr ?_;rw[I8];refine Gi (λhi=>?_) λhi=>hj _ _ ⟨rfl,zs,hz,hl,H⟩;have fX:(bs.map (AV.int .u8))[i]? =some (.int .u8 bs[i]):=by simp
   have sA:=hb bs[i] (List.getElem_mem hi.1);have fU:=Int.tmod_nonneg ((3:Nat):Int) sA.1;have eI:=Int.tmod_lt_of_pos bs[i] (show 0<((3:Nat):Int) by omega);refine jN (S.sl H.drop) fX (ga omQ (zx omQ (qS omQ ?_)));obtain⟨c,hc⟩:∃c,c=Int.tmod bs[i] ((3:Nat):Int)+((1:Nat):Int):=⟨_,rfl⟩;rw[← hc];have Ir:1≤c∧c≤3:=by omega
   have htw:=Sc Ir;refine qS omQ (zt omQ (N7 omQ ?_));show wp (jY .add _ (.int .i64 (tw c)) _) _;refine qS omQ (qd H .here (yz (λhg=>qX (hj _ _ ⟨rfl,zs,hz,hl,H⟩)) λhg=>qJ ?_));obtain⟨p,rfl⟩:∃p:Nat,a=(p:Int):=⟨a.toNat,by omega⟩;refine zt omQ<|yr H omQ ⟨rfl,rfl⟩ λh6 H=>?_;rw[← List.map_set]at H;have Hp:=hz.set (i:=p) (x:=c) omQ omQ;have l6:(zs.set p c).length=n:=by grind
   generalize zs.set p c=A7 at*;clear hz hl;refine jq [] (λs h'=>s=(.int .i64 c,.int .i64 (i:Int),.int .i64 (p:Int),wv,bv,())∧∃zs,A6 zs∧zs.length=n∧HS g h' (qF 22 1 n wv (zs.map (.int .u64))::R)) ?_ ?_
   ·intro j hj;refine jN (S.sl H.drop) fX (qz9 λz=>?_);refine yz (λ_=>qX ?_) λ_=>qJ ?_
    ·refine qS omQ (zt omQ ?_);refine yr H omQ ⟨rfl,rfl⟩ λh7 H7=>?_;rw[← List.map_set]at H7;exact hj _ _ ⟨rfl,_,Hp.set omQ omQ,by grind,H7⟩
    ·refine jN (S.sl H.drop) fX (qz9 λz=>?_);refine yz (λ_=>qX ?_) λ_=>qJ (hj _ _ ⟨rfl,A7,Hp,l6,H⟩);refine qS omQ (qS omQ (jK omQ ?_));obtain⟨d,hd⟩:∃d:Nat,((1:Nat):Int)+c-((1:Nat):Int)=(d:Int):=⟨c.toNat,by omega⟩;rw[hd];have I9:d<A7.length:=by omega
     refine jN (H.sl .here) (by rw[List.getElem?_map,iW I9];rfl) ?_;rw[show(p:Int)+((1:Nat):Int)=((p+1:Nat):Int) by rfl];refine yr H omQ ⟨rfl,rfl⟩ λh7 H7=>?_;rw[← List.map_set]at H7;refine qS omQ (jK omQ (qS omQ (zt omQ ?_)));rw[hd];refine yr H7 omQ ⟨rfl,rfl⟩ λh8 H8=>?_;rw[← List.map_set]at H8;exact hj _ _ ⟨rfl,_,(Hp.set (Hp.1 A7[d] (List.getElem_mem I9)) omQ).set omQ omQ,by grind,H8⟩
   rintro s h7 ⟨rfl,zs3,hz3,Dd,H⟩;refine qS omQ (zt omQ (N7 omQ ?_));show wp (jY .add _ (.int .i64 (tw c)) _) _;refine qS omQ (zt omQ ?_);refine yr H omQ ⟨rfl,rfl⟩ λh8 H8=>?_;rw[← List.map_set]at H8;refine qS omQ (aY (8-(i+1)) _ _ omQ ⟨i+1,_,_,rfl,by omega,rfl,by omega,by omega,hz3.set omQ omQ,by grind,H8⟩)
  rintro s h5 ⟨rfl,zs,hz,hl,H⟩;refine qg (qY ⟨zs,hz.1,hz.2,by omega,by omega,El,hro,?_⟩);grind
end
section
variable {g h:AH} {L R:List SP}
def xf (lv:AV) (l:List qe):SP:=qF 77 5 l.length lv (l.flatMap jG)
def Yr (ov:AV) (o:List Int):SP:=qF 3 1 o.length ov (o.map (.int .i64))
theorem YX {n:Nat} (hn:2≤n) {x:Int}:af n 38 [.int .i64 x] h λv h'=>v=.int .i64 (jt x 0 6)∧h'=h:=by
 refine ag rfl omQ λk hk=>?_;unfold S38;try simp only[iZ]
 refine qW (zr omQ omQ omQ omQ) ?_;rintro _ _ ⟨rfl,rfl⟩;exact qY ⟨rfl,rfl⟩
theorem QK {l:List qe} {lv:AV} {t:List qe} {tv:AV} {K2:AV→AH→Go.Ae.R} {Q:AV→AH→Prop} {D':Nat→Prop} (H:HS g h (xf lv l::R)) (S:Sl D' h 5 t.length tv (t.flatMap jG)) (hl:l.length+t.length≤100000)
  (w:∀v' h',HS g h' (xf v' (l++t)::R)→wp (K2 v' h') Q):wp (z6 h 77 5 lv tv K2) Q:=by
 refine jh H S omQ omQ (KT t) λv' h' H'=>w v' h' ?_;simp_all[xf,List.length_append,List.flatMap_append]
theorem Sd {a n:Int} (h:0≤a∧a≤7):gG (1,a,0,0,n)=true:=by grind[gG,jM,vS]
theorem Hq {a b:Int} (h:0≤a∧a≤7) (h2:0≤b∧b≤7):gG (2,a,b,0,0)=true:=by grind[gG,jM,vS]
theorem Hr {o a b c:Int} (ho:3≤o∧o≤7) (h:0≤a∧a≤7) (h2:0≤b∧b≤7) (h3:0≤c∧c≤7):gG (o,a,b,c,0)=true:=by
 rcases(show o=3∨o=4∨o=5∨o=6∨o=7 by omega)with rfl |rfl |rfl |rfl |rfl<;>(grind[gG,jM,vS])
theorem Gz {o a b c:Int} (ho:o=8∨o=9) (h:0≤a∧a≤7) (h2:0≤b∧b≤7) (h3:0≤c∧c≤15):gG (o,a,b,c,0)=true:=by
 rcases ho with rfl |rfl<;>(grind[gG,jM,vS])
theorem qqi {a b:Int} (h:0≤a∧a≤7) (h2:0≤b∧b≤7):gG (10,a,b,0,0)=true:=by grind[gG,jM,vS]
theorem qzA {o a:Int} (ho:o=11∨o=21) (h:0≤a∧a≤7):gG (o,a,0,0,0)=true:=by
 rcases ho with rfl |rfl<;>(grind[gG,jM,vS])
theorem qY4 {a c:Int} (h:0≤a∧a≤7) (h3:0≤c∧c≤40):gG (13,a,0,c,0)=true:=by grind[gG,jM,vS]
structure VL (x:qe):Prop where
  flat:Flat x.1
  nj:x.1≠12∧x.1≠13
  ok:∀calm,Gd calm x
theorem VL.of {x:qe} (h1:gG x=true) (h2:(1≤x.1∧x.1≤11)∨x.1=21) (h3:0≤x.2.2.2.2∧x.2.2.2.2<18446744073709551616):VL x :=
 ⟨⟨by omega,by omega,by omega,by omega,by omega,by omega⟩,by omega,λ_=>⟨h1,by omega,h3,λ_=>by omega⟩⟩
set_option maxHeartbeats 4000000 in
theorem YO {n:Nat} (hn:3≤n) {kx:qe} (hN:0≤kx.2.2.2.2∧kx.2.2.2.2<18446744073709551616) (H:HS g h R) :
  af n 39 [.agg (jG kx)] h λr h'=>∃x,r=.agg (jG x)∧VL x∧HS g h' R:=by
 refine ag rfl omQ λk hk=>?_;unfold S39;try simp only[iZ]
 refine qH H rfl λb0 h1 H1=>?_;refine qH H1 rfl λb2 h2 H2=>?_;have H2:HS g h2 (qx b2 [.int .i64 ((0:Nat):Int),.int .i64 ((0:Nat):Int),.int .i64 ((0:Nat):Int),.int .i64 ((0:Nat):Int),.int .u64 ((0:Nat):Int)]::qx b0 (jG kx)::R):=H2;clear H H1;refine qG ?_
 try dsimp only
 refine qQ (qZ H2 e_1 rfl ?_);refine qW (YX omQ) ?_;rintro _ _ ⟨rfl,rfl⟩;refine qQ (qZ H2 e_1 rfl ?_);refine qW (YX omQ) ?_;rintro _ _ ⟨rfl,rfl⟩;refine qQ (qZ H2 e_1 rfl ?_);refine qW (YX omQ) ?_;rintro _ _ ⟨rfl,rfl⟩;refine qu H2 e_1 rfl H2 e_1 rfl (HS.lt H2 e_1)<|qu H2 e_1 rfl H2 e_1 rfl (HS.lt H2 e_1)<|qu H2 e_1 rfl H2 e_1 rfl (HS.lt H2 e_1)<|qQ (qZ H2 e_1 rfl ?_);refine qW (zr omQ omQ omQ omQ) ?_;rintro _ _ ⟨rfl,rfl⟩;refine qQ (qZ H2 e_1 rfl ?_);refine qW (zr omQ omQ omQ omQ) ?_;rintro _ _ ⟨rfl,rfl⟩;have ha:=zm kx.2.1 (show(0:Int)≤6 by omega);have hb:=zm kx.2.2.1 (show(0:Int)≤6 by omega);have hc:=zm kx.2.2.2.1 (show(0:Int)≤6 by omega);have da:=zm kx.2.2.2.1 (show(((6:Nat):Int))≤((15:Nat):Int) by omega);have hw:=zm kx.1 (show(((0:Nat):Int))≤((19:Nat):Int) by omega);generalize jt kx.2.1 0 6=a at*;generalize jt kx.2.2.1 0 6=b at*;generalize jt kx.2.2.2.1 0 6=c at*;generalize jt kx.2.2.2.1 ((6:Nat):Int) ((15:Nat):Int)=at_ at*;generalize jt kx.1 ((0:Nat):Int) ((19:Nat):Int)=w at*;have fin:∀(x:qe) (h0:AH),VL x→HS g h0 (qx b2 [.int .i64 ((0:Nat):Int),.int .i64 ((0:Nat):Int),.int .i64 ((0:Nat):Int),.int .i64 ((0:Nat):Int),.int .u64 ((0:Nat):Int)]::qx b0 (jG kx)::R)→
   wp (qn h0 (.ptr b2 0) (.agg (jG x)) 5 λFB=>jR [] FB λoG=>q8 oG (.ptr b2 0) 5 λv24=>some (v24,oG)) λr h'=>∃x,r=.agg (jG x)∧VL x∧HS g h' R:=by
  intro x h0 hx H0;refine qh H0 .here rfl (by simp) rfl λh6 H6=>?_;refine qg (qD H6 .here rfl omQ rfl ?_);exact qY ⟨x,rfl,hx,H6.drop.drop⟩
 have z0:(0:Int)≤0∧(0:Int)<18446744073709551616:=by omega
 have hd:w=0∨w=1∨w=2∨w=3∨w=4∨w=5∨w=6∨w=7∨w=8∨w=9∨w=10∨w=11∨w=12∨w=13∨w=14∨w=15∨w=16∨17≤w:=by omega
 rcases hd with h0 |h0 |h0 |h0 |h0 |h0 |h0 |h0 |h0 |h0 |h0 |h0 |h0 |h0 |h0 |h0 |h0 |h0
 all_goals (first |(refine qG<|qV omQ<|qJ<|qV omQ<|qJ<|qV omQ<|qJ<|qV omQ<|qJ<|qV omQ<|qJ<|qG<|qV omQ<|qJ<|qV omQ<|qJ<|qV omQ<|qJ<|qG<|qV omQ<|qJ<|qV omQ<|qJ<|qV omQ<|qJ<|qV omQ<|qJ<|qV omQ<|qJ<|qG<|qV omQ<|qJ<|qV omQ<|qJ<|qV omQ<|qJ<|qj omQ<|qX<|qy rfl ?_) |(refine qG<|qV omQ<|qJ<|qV omQ<|qJ<|qV omQ<|qJ<|qV omQ<|qJ<|qV omQ<|qJ<|qG<|qV omQ<|qJ<|qV omQ<|qJ<|qV omQ<|qJ<|qG<|qV omQ<|qJ<|qV omQ<|qJ<|qV omQ<|qJ<|qV omQ<|qJ<|qV omQ<|qJ<|qG<|qV omQ<|qJ<|qV omQ<|qJ<|qV omQ<|qJ<|qV omQ<|qJ<|qy rfl ?_) |(refine qG<|qV omQ<|qJ<|qV omQ<|qJ<|qV omQ<|qJ<|qV omQ<|qJ<|qV omQ<|qJ<|qG<|qV omQ<|qJ<|qV omQ<|qJ<|qV omQ<|qJ<|qG<|qV omQ<|qJ<|qV omQ<|qJ<|qV omQ<|qJ<|qV omQ<|qJ<|qV omQ<|qJ<|qG<|qV omQ<|qJ<|qV omQ<|qJ<|qj omQ<|qX<|qy rfl ?_) |(refine qG<|qV omQ<|qJ<|qV omQ<|qJ<|qV omQ<|qJ<|qV omQ<|qJ<|qV omQ<|qJ<|qG<|qV omQ<|qJ<|qV omQ<|qJ<|qV omQ<|qJ<|qG<|qV omQ<|qJ<|qV omQ<|qJ<|qV omQ<|qJ<|qV omQ<|qJ<|qV omQ<|qJ<|qG<|qV omQ<|qJ<|qj omQ<|qX<|qy rfl ?_) |(refine qG<|qV omQ<|qJ<|qV omQ<|qJ<|qV omQ<|qJ<|qV omQ<|qJ<|qV omQ<|qJ<|qG<|qV omQ<|qJ<|qV omQ<|qJ<|qV omQ<|qJ<|qG<|qV omQ<|qJ<|qV omQ<|qJ<|qV omQ<|qJ<|qV omQ<|qJ<|qV omQ<|qJ<|qG<|qj omQ<|qX<|qX<|qy rfl ?_) |(refine qG<|qV omQ<|qJ<|qV omQ<|qJ<|qV omQ<|qJ<|qV omQ<|qJ<|qV omQ<|qJ<|qG<|qV omQ<|qJ<|qV omQ<|qJ<|qV omQ<|qJ<|qG<|qV omQ<|qJ<|qV omQ<|qJ<|qV omQ<|qJ<|qV omQ<|qJ<|qj omQ<|qX<|qQ<|qZ ‹_› e_1 rfl ?_) |(refine qG<|qV omQ<|qJ<|qV omQ<|qJ<|qV omQ<|qJ<|qV omQ<|qJ<|qV omQ<|qJ<|qG<|qV omQ<|qJ<|qV omQ<|qJ<|qV omQ<|qJ<|qG<|qV omQ<|qJ<|qV omQ<|qJ<|qV omQ<|qJ<|qj omQ<|qX<|qQ<|qZ ‹_› e_1 rfl ?_) |(refine qG<|qV omQ<|qJ<|qV omQ<|qJ<|qV omQ<|qJ<|qV omQ<|qJ<|qV omQ<|qJ<|qG<|qV omQ<|qJ<|qV omQ<|qJ<|qV omQ<|qJ<|qG<|qV omQ<|qJ<|qV omQ<|qJ<|qj omQ<|qX<|qy rfl ?_) |(refine qG<|qV omQ<|qJ<|qV omQ<|qJ<|qV omQ<|qJ<|qV omQ<|qJ<|qV omQ<|qJ<|qG<|qV omQ<|qJ<|qV omQ<|qJ<|qV omQ<|qJ<|qG<|qV omQ<|qJ<|qj omQ<|qX<|qX<|qy rfl ?_) |(refine qG<|qV omQ<|qJ<|qV omQ<|qJ<|qV omQ<|qJ<|qV omQ<|qJ<|qV omQ<|qJ<|qG<|qV omQ<|qJ<|qV omQ<|qJ<|qV omQ<|qJ<|qG<|qj omQ<|qX<|qX<|qy rfl ?_) |(refine qG<|qV omQ<|qJ<|qV omQ<|qJ<|qV omQ<|qJ<|qV omQ<|qJ<|qV omQ<|qJ<|qG<|qV omQ<|qJ<|qV omQ<|qJ<|qj omQ<|qX<|qy rfl ?_) |(refine qG<|qV omQ<|qJ<|qV omQ<|qJ<|qV omQ<|qJ<|qV omQ<|qJ<|qV omQ<|qJ<|qG<|qV omQ<|qJ<|qj omQ<|qX<|qX<|qy rfl ?_) |(refine qG<|qV omQ<|qJ<|qV omQ<|qJ<|qV omQ<|qJ<|qV omQ<|qJ<|qV omQ<|qJ<|qG<|qj omQ<|qX<|qX<|qy rfl ?_) |(refine qG<|qV omQ<|qJ<|qV omQ<|qJ<|qV omQ<|qJ<|qV omQ<|qJ<|qj omQ<|qX<|qQ<|qZ ‹_› e_1 rfl ?_) |(refine qG<|qV omQ<|qJ<|qj omQ<|qX<|qQ<|qZ ‹_› e_1 rfl<|qy rfl ?_) |(refine qG<|qV omQ<|qJ<|qV omQ<|qJ<|qj omQ<|qX<|qQ<|qZ ‹_› e_1 rfl ?_) |(refine qG<|qV omQ<|qJ<|qV omQ<|qJ<|qV omQ<|qJ<|qj omQ<|qX<|qy rfl ?_) |with_reducible (refine qG<|qj omQ<|qX<|qX<|qQ<|qZ ‹_› e_1 rfl<|qy rfl ?_))
 ·exact fin (1,a,0,0,kx.2.2.2.2) _ (.of (Sd omQ) (by omega) hN) H2
 ·exact fin (1,a,0,0,kx.2.2.2.2) _ (.of (Sd omQ) (by omega) hN) H2
 ·refine ga od ?_;obtain⟨m,hm⟩:∃m:Nat,kx.2.2.2.2=m:=⟨kx.2.2.2.2.toNat,by omega⟩;have ht:kx.2.2.2.2.tmod ((20:Nat):Int)=((m%20:Nat):Int):=by rw[hm];rfl
  rw[ht];refine qy rfl<|fin (1,a,0,0,((m%20:Nat):Int)) _ (.of (Sd omQ) (by dsimp only;omega) (by dsimp only;omega)) H2
 ·exact fin (2,a,b,0,0) _ (.of (Hq omQ omQ) (by omega) z0) H2
 ·refine ga od ?_;obtain⟨m,hm⟩:∃m:Nat,kx.2.2.2.2=m:=⟨kx.2.2.2.2.toNat,by omega⟩;have ht:kx.2.2.2.2.tmod ((64:Nat):Int)=((m%64:Nat):Int):=by rw[hm];rfl
  rw[ht];refine zx omQ<|qW (zr omQ omQ omQ omQ) ?_;rintro _ _ ⟨rfl,rfl⟩;have ho:=zm ((m%64:Nat):Int) (show(((0:Nat):Int))≤((4:Nat):Int) by omega);generalize jt ((m%64:Nat):Int) ((0:Nat):Int) ((4:Nat):Int)=o at*;refine qS omQ<|qy rfl<|fin (((3:Nat):Int)+o,a,b,c,0) _ (.of (Hr omQ omQ omQ omQ) (by omega) z0) H2
 ·exact fin (8,a,7,at_,0) _ (.of (Gz (.inl rfl) omQ omQ omQ) (by omega) z0) H2
 ·exact fin (8,a,7,at_,0) _ (.of (Gz (.inl rfl) omQ omQ omQ) (by omega) z0) H2
 ·exact fin (8,a,7,at_,0) _ (.of (Gz (.inl rfl) omQ omQ omQ) (by omega) z0) H2
 ·exact fin (9,7,b,at_,0) _ (.of (Gz (.inr rfl) omQ omQ omQ) (by omega) z0) H2
 ·exact fin (9,7,b,at_,0) _ (.of (Gz (.inr rfl) omQ omQ omQ) (by omega) z0) H2
 ·exact fin (9,7,b,at_,0) _ (.of (Gz (.inr rfl) omQ omQ omQ) (by omega) z0) H2
 ·refine qW (zr omQ omQ omQ omQ) ?_;rintro _ _ ⟨rfl,rfl⟩;have ho:=zm kx.2.2.2.1 (show(((0:Nat):Int))≤((3:Nat):Int) by omega);generalize jt kx.2.2.2.1 ((0:Nat):Int) ((3:Nat):Int)=o at*;refine qy rfl<|fin (8,a,b,o,0) _ (.of (Gz (.inl rfl) omQ omQ omQ) (by omega) z0) H2
 ·refine qW (zr omQ omQ omQ omQ) ?_;rintro _ _ ⟨rfl,rfl⟩;have ho:=zm kx.2.2.2.1 (show(((0:Nat):Int))≤((3:Nat):Int) by omega);generalize jt kx.2.2.2.1 ((0:Nat):Int) ((3:Nat):Int)=o at*;refine qy rfl<|fin (9,a,b,o,0) _ (.of (Gz (.inr rfl) omQ omQ omQ) (by omega) z0) H2
 ·exact fin (10,a,b,0,0) _ (.of (qqi omQ omQ) (by omega) z0) H2
 ·exact fin (10,a,b,0,0) _ (.of (qqi omQ omQ) (by omega) z0) H2
 ·exact fin (11,a,0,0,0) _ (.of (qzA (.inl rfl) omQ) (by omega) z0) H2
 ·exact fin (8,a,7,at_,0) _ (.of (Gz (.inl rfl) omQ omQ omQ) (by omega) z0) H2
 ·exact fin (21,a,0,0,0) _ (.of (qzA (.inr rfl) omQ) (by omega) z0) H2
end
end Go.Proofs.YtpbpkcdebchbbaaGreatDoor
