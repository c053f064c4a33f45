/- Lemmas for 'quietus/quietuslaw26.AttemptFresh': The documents steps: by its own code: a commit: what it does next;a new one;An attempt alone on a memory: plain: from its beginning to its end;ArenaPlays ... No condition. -/
import Derived.Test.YtbiljkdgeekpbabGreatDoorAttemptFreshM4
import Derived.Test.YtbiljkdgeekpbabGreatDoorAttemptFreshM2
namespace Go.Proofs.YtbiljkdgeekpbabGreatDoor
open Go Go.Ae
set_option maxRecDepth 100000
section
variable {g h:AH} {L R:List SP}
section
variable {n b:Nat} {c:jW} {q:Qv}
theorem qQD (hn:1≤n) (O:zK c) (hf:c.p.fin=0) (H:HS g h (RComC b c::R)):t_w n 13 [.ptr b 0] h λz h'=>some z=(xD c).map (λo=>.agg (xI o))∧HS g h' (RComC b c::R):=by
 refine t_e1 (S:=S13) rfl omQ λk hk=>?_;unfold S13;try simp only[iZ]
 obtain⟨q,r,hm,H0⟩:=RComC.E H;clear H;refine qH H0 rfl λb0 h1 H1=>?_;clear H0;obtain⟨qp,qa⟩:=r.ph hf;have hst:=O.st;have l1:=O.s;have l2:=O.was;have l3:=O.seen;have l4:=O.lo;have l5:=O.hi;have hnow:=O.now;have lc:c.cells.length≤1000:=O.toComL.cells;have ldx:∀{x:AV} {f:Nat} {K:AV→Go.Ae.R} {Q:AV→AH→Prop},(zx c q)[f]? =some x→wp (K x) Q→wp (z7 (.ptr b 0) λv=>ql v f λv=>jJ h1 v K) Q:=λe w=>qK (qQ (qV H1 (b:=b) e_1 e w));have fin:∀{o:OpM},xD c=some o→wp (jv h1 (.ptr b0 0) (.agg (xI o)) 10 λh'=>jt h' (.ptr b0 0) 10 λv=>some (v,h')) (λz h'=>some z=(xD c).map (λo=>.agg (xI o))∧HS g h' (RComC b c::R)):=λ{o} e=>by
  refine qe H1 (b:=b0) .here rfl (by show 0+10≤10;omega) rfl λh2 H2=>?_;refine qA H2 (b:=b0) (off:=0) .here rfl omQ (l:=xI o) rfl (qW ⟨by rw[e];rfl,RComC.I r hm H2.drop⟩)
 generalize hN:xD c=N at fin ⊢;unfold xD at hN;rw[iQ (λh=>h hf)]at hN;have num:∀{k:Nat},k<c.s.length→(c.s.map (AV.int .i64))[k]? =some (.int .i64 (qD c.s (k:Int))):=λ{k} hk=>by rw[List.getElem?_map,ye hk];rfl
 refine ldx (f:=13) (x:=.int .i64 c.state) (by rw[← qp];rfl) ?_;by_cases c0:c.state=0
 ·have hw:=O.st0 hf omQ;have hat:zO c=(c.was.length:Int):=by unfold zO;rw[iJ omQ]
  refine qj c0 (qX ?_);rw[iJ c0]at hN;refine ldx (f:=8) (x:=q.tv) rfl ?_;refine ldx (f:=14) (x:=.int .i64 (c.was.length:Int)) (by rw[← hat,← qa];rfl) ?_;refine jf (H1.sl (v:=q.tv) (xs:=c.s.map (.int .i64)) e_4) (num hw) ?_;refine qF (l:=xI (op0 3 (qD c.s c.was.length) 0)) rfl ?_;exact fin hN.symm
 refine qq c0 (qJ ?_);rw[iQ c0]at hN;by_cases c1:c.state=1
 ·have hw:=O.st0 hf omQ;have hat:zO c=(c.was.length:Int):=by unfold zO;rw[iJ omQ]
  refine qj c1 (qX ?_);rw[iJ c1]at hN;refine ldx (f:=8) (x:=q.tv) rfl ?_;refine ldx (f:=14) (x:=.int .i64 (c.was.length:Int)) (by rw[← hat,← qa];rfl) ?_;refine jf (H1.sl (v:=q.tv) (xs:=c.s.map (.int .i64)) e_4) (num hw) ?_;refine qK (qQ (qA H1 (b:=b) (off:=10) e_1 rfl omQ (l:=jw c.lk) rfl ?_));refine qK (qQ (qu (qV H1 (b:=b) e_1 (x:=.int .u64 c.lk.1) rfl ?_)));refine qK (qQ (qu (qV H1 (b:=b) e_1 (x:=.int .i64 c.p.me) rfl ?_)));refine qF (l:=jw (c.lk.1,true,c.me)) (by rw[hm];rfl) ?_;refine qF (l:=xI ⟨4,qD c.s c.was.length,0,0,c.lk,(c.lk.1,true,c.me)⟩) rfl ?_;exact fin hN.symm
 refine qq c1 (qJ ?_);rw[iQ c1]at hN;by_cases c2:c.state=2
 ·refine qj c2 (qX ?_);rw[iJ c2]at hN;refine qF (l:=xI (op0 6 0 0)) rfl ?_;exact fin hN.symm
 refine qq c2 (qJ ?_);rw[iQ c2]at hN;by_cases c3:c.state=3
 ·have qt:=r.t omQ omQ;refine qj c3 (qX ?_);rw[iJ c3]at hN;refine ldx (f:=15) (x:=.int .u64 c.now) (by rw[← qt];rfl) ?_;refine ldx (f:=15) (x:=.int .u64 c.now) (by rw[← qt];rfl) ?_;refine Jd ?_;rw[Ky omQ];refine qF (l:=xI (⟨7,0,c.now,c.now+1,lk0,lk0⟩)) rfl ?_;exact fin hN.symm
 refine qq c3 (qJ ?_);rw[iQ c3]at hN;have hat:zO c=c.at_:=by unfold zO;rw[iQ omQ,iQ omQ]
 rw[hat]at qa;obtain⟨k,hk⟩:∃k:Nat,c.at_=k:=⟨c.at_.toNat,by omega⟩;rw[hk]at qa hN;have lat:∀{K:AV→Go.Ae.R} {Q:AV→AH→Prop},wp (K (.int .i64 (k:Int))) Q→wp (z7 (.ptr b 0) λv=>ql v 14 λv=>jJ h1 v K) Q:=λw=>ldx (f:=14) (by rw[← qa];rfl) w;by_cases c4:c.state=4
 ·have hlt:=O.st4 hf c4;refine qj c4 (qX ?_);rw[iJ c4]at hN;refine ldx (f:=6) (x:=q.sv) rfl (lat ?_);refine zH (H1.sl (v:=q.sv) (xs:=c.seen.flatMap yM) e_2) omQ omQ (yd omQ).1 ?_;refine qF (l:=xI (op0 3 (jr c.seen k).1 0)) rfl ?_;exact fin hN.symm
 refine qq c4 (qJ ?_);rw[iQ c4]at hN;by_cases c5:c.state=5
 ·have hlt:=O.st5 hf c5;refine qj c5 (qX ?_);rw[iJ c5]at hN;refine ldx (f:=7) (x:=q.cv) rfl (lat ?_);refine zH (H1.sl (v:=q.cv) (xs:=c.cells.flatMap jU) e_3) omQ omQ (XV omQ).1 ?_;refine ldx (f:=7) (x:=q.cv) rfl (lat ?_);refine zH (H1.sl (v:=q.cv) (xs:=c.cells.flatMap jU) e_3) omQ omQ (XV omQ).2 ?_;refine qF (l:=xI (op0 2 (xo c.cells k).1 (xo c.cells k).2)) rfl ?_;exact fin hN.symm
 refine qq c5 (qJ ?_);rw[iQ c5]at hN;by_cases c6:c.state=6
 ·have hlt:=O.st6 hf c6;have qt:=r.t omQ omQ;refine qj c6 (qX ?_);rw[iJ c6]at hN;refine ldx (f:=8) (x:=q.tv) rfl (lat ?_);refine jf (H1.sl (v:=q.tv) (xs:=c.s.map (.int .i64)) e_4) (num omQ) ?_;refine ldx (f:=15) (x:=.int .u64 c.now) (by rw[← qt];rfl) ?_;refine Jd ?_;rw[Ky omQ];refine qF (l:=jw (c.now+1,false,0)) rfl ?_;refine qF (l:=xI (⟨5,qD c.s k,0,0,lk0,(c.now+1,false,0)⟩)) rfl ?_;exact fin hN.symm
 refine qq c6 (qJ ?_);rw[iQ c6]at hN;have hlt:=O.st7 hf omQ;refine ldx (f:=8) (x:=q.tv) rfl (lat ?_);refine jf (H1.sl (v:=q.tv) (xs:=c.s.map (.int .i64)) e_4) (num omQ) ?_;refine ldx (f:=9) (x:=q.wv) rfl (lat ?_);refine xK (l:=jw (jN c.was k)) (H1.sl (v:=q.wv) (xs:=c.was.flatMap jw) e_5) omQ omQ (XF omQ) ?_;refine qF (l:=xI (⟨5,qD c.s k,0,0,lk0,jN c.was k⟩)) rfl ?_;exact fin hN.symm
theorem qXM {me sp st a w:Int} {v1 v2:AV} {r:List z6} {cs:List Cl} (hn:4≤n) (hr:r.length≤1000) (h0:0<cs.length) (hl:cs.length≤1000) (hc:∀c∈cs,0≤c.1∧c.1<100000)
  (H:HS g h R) (S1:Rd g R 2 r.length v1 (r.flatMap yM)) (S2:Rd g R 2 cs.length v2 (cs.flatMap jU)) (hpos:0<(jS cs a w).length) :
  t_w n 10 [.int .i64 me,.int .i64 sp,.int .u64 st,v1,v2,.int .i64 a,.int .i64 w] h λv h'=>∃b,v=.ptr b 0∧HS g h' (RComC b (YZ me sp st r cs a w)::R):=by
 refine t_e7 (S:=S10) rfl omQ λk hk=>?_;unfold S10;try simp only[iZ]
 refine qY (NI omQ H) ?_;rintro _ h0 ⟨rfl,H⟩;have H0:=H.nils (e:=98) (sz:=2);refine zn H0 (S1.sl H) omQ omQ (QV (λ_=>rfl) _) λu1 h1 H1=>?_;rw[Nat.zero_add,List.nil_append]at H1;have H1':=H1.nils (e:=61) (sz:=2);refine zn H1' (S2.sl H1.drop) omQ omQ (QV (λ_=>rfl) _) λu2 h2 H2=>?_;rw[Nat.zero_add,List.nil_append]at H2;have o1:=H2.one e_1;have o2:=H2.one .here
 let c0:jW:=⟨Q3 me sp,me,st,r,cs,[],[],0,0,lk0,0,false,0,0,0⟩
 let q0:Qv:=⟨(Q3 me sp).spins,0,0,0,(0,0,0),u1,u2,.nils,.nils⟩
 refine qF (l:=zx c0 q0) (by simp only[vK,o1.1,o2.1];rfl) ?_;refine qH H2 (by simp only[zx,jc,jG,List.all_cons,o1.2,o2.2,List.cons_append,List.nil_append,q0,c0];rfl) λb h3 H3=>?_;refine qK (qQ (qV H3 (b:=b) .here (x:=u2) rfl ?_));refine qY (My omQ H3 (H3.rd e_1) hl hc) λu3 h4 H4=>?_;have o3:=H4.one .here;refine qK (qQ (qk H4 (b:=b) e_1 o3 (by simp[zx,jc]) λh5 H5=>?_));have H6:=H5.nils (e:=40) (sz:=3);have hst:(YZ me sp st r cs a w).state=0:=by show(if(0:Nat)=(jS cs a w).length then(2:Int)else 0)=0;rw[iQ omQ]
 have H7:HS g h5 (zm b (YZ me sp st r cs a w) { q0 with tv:=u3 } R):=H6.sub (.cons e_1 (.cons e_3 (.cons e_2 (.cons e_1 (.cons .here .refl)))));refine jR [] (λz h'=>z=(.ptr b 0,())∧h'=h5) (λj hj=>?_) ?_
 ·refine qK (qQ (qV H7 (b:=b) .here (x:=u3) rfl ?_));refine qs H7 (n:=(jS cs a w).length) (v:=u3) e_3 ?_;refine qq omQ (qJ ?_);exact hj _ _ ⟨rfl,rfl⟩
 rintro _ _ ⟨rfl,rfl⟩
 refine qv (qW ⟨b,rfl,RComC.I (q:={ q0 with tv:=u3 }) ⟨λ_=>⟨λ_=>rfl,rfl,rfl⟩,λ_=>⟨hst.symm,?_⟩,λ_ h7=>absurd h7 (by rw[hst];decide),λh7=>absurd h7 (by rw[hst];decide),λ_=>rfl,λh3=>absurd h3 (by rw[hst];decide),λ_=>⟨λh=>(by cases h),λh=>(by
  rcases h with h |h |h
  ·cases h
  ·rw[hst]at h;cases h
  ·rw[hst]at h;cases h)⟩⟩ rfl H7⟩)
 unfold zO;rw[iJ (by rw[hst];decide)];rfl
end
end
section
section
variable {S:zi} {M:jT} {me:Int}
structure Ended (S:zi) (M:jT) (me:Int) (R:(Int×Int)×Gz×VM) (y:jI) (N:jT):Prop where
  st:y.state=8
  me_:y.me=me
  set:y.set=S
  fin:y.fin=R.1.1
  err:y.err=if R.1.1=4 then R.1.2 else 0
  lv:y.v.lv=R.2.2.lv
  job:y.job=R.2.1
  by_:y.by_= -1
  calm:YU S N me
  s:N.s=M.s.set me.toNat 0
  w:N.w=if R.1.1=2 then stoW M.w (jO R.2.2.lv)else M.w
  n:N.n=M.n+(if R.1.1=2∧jO R.2.2.lv≠[]then 1 else 0)
  stamp:y.stamp=N.n
  begun:y.begun=true
  kind:R.1.1=2∨R.1.1=3∨R.1.1=4
end
end
namespace arenaPlays
variable {g h:AH} {L R:List SP}
def jw (a:Int×Int×Bool):List AV:=[.int .i64 a.1,.int .i64 a.2.1,.bool a.2.2]
end arenaPlays
section
variable {g h:AH} {L R:List SP}
def qQP (zs:List Int) (m:Int) (C:List Cl) (F:List Int):VM:={ qjF zs m with lv:=[(C,F)] }
structure FullS (zs:List Int) (T c i:Nat):Prop where
  len:zs.length=T
  lo:32≤T
  hi:T≤256
  cls:1≤c∧c≤4
  nn:∀z∈zs,0≤z∧z<18446744073709551616
  head:Ui zs c=0
  bump:Ui zs 5=14+(i:Int)*(yr c+1)
  hdr:∀j,j<i→∀p:Nat,(p:Int)=14+(j:Int)*(yr c+1)→Ui zs p=(c:Int)+8
end
namespace arenaFull
open Go Go.Ae arenaPlays
set_option maxRecDepth 100000
variable {g h:AH} {L R:List SP}
end arenaFull
section
structure RawM (S:zi) (M:jT) (k:Int):Prop where
  w:(M.w.length:Int)=S.words
  wd:∀z∈M.w,U64 z
  w0:M.w[0]? =some 0
  l:M.l=List.replicate S.stripes.toNat lk0
  n:M.n=S.start
  s:M.s=List.replicate S.threads.toNat 0
  cnt:0≤M.cnt∧M.cnt≤k
theorem qWI {S:zi} (O:JG S):RawM S (gH S) 0:=by
 have h1:=O.words;refine⟨by show((List.replicate S.words.toNat (0:Int)).length:Int)=_;rw[List.length_replicate];omega,λz hz=>?_,?_,rfl,rfl,rfl,⟨Int.le_refl _,Int.le_refl _⟩⟩
 ·have:=List.eq_of_mem_replicate hz;subst this;exact⟨Int.le_refl _,by decide⟩
 ·show(List.replicate S.words.toNat (0:Int))[0]? =some 0;rw[List.getElem?_replicate,iJ omQ]
end
namespace attemptFresh
variable {g h:AH} {L R:List SP}
def CC (cv:AV):Option jW→SP
 |none=>.pur (cv=.nilp)
 |some c=>.ex λb:Nat=>.all [.pur (cv=.ptr b 0),RComC b c]
theorem CC.I {cv:AV} {c:jW} {b:Nat} (e:cv=.ptr b 0) (H:HS g h (RComC b c::R)):HS g h (CC cv (some c)::R):=HS.exI b (HS.allI (A:=[_,_]) (HS.purI e H))
theorem CC.E {cv:AV} {c:jW} (H:HS g h (CC cv (some c)::R)):∃b,cv=.ptr b 0∧HS g h (RComC b c::R):=by obtain⟨b,H⟩:=H.exE;exact⟨b,H.allE.purE⟩
theorem CC.N {cv:AV} (H:HS g h (CC cv none::R)):cv=.nilp∧HS g h R:=H.purE
def SF (wi sp:Int):zi:=⟨32,8,wi%3+1,2,0,sp%5,9,60⟩
theorem qVt {wi sp:Int}:jo (SF wi sp)=SF wi sp:=by unfold jo SF;dsimp only;rw[Vf (n:=wi%3+1) omQ,Vf (n:=sp%5) omQ];rfl
theorem qY7 {S:zi} {ss:List Int} {c:jW} {M:jT} {v:Int} {o:OpM} (W:kj S ss c M v) (hn:xD c=some o):U64 o.word:=by
 have h0:=W.v0;have h1:=W.v1;have z0:U64 (0:Int):=⟨Int.le_refl _,by decide⟩;have zv:U64 (v+1):=⟨by omega,by omega⟩;have cw:∀i:Int,U64 (xo (zd (v+1)) i).2:=λi=>by
  unfold xo;cases e:(zd (v+1))[i.toNat]? with
  |none=>exact z0
  |some q=>have:=List.mem_of_getElem? e;simp only[zd,List.mem_cons,List.not_mem_nil,or_false]at this;rcases this with rfl |rfl |rfl<;>exact zv
 have nw:c.state=3→U64 (c.now+1):=λh3=>by
  cases W.ph with
  |look f s k t n w=>omega
  |take f s k t n w lk=>omega
  |ask f s t n w=>omega
  |raise f s t n w now=>rw[now];exact zv
  |store f s i at_ i3 t n now w=>omega
  |give f s i at_ il t n now w=>omega
  |done f t n w=>unfold xD at hn;rw[iJ (by rw[f];decide)]at hn;cases hn
 unfold xD at hn
 split at hn
 ·cases hn
 ·split at hn
  ·cases hn;exact z0
  ·split at hn
   ·cases hn;exact z0
   ·split at hn
    ·cases hn;exact z0
    ·split at hn
     ·rename_i h3;cases hn;exact nw h3
     ·split at hn
      ·cases hn;exact z0
      ·split at hn
       ·cases hn;show U64 (xo c.cells c.at_).2;rw[W.cells];exact cw _
       ·split at hn<;>cases hn<;>exact z0
theorem Xd {l:List Cl} {i:Nat} (hi:i<l.length):(l.flatMap jU)[i*2+1]? =some (.int .u64 l[i].2):=by have:=congrArg (·[1]?) (gP (sz:=2) (enc:=jU) (λ_=>rfl) (iW hi));simp only[List.getElem?_take_of_lt (show 1<2 by omega),List.getElem?_drop]at this;exact this
theorem raw_r {S:zi} {M:jT} {k:Int} (O:JG S) (Q:RawM S M k):qJE M:=by have:=O.start;refine⟨Q.wd,by rw[Q.n];exact⟨by omega,by omega⟩,λz hz=>?_⟩;rw[Q.s]at hz;have:=List.eq_of_mem_replicate hz;subst this;exact⟨Int.le_refl _,by decide⟩
structure Inv (S:zi) (ss:List Int) (i:Nat) (x:jI) (M:jT) (n:Nat) (c:Option jW) (T:Int):Prop where
  ok:xJ x
  w:Jn x
  m:qJE M
  j:je S M x T
  wr:WriJ S ss M n c
  co:∀d,c=some d→zK d
  c0:0≤M.cnt
  c1:M.cnt≤i
  n:n≤i
theorem qQu {σ:Type} {j:σ→AH→Go.Ae.R} {f:(σ→AH→Go.Ae.R)→Go.Ae.R} {Q:AV→AH→Prop} (Inv:σ→AH→Prop) (hf:∀j':σ→AH→Go.Ae.R,(∀s h,Inv s h→wp (j' s h) Q)→wp (f j') Q)
  (hj:∀s h,Inv s h→wp (j s h) Q):wp (zb j f) Q:=hf j hj
theorem law {k0 : Nat} (hk : 40 ≤ k0) {a0 : AV} {bs : List Bool} {wi sp : Int} (hwi : 0 ≤ wi ∧ wi < 256) (hsp : 0 ≤ sp ∧ sp < 256) (S0 : Sl (fun b => b < h.nx) h 1 bs.length a0 (bs.map .bool)) :
    wp ((tD3 S3) (gQ 4 (callT tab qx k0)) [a0,.int .u8 wi,.int .u8 sp] h) λv _=>v=.bool true:=by
  show wp (S3 (gQ _ (callT tab qx _)) _ _ _ _).1 _;unfold S3
  try simp only[ iZ]
  refine qqM (jV (qJ ?_));refine Jz od ?_;rw[Int.tmod_eq_emod_of_nonneg hwi.1];refine xG omQ ?_;refine qf omQ ?_;refine qF (l:=wC (SF wi sp)) rfl ?_;refine Jz od ?_;rw[Int.tmod_eq_emod_of_nonneg hsp.1];refine xG omQ ?_;refine qF (l:=yw (SF wi sp)) rfl ?_;have hS:=qVt (wi:=wi) (sp:=sp);have hSs:(SF wi sp).start=0:=rfl;have hSst:(SF wi sp).stripes=8:=rfl;have hSw:(SF wi sp).words=32:=rfl;have hSt:(SF wi sp).threads=2:=rfl;have hSwd:(SF wi sp).wide=wi%3+1:=rfl;have O:JG (jo (SF wi sp)):=JW (by rw[hSs];exact Int.le_refl _);generalize SF wi sp=S at*;refine qH (HS.nil h) rfl λb1 h1 H1=>?_;refine qe H1 (b:=b1) .here rfl (by show 0+8≤8;omega) rfl λh2 H2=>?_;have H2:HS h h2 (qw b1 (yw S)::[]):=H2;clear H1;refine qQ (qA H2 (b:=b1) (off:=0) .here rfl omQ (l:=wC S) rfl ?_);refine yH od (qWH (s:=S) omQ omQ H2) ?_;rintro _ h3 ⟨p,rfl,H3⟩;rw[hS]at H3 O;refine qF (l:=js (8,0,7,6,0)) rfl ?_;refine qF (l:=js (8,1,7,9,0)) rfl ?_;refine qF (l:=js (8,2,7,13,0)) rfl ?_;refine qF (l:=js (21,0,0,0,0)) rfl ?_;refine qF (l:=js (21,1,0,0,0)) rfl ?_;refine qF (l:=js (21,2,0,0,0)) rfl ?_;refine jY (n:=6) (l:=pF.flatMap js) (sz:=5) H3 rfl rfl rfl rfl λpv h4 H4=>?_;have o4:=H4.one .here;refine qF (l:=[pv]) (by simp only[vK,o4.1];rfl) ?_;refine qH H4 rfl λb2 h5 H5=>?_;refine qe H5 (b:=b2) .here rfl (by show 0+1≤1;omega) (by show jG [pv]=true;simp[jG,o4.2]) λh6 H6=>?_;have H6:HS h h6 (qw b2 [pv]::qL _ 5 6 pv (pF.flatMap js)::MemC p S (gH S)::qw b1 (yw S)::[]):=H6;clear H2 H3 H4 H5;refine qA H6 (b:=b1) (off:=0) e_3 rfl omQ (l:=yw S) rfl ?_;refine qA H6 (b:=b2) (off:=0) .here rfl omQ (l:=[pv]) rfl ?_;have hcm:(yC pF).2=0:=by decide
  have hQ:Quiet pF:=λx hx=>by
    simp only[pF,List.mem_cons,List.not_mem_nil,or_false]at hx;rcases hx with rfl |rfl |rfl |rfl |rfl |rfl<;>exact⟨by decide,by decide,by decide⟩
  refine yH od (qV6 (me:=0) (l:=pF) (s:=S) omQ omQ hcm (H6.rd e_1) H6) ?_;rintro _ h7 ⟨a,rfl,H7⟩;have H8:HS h h7 (AttC a (kC 0 S pF)::MemC p S (gH S)::CC .nilp none::qw b1 (yw S)::[]):=by have:=H7.sub (L':=[AttC a (kC 0 S pF),MemC p S (gH S),qw b1 (yw S)]) (.cons .here (.cons e_2 (.cons e_2 (.drop (.drop .refl)))));exact(HS.purI (φ:=AV.nilp=AV.nilp) rfl (this.sub (L':=[qw b1 (yw S),AttC a (kC 0 S pF),MemC p S (gH S)]) (.cons e_2 (.cons .here (.cons .here .refl))))).sub (.cons e_2 (.cons e_2 (.cons .here (.cons .here .refl))))
  clear H6 H7;refine UY (qG ?_)
  try dsimp only
  refine qd (UY (qI (qJ ?_)));generalize hss:jS (zd 0) S.stripes S.wide=ss;have hsv:∀v:Int,jS (zd (v+1)) S.stripes S.wide=ss:=λv=>by rw[← hss];rfl
  have hof:∀q:Int,0≤q→0≤ofM q S.stripes S.wide∧ofM q S.stripes S.wide<8:=λq hq=>by
    unfold ofM;rw[iQ omQ,hSst];have:=Int.emod_nonneg (q/max 1 (min S.wide 16)) (show(8:Int)≠0 by decide);have:=Int.emod_lt_of_pos (q/max 1 (min S.wide 16)) (show(0:Int)<8 by decide);rw[show max (1:Int) (min 8 16)=8 by decide];omega
  have hmem:∀x:Int,x∈ss↔x∈(zd 0).map λc=>ofM c.1 S.stripes S.wide:=λx=>by
    rw[← hss];refine Qg λc hc=>?_;simp only[zd,List.mem_cons,List.not_mem_nil,or_false]at hc;rcases hc with rfl |rfl |rfl<;>decide
  have hst3:∀q,gX q→stF S q∈ss:=λq hq=>by
    rw[hmem];rcases hq with rfl |rfl |rfl
    · exact List.mem_map.2 ⟨(6,0),by simp[zd],rfl⟩
    · exact List.mem_map.2 ⟨(9,0),by simp[zd],rfl⟩
    · exact List.mem_map.2 ⟨(13,0),by simp[zd],rfl⟩
  have hne:0<ss.length:=List.length_pos_of_mem (hst3 6 (.inl rfl))
  have hRest:kP S ss (gH S) 0:=qKd hSw (by rw[hSst];decide) hSs (by rw[← hss];exact kx) (λs hs=>by
    rw[hmem]at hs;obtain⟨c,hc,rfl⟩:=List.mem_map.1 hs
    have hh:=hof c.1 (by
      simp only[zd,List.mem_cons,List.not_mem_nil,or_false]at hc
      rcases hc with rfl |rfl |rfl<;>decide)
    rw[hSst]at hh ⊢
    exact hh) hst3 hne
  have I0:Inv S ss 0 (kC 0 S pF) (gH S) 0 none (gH S).n:=by have Q0:=qWI O;refine⟨NP omQ hcm hQ,qjB,raw_r O Q0,?_,⟨rfl,hRest⟩,λd hd=>(by cases hd),Q0.cnt.1,by have:=Q0.cnt;omega,Nat.le_refl _⟩;have:=je.new (S:=S) (M:=gH S) (me:=0) (by rw[hRest.n];exact Int.le_refl _);rw[hS]at this;exact this
  refine zG (fun m s h' => ∃ (i : Nat) (x : jI) (M : jT) (n : Nat) (c : Option jW) (T : Int) (cv : AV), s = (.int .i64 (i : Int), cv, .int .u64 (n : Int), .ptr a 0, .ptr p 0, .ptr b1 0, a0, ()) ∧ i ≤ bs.length ∧ i ≤ 200 ∧ m = 200 - i ∧ Inv S ss i x M n c T ∧
      HS h h' (AttC a x::MemC p S M::CC cv c::qw b1 (yw S)::[]))
    ?_ (m:=200) od ⟨0,_,_,0,none,_,.nilp,rfl,Nat.zero_le _,Nat.zero_le _,rfl,I0,H8⟩
  clear H8 I0 hRest;rintro m ih s h8 hih ⟨i,x,M,n,c,T,cv,rfl,hil,hi2,rfl,I,H⟩;dsimp only;have In:=I.n;have Ic0:=I.c0;have Ic1:=I.c1;refine yb (S0.old H.old) ?_;refine JY (U4 (λz g'=>g'=h8∧∃u:AV,z=(u,.bool (decide ((i:Int)<(bs.length:Int))),.int .i64 (i:Int),cv,.int .u64 (n:Int),.ptr a 0,.ptr p 0,.ptr b1 0,a0,())∧(i<bs.length→u=.bool (decide (i<200)))) (λj hj=>?_) ?_)
  · refine qGE (λc1=>?_) (λc1=>?_)
    · refine JY (hj _ _ ⟨rfl,_,rfl,λ_=>?_⟩)
      congr 1
      exact decide_eq_decide.2 omQ
    · exact hj _ _ ⟨rfl,_,rfl,λh=>absurd h omQ⟩
  rintro _ h8 ⟨rfl,u,rfl,hu⟩;dsimp only;have hp:∀{K:AV→Go.Ae.R} {Q:AV→AH→Prop},(∀b:Bool,(b=true↔(i<bs.length∧i<200))→wp (K (.bool b)) Q)→wp (xh (.bool (decide ((i:Int)<(bs.length:Int)))) u (.bool false) K) Q:=λ{K Q} hw=>by
    by_cases c1:i<bs.length
    · rw[iG (show(i:Int)<(bs.length:Int) by omega),hu c1];exact qE (hw _ ⟨λh=>⟨c1,of_decide_eq_true h⟩,λh=>iG h.2⟩)
    · rw[iV (show¬(i:Int)<(bs.length:Int) by omega)];exact qI (hw _ ⟨λh=>(by cases h),λh=>absurd h.1 c1⟩)
  refine hp λbb hbb=>?_;clear hp hu;cases bb with
  |false=>
    refine qJ ?_;clear hih ih hbb;refine yH od (qQB omQ I.ok H) λrv h9 H9=>?_;obtain⟨A1,A2⟩:=I.j.alike I.wr;have hKl:=I.ok.good.ok.klen;refine zG (λm s h'=>∃k:Nat,s=(.int .i64 ((k+1:Nat):Int),rv,.int .u64 (n:Int),())∧(k=0∨k+1≤x.v.K.length)∧m=x.v.K.length-(k+1)∧h'=h9)
      ?_ (m:=x.v.K.length-1) (by show _<1000000000;omega) ⟨0,rfl,.inl rfl,rfl,rfl⟩
    rintro m ih s h10 hih ⟨k,rfl,hk1,rfl,rfl⟩;dsimp only;refine qs H9 (n:=x.v.K.length) (v:=rv) .here ?_;by_cases hlt:k+1<x.v.K.length
    · refine zJ omQ (qX ?_);refine zH (H9.sl (v:=rv) (xs:=x.v.K.flatMap jU) .here) omQ hlt (Xd hlt) ?_;refine zH (i:=0) (H9.sl (v:=rv) (xs:=x.v.K.flatMap jU) .here) omQ omQ (Xd omQ) ?_;refine jK (A1 _ (List.getElem_mem hlt) _ (List.getElem_mem omQ)) (qJ ?_);refine qf omQ ?_;exact hih (x.v.K.length-(k+1+1)) _ _ omQ ⟨k+1,rfl,.inr omQ,rfl,rfl⟩
    · refine jb omQ (qJ ?_);refine qs H9 (n:=x.v.K.length) (v:=rv) .here ?_;by_cases h0:x.v.K.length=0
      · refine qj omQ ?_;refine qG ?_
        try dsimp only
        exact qr (qE (qv (qW rfl)))
      · refine qq omQ ?_;refine qG ?_
        try dsimp only
        refine qd (zH (i:=0) (H9.sl (v:=rv) (xs:=x.v.K.flatMap jU) .here) omQ omQ (Xd omQ) ?_);exact ky (A2 _ (List.getElem_mem omQ)) (qI (qv (qW rfl)))
  |true=>
    obtain⟨c1,c2⟩:=hbb.1 rfl;clear hbb;refine qX (qG ?_)
    try dsimp only
    have next : ∀ {x' : jI} {M' : jT} {n' : Nat} {c' : Option jW} {T' : Int} {cv' : AV} {g' : AH}, Inv S ss (i + 1) x' M' n' c' T' → HS h g' (AttC a x' :: MemC p S M' :: CC cv' c' :: qw b1 (yw S) :: []) →
        wp (jD .add (.int .i64 (i:Int)) (.int .i64 ((1:Nat):Int)) λz=>ih (z,cv',.int .u64 (n':Int),.ptr a 0,.ptr p 0,.ptr b1 0,a0,()) g' []) (λv _=>v=.bool true):=λI' H'=>by
      refine qf omQ ?_;exact hih (200-(i+1)) _ _ omQ ⟨i+1,_,_,_,_,_,_,rfl,by omega,by omega,rfl,I',H'⟩
    refine jf (S0.old H.old) (x:=.bool bs[i]) (by rw[List.getElem?_map,iW c1];rfl) ?_;cases bs[i]with
    |true=>
      refine qX (qG ?_)
      try dsimp only
      refine yH od (qXE omQ I.ok H) ?_;rintro _ h9 ⟨rfl,H9⟩;refine qB rfl (qB rfl ?_);refine qH H9 rfl λb3 h10 HA=>?_;refine qe HA (b:=b3) .here rfl (by show 0+10≤10;omega) rfl λh11 HB=>?_;cases hn:yY x with
      |none=>refine qJ (next (x':=x) (M':=M) (n':=n) (c':=c) (T':=T) (cv':=cv) ⟨I.ok,I.w,I.m,I.j,I.wr,I.co,I.c0,by omega,by omega⟩ HB.drop)
      |some o=>refine qX ?_;rw[hn]at HB;refine qA HB (b:=b3) (off:=0) .here rfl omQ (l:=xI o) rfl ?_;have rr:=Ob I.m (qQ0 I.ok I.w hn);have cc:=qQA (M:=M) (o:=o);obtain⟨⟨T',J'⟩,e1,e2,e3⟩:=I.j.step I.wr.see I.ok.st hn;refine yH od (qKe (o:=o) omQ ⟨I.c0,by omega⟩ (HB.sel (P:=MemC p S M) e_2)) ?_;rintro _ h12 ⟨rfl,HC⟩;refine yH od (qX9 (an:=(zz M o).1) omQ I.ok rr.1 (HC.sel (P:=AttC a x) e_2)) λ_ h13 HD=>?_;refine next (x':=zT x (zz M o).1) (M':=(zz M o).2) (n':=n) (c':=c) (T':=T') (cv':=cv) ⟨qQm I.ok rr.1,qQe I.ok I.w rr.1,rr.2,J',I.wr.touch e1 e2 e3,I.co,by omega,by omega,by omega⟩ (HD.sub (.cons .here (.cons .here (.cons e_1 (.cons e_1 (.drop .refl))))))
    |false=>
      refine qJ (jR [] (λz g'=>∃(d:jW) (n' bc:Nat),z=(.int .i64 (i:Int),.ptr bc 0,.int .u64 (n':Int),.ptr a 0,.ptr p 0,.ptr b1 0,a0,())∧kj S ss d M ((n':Int)-1)∧zK d∧d.p.fin=0∧n'≤i+1∧HS h g' (RComC bc d::AttC a x::MemC p S M::qw b1 (yw S)::[])) (λj hj=>?_) ?_)
      rotate_left
      · rintro _ g' ⟨d,n',bc,rfl,W,D,hf,hn',H'⟩;dsimp only;obtain⟨o,an,M',F⟩:=W.step (by rw[hf];decide);have rr:=Ob I.m (qY7 W F.next);rw[F.do_]at rr;refine yH od (qQD omQ D hf H') ?_;rintro z h9 ⟨ez,H9⟩;rw[F.next]at ez;cases ez;refine yH od (qKe (o:=o) omQ ⟨I.c0,by omega⟩ (H9.sel (P:=MemC p S M) e_2)) ?_;rintro _ h10 ⟨rfl,HA⟩;rw[F.do_]at HA ⊢;refine yH od (Zs (a:=an) omQ D (HA.sel (P:=RComC bc d) e_1)) λ_ h11 HB=>?_;have hcnt:=F.cnt;refine next (x':=x) (M':=M') (n':=n') (c':=some (zQ d an)) (T':=T) (cv':=.ptr bc 0) ⟨I.ok,I.w,rr.2,I.j.mono F.mono,F.wri,λd' hd'=>(by cases hd';exact Qs D rr.1),by omega,by omega,hn'⟩ ?_;exact(CC.I rfl HB).sub (.cons e_2 (.cons e_1 (.cons .here (.cons .here .refl))))
      have hcv : ∃ bn : Bool, (∀ {K : AV → Go.Ae.R} {Q : AV → AH → Prop}, wp (K (.bool bn)) Q → wp (pEq .ptr false cv .nilp K) Q) ∧ (bn = true → c = none ∧ HS h h8 (AttC a x :: MemC p S M :: qw b1 (yw S) :: [])) ∧
          (bn=false→∃(d:jW) (bc:Nat),c=some d∧cv=.ptr bc 0∧HS h h8 (RComC bc d::AttC a x::MemC p S M::qw b1 (yw S)::[])):=by
        cases c with
        |none=>obtain⟨rfl,H'⟩:=CC.N (H.sel (P:=CC cv none) e_2);exact⟨true,λw=>qK7 w,λ_=>⟨rfl,H'⟩,λh=>(by cases h)⟩
        |some d=>obtain⟨bc,rfl,H'⟩:=CC.E (H.sel (P:=CC cv (some d)) e_2);exact⟨false,λw=>UY w,λh=>(by cases h),λ_=>⟨d,bc,rfl,rfl,H'⟩⟩
      obtain⟨bn,hw,hn1,hn2⟩:=hcv;refine hw ?_
      refine qQu (σ:=AV×AV×AV×AV×AV×AV×AV×AV×AV×Unit) (λz g'=>∃(v':Bool) (u' cv':AV),z=(u',.bool v',.int .i64 (i:Int),cv',.int .u64 (n:Int),.ptr a 0,.ptr p 0,.ptr b1 0,a0,())∧
        (((v'=true∨(v'=false∧u'=.bool true))∧kP S ss M n∧HS h g' (AttC a x::MemC p S M::qw b1 (yw S)::[]))∨
         (v'=false∧u'=.bool false∧∃(d:jW) (bc:Nat),cv'=.ptr bc 0∧kj S ss d M ((n:Int)-1)∧zK d∧d.p.fin=0∧HS h g' (RComC bc d::AttC a x::MemC p S M::qw b1 (yw S)::[])))) ?_ ?_
      · intro j2 hj2;cases bn with
        |true=>obtain⟨rfl,H'⟩:=hn1 rfl;have W:=I.wr;refine qr (hj2 _ _ ⟨true,.undef,cv,rfl,.inl ⟨.inl rfl,?_,H'⟩⟩);rw[show(n:Int)=0 from W.1];exact W.2
        |false=>
          obtain⟨d,bc,rfl,rfl,H'⟩:=hn2 rfl;have W:kj S ss d M ((n:Int)-1):=I.wr;obtain⟨q,r,hm,H2⟩:=RComC.E H';refine qd (qK (qQ (qu (qV H2 (b:=bc) .here (x:=.int .i64 d.p.fin) rfl ?_))));refine yW (λhf=>?_) (λhf=>?_)
          · refine hj2 _ _ ⟨false,.bool true,.ptr bc 0,rfl,.inl ⟨.inr ⟨rfl,rfl⟩,?_,H'.drop⟩⟩;have hf2:d.p.fin=2:=by
              cases W.ph with
              |look f s k t n w=>exact absurd f hf
              |take f s k t n w lk=>exact absurd f hf
              |ask f s t n w=>exact absurd f hf
              |raise f s t n w now=>exact absurd f hf
              |store f s i at_ i3 t n now w=>exact absurd f hf
              |give f s i at_ il t n now w=>exact absurd f hf
              |done f t n w=>exact f
            have:=W.rest hf2;rw[show(n:Int)-1+1=n by omega]at this;exact this
          · exact hj2 _ _ ⟨false,.bool false,.ptr bc 0,rfl,.inr ⟨rfl,rfl,d,bc,rfl,W,I.co d rfl,hf,H'⟩⟩
      · rintro _ g' ⟨v',u',cv',rfl,hc⟩;dsimp only;rcases hc with⟨hv,RF,H'⟩ |⟨rfl,rfl,d,bc,rfl,W,D,hf,H'⟩
        · have hpk:∀{K:AV→Go.Ae.R} {Q:AV→AH→Prop},wp (K (.bool true)) Q→wp (xh (.bool v') (.bool true) u' K) Q:=λw=>by
            rcases hv with rfl |⟨rfl,rfl⟩
            · exact qE w
            · exact qI w
          refine hpk (qX ?_);refine Jd ?_;rw[Ky omQ];refine qG ?_
          try dsimp only
          refine yH od (qYM omQ (H'.sel (P:=MemC p S M) e_1)) ?_;rintro _ _ ⟨rfl,rfl⟩;rw[RF.n];refine qF (l:=jU (9,(n:Int)+1)) rfl ?_;refine qF (l:=jU (6,(n:Int)+1)) rfl ?_;refine qF (l:=jU (13,(n:Int)+1)) rfl ?_;refine jY (n:=3) (l:=(zd ((n:Int)+1)).flatMap jU) (sz:=2) H' rfl rfl rfl rfl λwv g2 H2=>?_;refine qQ (qu (qV H2 (b:=b1) e_3 (x:=.int .i64 S.wide) rfl ?_));refine yH od (qXM (r:=[]) (cs:=zd ((n:Int)+1)) omQ od (by show 0<3;decide) (by show 3≤1000;decide) (λq hq=>?_) H2 (λ_ HX=>(HX.nils (e:=98) (sz:=2)).sl .here) (H2.rd .here) ?_) ?_
          · simp only[zd,List.mem_cons,List.not_mem_nil,or_false]at hq;rcases hq with rfl |rfl |rfl<;>exact⟨by dsimp only;omega,by dsimp only;omega⟩
          · show 0<(jS (zd ((n:Int)+1)) 8 S.wide).length;rw[show jS (zd ((n:Int)+1)) 8 S.wide=ss from(by rw[← hSst];exact hsv n)];exact hne
          rintro _ g3 ⟨bc,rfl,H3⟩;refine jz H' e_2 rfl H' e_2 rfl (HS.lt H' e_2) ?_
          try dsimp only
          refine hj _ _ ⟨YZ 1 0 n [] (zd ((n:Int)+1)) 8 S.wide,n+1,bc,?_,?_,?_,rfl,by omega,H3.sub (.cons .here (.drop .refl))⟩
          · rw[Int.natCast_add]
          · have:=RF.begin (v:=(n:Int)) omQ omQ (hsv n);rw[hSst]at this;rw[show((n+1:Nat):Int)-1=n by omega];exact this
          · exact qXm od (by show 0<3;decide) (by show 3≤1000;decide) λq hq=>by
              simp only[zd,List.mem_cons,List.not_mem_nil,or_false]at hq;rcases hq with rfl |rfl |rfl<;>(dsimp only;omega)
        · refine qI (qJ ?_);exact hj _ _ ⟨d,n,bc,rfl,W,D,hf,by omega,H'⟩
theorem qZE {P:Program} {d:Nat} {t e:TypeId} {v:AV} (hu:P.underlying t=some (.slice e)) (he:P.underlying e=some .bool) (hs:P.cellsOf e=1) (H:WT P h (d+2) t [v]) :
  ∃zs:List Bool,Sl (λb=>b<h.nx) h 1 zs.length v (zs.map .bool):=by
 obtain⟨n,xs,S,_,H⟩:=qJL hu hs omQ H
 obtain⟨zs,h1,h2,h3⟩:=qXo (α:=Bool) (Pr:=λ_=>True) (λz=>[.bool z]) S.len (λi hi=>by
  have:=H i hi;unfold WT at this;simp only[he]at this;obtain⟨z,g1⟩:=this
  exact⟨z,trivial,g1⟩)
 refine⟨zs,?_⟩;rw[h1];have:xs=zs.map .bool:=by rw[h3];clear h1 h2 h3 S;induction zs with |nil=>rfl |cons a l ih=>rw[List.flatMap_cons,ih];rfl
 rw[← this];exact S
theorem told {h:AH} {l:List AV} (H:WTs Tryz.prog h 8 Tryz.f3.params.toList l):wp ((tD3 S3) (gQ 4 (callT tab qx 60)) l h) λv _=>v=.bool true:=by
 have e:Tryz.f3.params.toList=[22,5,5]:=by kernel_rfl
 rw[e]at H;obtain⟨a0,a1,a2,rfl,H0,H1,H2⟩:=WTs3 H;simp only[WTV,Tryz.underlying4,Tryz.underlying5,Tryz.underlying22]at H0 H1 H2;obtain⟨bs,S0⟩:=qZE Tryz.underlying22 Tryz.underlying4 (by kernel_rfl) H0;obtain⟨wi,e1,hw⟩:=H1;obtain⟨sp,e2,hs⟩:=H2;cases e1;cases e2;exact law omQ ⟨hw.1,Int.lt_of_le_of_lt hw.2 od⟩ ⟨hs.1,Int.lt_of_le_of_lt hs.2 od⟩ S0
end attemptFresh
end Go.Proofs.YtbiljkdgeekpbabGreatDoor
