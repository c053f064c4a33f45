/- Lemmas for 'quietus/quietuslaw27.ThreadAlone': A thread: by the program: what it is told, its next operation;a wake;what it tells at once;A new thread;its results: by the program;A setup that is drawn;... No condition. -/
import Derived.Test.YtnalffoigcmnnabGreatDoorThreadAloneM5
import Derived.Test.YtnalffoigcmnnabGreatDoorThreadAloneM2
import Derived.Test.YtnalffoigcmnnabGreatDoorThreadAloneM1
import Derived.Test.YtnalffoigcmnnabGreatDoorThreadAloneM4
namespace Go.Proofs.YtnalffoigcmnnabGreatDoor
open Go Go.Ae
set_option maxRecDepth 100000
section
variable {g h:AH} {L R:List SP}
section
variable {n a b:Nat} {t:jE} {q:Vm} {x:jQ}
theorem gI.rl (O:gI t):t.rests.length+t.giving.length≤63000:=O.b.len (by have:=O.res;split at this<;>omega)
theorem qzA {an:AnM} {draw pick:Int} (hn:27≤n) (O:gI t) (ha:X8 an) (hd:0≤draw∧draw<256) (hp:t.past.length≤900000) (H:HS g h (ThdC b t::R)) :
  t_w n 12 [.ptr b 0,.agg (xK an),.int .u8 draw,.int .i64 pick] h λ_ h'=>HS g h' (ThdC b (xH t an draw pick)::R):=by
 refine t_e4 (S:=S12) rfl omQ λk hk=>?_;unfold S12;try simp only[iZ]
 have hst:=O.st;have hrl:=O.rl;have hT:=O.b.tries;have hres:=O.res;obtain⟨q,H0⟩:=ThdC.E H;clear H;refine qO H0 rfl λv0 h1 H1=>?_;clear H0;refine qW (qQ (qK H1 (b:=b) e_1 rfl ?_));refine qV ?_
 try dsimp only
 unfold xH;by_cases c1:t.state=1
 ·rw[iJ c1];refine qx c1 (qZ ?_);have C:=O.c omQ;cases hx:t.now with
  |none=>exact absurd hx C.some
  |some x=>
   dsimp only;have hN:=C.now x hx;have hS:=Yn x an;have hr:(t.results.length:Int)≤t.job+(if t.sweep=true then 1 else 0):=by
    by_cases hs:t.sweep=true
    ·rw[iJ ⟨by omega,.inl hs⟩]at hres;rw[iJ hs];exact hres
    ·rw[iQ (λh=>by rcases h.2 with h |h;exact hs h;omega)]at hres;rw[iQ hs];exact hres
   have C':∀b:Int,ke { t with now:=some (jb x an),born:=b }:=λb=>⟨⟨C.set,C.me,C.jobs,C.jl,C.job,C.rests,C.slots,C.tries,C.conf,C.giv⟩,λy hy=>by
    cases hy
    exact⟨KV hN.1 ha,hS.me.trans hN.2.1,hS.set.trans hN.2.2.1,hS.sw.trans hN.2.2.2⟩,C.lt,λh=>by cases h⟩
   obtain⟨a,q,H2⟩:=ThdC.V hx (ThdC.I (b:=b) (q:=q) (H1.sub (.cons e_1 (.cons e_1 (.cons e_1 (.cons e_1 (.cons e_1 (.cons e_1 (.cons e_1 (.cons e_1 (.cons .here .refl)))))))))));have H2:HS g h1 (thrV a b t x q (qg v0 (xK an)::R)):=H2;clear H1;refine qW (qQ (qK H2 (b:=b) e_1 (x:=.ptr a 0) rfl ?_));refine qG (Uk omQ H2 .here) ?_;rintro _ _ ⟨rfl,rfl⟩;refine qA rfl (qA rfl ?_);refine qW (qQ (qK H2 (b:=b) e_1 (x:=.ptr a 0) rfl ?_));refine qD H2 (b:=v0) (off:=0) e_8 rfl omQ (l:=xK an) rfl ?_;refine qG (qjp omQ hN.1 ha H2) λ_ h3 H3=>?_;unfold kz;dsimp only;generalize hy:jb x an=y at H3 C' ⊢;generalize hbo:(if y.begun=true∧x.begun=false then pick else t.born)=bo;have key:∀(bo:Int) (h':AH),HS g h' (thrV a b { t with now:=some y,born:=bo } y q (qg v0 (xK an)::R))→
     wp (xU (.ptr b 0) λv28=>ql v28 16 λv29=>jq h' v29 λv30=>jO (callT tab qz k) (.fn 39 [] []) [v30] h' λv31 h32=>jR .neq v31 (.int .i64 ((0:Nat):Int)) λv33=>zT v33
      (jO (callT tab qz k) (.fn 40 [] []) [.ptr b 0,.int .u8 draw,.int .i64 pick] h32 λ_ h35=>ze [] h35 λh9=>some (.tup [],h9)) (ze [] h32 λh9=>some (.tup [],h9)))
      λ_ h'=>HS g h' (ThdC b (if jc y=0 then{ t with now:=some y,born:=bo }else xJ { t with now:=some y,born:=bo } y draw pick)::R):=λbo h' H4=>by
    refine qW (qQ (qK H4 (b:=b) e_1 (x:=.ptr a 0) rfl ?_));refine qG (Gm omQ H4 .here) ?_;rintro _ _ ⟨rfl,rfl⟩;have H5:=thrV.I (t:={ t with now:=some y,born:=bo }) rfl H4;have H5:=H5.sub (.cons .here (.drop .refl));by_cases c:jc y=0
    ·rw[iJ c];exact jY c (qJ (qk (qj H5)))
    ·rw[iQ c];refine jj c (qZ ?_);exact qG (qWU (t:={ t with now:=some y,born:=bo }) omQ (C' bo) rfl (by show t.past.length≤_;omega) (by show t.tries≤_;omega) hr hd H5) λ_ h6 H6=>qk (qj H6)
   refine qV ?_
   try dsimp only
   refine qW (qQ (qK H3 (b:=b) e_1 (x:=.ptr a 0) rfl ?_));refine qG (Uk omQ H3 .here) ?_;rintro _ _ ⟨rfl,rfl⟩;refine qA rfl (qA rfl ?_);refine qV ?_
   try dsimp only
   have H4:HS g _ (thrV a b { t with now:=some y,born:=t.born } y q (qg v0 (xK an)::R)):=H3;by_cases d1:y.begun=true
   ·rw[d1];refine qa ?_;by_cases d2:x.begun=true
    ·rw[d2];rw[d1,d2,iQ (λh=>by cases h.2)]at hbo;subst hbo;refine jX (qF (qJ ?_));exact key _ _ H4
    ·have d2':x.begun=false:=by simpa using d2
     rw[d2'];rw[d1,d2',iJ ⟨rfl,rfl⟩]at hbo;subst hbo;refine jV (qF (qZ ?_));refine qW (qQ ?_);refine qw H3 (b:=b) e_1 ⟨rfl,rfl⟩ (by simp[yo]) λh5 H5=>?_;exact key pick _ (H5.sub (.cons e_1 (.cons .here .refl)))
   ·have d1':y.begun=false:=by simpa using d1
    rw[d1'];rw[d1',iQ (λh=>by cases h.1)]at hbo;subst hbo;refine qS (qI (qJ ?_));exact key _ _ H4
 ·rw[iQ c1];refine qX c1 (qJ ?_);have H2:=ThdC.I (b:=b) (t:=t) (q:=q) H1.drop;by_cases c2:t.state=2
  ·rw[iJ c2];refine qx c2 (qZ ?_);refine qD H1 (b:=v0) (off:=0) .here rfl omQ (l:=xK an) rfl ?_;exact qG (qYO omQ O.b omQ hd H2) λ_ h6 H6=>qk (qj H6)
  ·rw[iQ c2];refine qX c2 (qJ ?_);by_cases c5:t.state=5
   ·rw[iJ c5];refine qx c5 (qZ ?_);have C:=O.c omQ;have hsl:=O.slo c5;have h4:=C.set.threads;refine qV ?_
    try dsimp only
    refine qQ (qK H1 (b:=v0) .here (x:=.int .i64 an.err) rfl ?_);by_cases ce:an.err=0
    ·refine jY ce (qJ ?_)
     try dsimp only
     refine qQ (qK H1 (b:=v0) .here (x:=.int .u64 an.word) rfl ?_);rw[iQ (λh=>h ce)];exact qG (V5 omQ C (O.sw5 c5) omQ omQ H2) λ_ h6 H6=>qk (qj H6)
    ·refine jj ce (qZ ?_);refine qQ (qw H1 (b:=v0) .here (x:=.int .u64 0) ⟨rfl,rfl⟩ (by simp[xK]) λh3 H3=>?_)
     try dsimp only
     refine qQ (qK H3 (b:=v0) .here (x:=.int .u64 0) rfl ?_);rw[iJ ce];exact qG (V5 omQ C (O.sw5 c5) omQ omQ (ThdC.I (b:=b) (t:=t) (q:=q) H3.drop)) λ_ h6 H6=>qk (qj H6)
   ·rw[iQ c5];exact qX c5 (qJ (qk (qj H2)))
theorem qjR (hn:5≤n) (O:gI t) (H:HS g h (ThdC b t::R)):t_w n 11 [.ptr b 0] h λr h'=>r=opV (yt t)∧HS g h' (ThdC b t::R):=by
 refine t_e1 (S:=S11) rfl omQ λk hk=>?_;unfold S11;try simp only[iZ]
 have hst:=O.st;obtain⟨q,H0⟩:=ThdC.E H;refine qO H0 rfl λv0 h1 H1=>?_;clear H H0;refine qW (qQ (qK H1 (b:=b) e_1 rfl ?_));unfold yt;have say:∀{o:OpM} {h':AH},HS g h' (qg v0 (yL o)::YF b t q R)→wp (zW h' (.ptr v0 0) 10 λv=>some (.tup [v,.bool true],h')) λr h'=>r=opV (some o)∧HS g h' (ThdC b t::R):=λ{o h'} H'=>by
  refine qD H' (b:=v0) (off:=0) .here rfl omQ (l:=yL o) rfl ?_;exact qj ⟨rfl,ThdC.I (q:=q) H'.drop⟩
 by_cases c1:t.state=1
 ·rw[iJ c1];refine qx c1 (qZ ?_);have C:=O.c omQ;cases hx:t.now with
  |none=>exact absurd hx C.some
  |some x=>have hN:=C.now x hx;obtain⟨a,q,H2⟩:=ThdC.V hx (ThdC.I (b:=b) (q:=q) (H1.sub (.cons e_1 (.cons e_1 (.cons e_1 (.cons e_1 (.cons e_1 (.cons e_1 (.cons e_1 (.cons e_1 (.cons .here .refl)))))))))));have H2:HS g h1 (thrV a b t x q (qg v0 (yL (op0 0 0 0))::R)):=H2;refine qW (qQ (qK H2 (b:=b) e_1 (x:=.ptr a 0) rfl ?_));refine qG (qqi omQ hN.1 H2) ?_;rintro _ h3 ⟨rfl,H3⟩;refine qA rfl (qA rfl ?_);refine qe H3 (b:=v0) e_8 rfl (by show 0+10≤10;omega) rfl λh4 H4=>?_;refine qD H4 (b:=v0) (off:=0) .here rfl omQ (l:=yL ((xq x).getD (op0 0 0 0))) rfl ?_;exact qj ⟨rfl,thrV.I (q:=q) hx (H4.drop.sub (.cons .here .refl))⟩
 ·rw[iQ c1];refine qX c1 (qJ ?_);by_cases c2:t.state=2
  ·rw[iJ c2];refine qx c2 (qZ ?_);refine qW (qQ (qK H1 (b:=b) e_1 rfl ?_));refine qH (l:=yL (op0 8 t.by_ 0)) rfl ?_;exact qe H1 (b:=v0) .here rfl (by show 0+10≤10;omega) rfl λh3 H3=>say H3
  ·rw[iQ c2];refine qX c2 (qJ ?_);by_cases c5:t.state=5
   ·rw[iJ c5];refine qx c5 (qZ ?_);refine qW (qQ (qK H1 (b:=b) e_1 rfl ?_));refine qi H1 (n:=t.slots.length) (v:=q.sv) e_8 ?_;refine qH (l:=yL (op0 8 t.slots.length 0)) rfl ?_;exact qe H1 (b:=v0) .here rfl (by show 0+10≤10;omega) rfl λh3 H3=>say H3
   ·rw[iQ c5];refine qX c5 (qJ ?_);refine qH (l:=yL (op0 0 0 0)) rfl ?_;refine qe H1 (b:=v0) .here rfl (by show 0+10≤10;omega) rfl λh3 H3=>?_;refine qD H3 (b:=v0) (off:=0) .here rfl omQ (l:=yL (op0 0 0 0)) rfl ?_;exact qj ⟨rfl,ThdC.I (q:=q) H3.drop⟩
end
end
section
variable {g h:AH} {L R:List SP}
theorem qze {D:Nat→Prop} {sz n hi b cp cp':Nat} {o:Bool} {xs:List AV} (S:Sl D h sz n (.slice b 0 n cp o) xs) (hle:hi≤n):Sl D h sz hi (.slice b 0 hi cp' o) (xs.take (hi*sz)):=by
 have hm:=Nat.mul_le_mul_right sz hle;cases S with
 |mk hd hb hr hl ha=>exact .mk hd hb hr (by rw[List.length_take,hl];omega) λi hi'=>by rw[ha i omQ,List.getElem?_take_of_lt hi']
theorem qx3 {hi sz n:Nat} {e:TypeId} {k:IntKind} {v:AV} {xs:List AV} {K:AV→Go.Ae.R} {Q:AV→AH→Prop} (H:HS g h L) (s:Sel L (qy e sz n v xs) R) (hsz:0<sz) (hle:hi≤n)
  (w:∀v',Rd g L sz hi v' (xs.take (hi*sz))→wp (K v') Q):wp (xV h e sz v none (some (.int k (hi:Int))) K) Q:=by
 have hm:=Nat.mul_le_mul_right sz hle;obtain⟨D,hl,⟨rfl,hn,hD⟩ |⟨b,cp,o,zs,rfl,hD,A,q1,q2,q3⟩⟩:=H.p s
 ·subst hn;obtain rfl:hi=0:=by omega
  exact w .nils λ_ _=>by rw[Nat.zero_mul,List.take_zero];exact .nils
 ·cases o with
  |false=>
   rw[iQ osQ]at q3;refine UX (hi:=hi) (lo:=0) (xx omQ) rfl ?_;have:=w (.slice b 0 hi cp false) λh' H'=>qze (H'.sl s) hle;have e0:(bif Nat.beq cp 0 then 0 else 0+0*sz)=0:=by cases Nat.beq cp 0<;>simp
   rw[e0];exact this
  |true=>rw[iJ rfl]at q3;subst q3;refine K5 (i0:=0) (hi:=hi) (lo:=0) A hsz omQ omQ (xx hle) rfl (.inr rfl) ?_;have:=w (.slice b 0 hi 0 true) λh' H'=>qze (H'.sl s) hle;simpa using this
theorem ZO {n m:Nat} {e:TypeId} {v:AV} {xs:List AV} {R2:List SP} (hn:1≤n) (H:HS g h L) (s:Sel L (qy e 5 m v xs) R2) (ha:qm xs=true) (hm:m≤1000000) :
  t_w n 32 [v] h λr h'=>HS g h' (qy 70 5 m r xs::L):=by
 refine t_e1 (S:=S32) rfl omQ λk hk=>?_;unfold S32;try simp only[iZ]
 refine JJ H s (λh1 h2=>?_) (qJ ?_)
 ·subst h1 h2;obtain rfl:xs=[]:=iA (by simpa using H.sl_len s);exact qZ (qj H.nils)
 ·refine qf (n:=0) (l:=[]) (sz:=5) H rfl rfl rfl rfl λv2 h2 H2=>?_;refine jf H2 (H2.sl (.there s)) omQ omQ ha λv3 h3 H3=>?_;rw[Nat.zero_add,List.nil_append]at H3;exact qj H3
theorem Zp {n m:Nat} {e:TypeId} {v:AV} {xs:List AV} {R2:List SP} (hn:1≤n) (H:HS g h L) (s:Sel L (qy e 4 m v xs) R2) (ha:qm xs=true) (hm:m≤1000000) :
  t_w n 43 [v] h λr h'=>HS g h' (qy 65 4 m r xs::L):=by
 refine t_e1 (S:=S43) rfl omQ λk hk=>?_;unfold S43;try simp only[iZ]
 refine JJ H s (λh1 h2=>?_) (qJ ?_)
 ·subst h1 h2;obtain rfl:xs=[]:=iA (by simpa using H.sl_len s);exact qZ (qj H.nils)
 ·refine qf (n:=0) (l:=[]) (sz:=4) H rfl rfl rfl rfl λv2 h2 H2=>?_;refine jf H2 (H2.sl (.there s)) omQ omQ ha λv3 h3 H3=>?_;rw[Nat.zero_add,List.nil_append]at H3;exact qj H3
section
variable {n b:Nat} {t:jE} {q:Vm}
theorem O8 (hn:2≤n) (hr:t.results.length≤1000000) (H:HS g h (ThdC b t::R)):t_w n 13 [.ptr b 0] h λr h'=>HS g h' (qy 65 4 t.results.length r (t.results.flatMap JC)::ThdC b t::R):=by
 refine t_e1 (S:=S13) rfl omQ λk hk=>?_;unfold S13;try simp only[iZ]
 obtain⟨q,H0⟩:=ThdC.E H;refine qW (qQ (qK H0 (b:=b) .here rfl ?_));refine qG (Zp (v:=q.rv) (xs:=t.results.flatMap JC) omQ H0 e_5 (J5 (λ_=>rfl) _) hr) λv h1 H1=>qj ?_;exact HS.unsel e_1 (ThdC.I (q:=q) (H1.sub (.cons e_1 (.cons e_1 (.cons e_1 (.cons e_1 (.cons e_1 (.cons e_1 (.cons e_1 (.cons e_1 (.cons .here .refl)))))))))))
theorem qJh {me:Int} {s:xw} {js:List (List qR)} {v:AV} (hn:13≤n) (hme:-1000000≤me∧me≤1000000) (hs:0≤s.start) (hj:∀l∈js,(xB l).2=0∧Quiet l) (hjl:js.length≤1000000) (H:HS g h (JobsC js v::R)) :
  t_w n 8 [.int .i64 me,.agg (yW s),v] h λr h'=>∃b,r=.ptr b 0∧HS g h' (ThdC b (UA me s js)::JobsC js v::R):=by
 refine t_e3 (S:=S8) rfl omQ λk hk=>?_;unfold S8;try simp only[iZ]
 obtain⟨vs,hvl,H⟩:=JobsC.E H;refine qO H rfl λb0 h1 H1=>?_;refine qD H1 (b:=b0) (off:=0) .here rfl omQ (l:=yW s) rfl ?_;refine qG (Zt omQ H1) ?_;rintro _ h2 ⟨rfl,H2⟩;clear H H1;have SO:=wG hs;refine qe H2 (b:=b0) .here rfl (by show 0+8≤8;omega) rfl λh3 H3=>?_;have H3:HS g h3 (qg b0 (yW (jw s))::qy 37 1 js.length v vs:: .all (List.zipWith zb vs js)::R):=H3;unfold UA;generalize jw s=S at*;clear H2;have h4:=SO.threads;refine qV ?_
 try dsimp only
 refine qQ (qp (qK H3 (b:=b0) .here (x:=.int .i64 S.threads) rfl ?_));refine zQ omQ (zX (zC ?_));refine qD H3 (b:=b0) (off:=0) .here rfl omQ (l:=yW S) rfl ?_;refine qG (qVi omQ H3) ?_;rintro _ h5 ⟨lb,rfl,H5⟩;have et:max ((0:Nat):Int) (min me (S.threads-((1:Nat):Int)))=max 0 (min me (S.threads-1)):=rfl;rw[et]
 let T:List (List qR)→jE:=λjs=>⟨max 0 (min me (S.threads-1)),S,js,-1,0,false,[],0,0,none,0,false,[],[],[],[],0,0,false,0⟩
 refine qH (l:=yo (T []) ⟨.nils,.nils,.nilp,.nils,.nils,lb,.nils⟩) rfl ?_;refine qO H5 rfl λb h6 H6=>?_;refine zn H3 .here rfl H5 e_1 rfl rfl omQ (HS.lt H3 .here) ?_;refine qb H3 .here rfl H5 e_1 rfl (HS.lt H3 .here) ?_
 try dsimp only
 have N1:=(H6.nils (e:=189) (sz:=2));have N2:=HS.purI (φ:=AV.nilp=.nilp) rfl N1;have N3:=PastC.I (r:=[]) (v:=.nils) (zs:=[]) rfl ((HS.allI (A:=[]) N2).nils);have N4:=N3.nils (e:=65) (sz:=4);have N5:=N4.nils (e:=23) (sz:=1);have N6:=JobsC.I (js:=[]) (v:=.nils) (vs:=[]) rfl ((HS.allI (A:=[]) N5).nils);have N7:HS g h6 (YF b (T []) ⟨.nils,.nils,.nilp,.nils,.nils,lb,.nils⟩ (qy 37 1 js.length v vs:: .all (List.zipWith zb vs js)::R)) :=
  N6.sub (.cons e_6 (.cons .here (.cons e_4 (.cons e_3 (.cons e_2 (.cons e_1 (.cons e_1 (.cons .here (.drop .refl)))))))))
 have N8:=ThdC.I N7;clear N1 N2 N3 N4 N5 N6 N7 H3 H5 H6;refine qi N8 (n:=js.length) (v:=v) e_1 ?_;refine zX ?_;rw[show min ((js.length:Nat):Int) ((6:Nat):Int)=((min js.length 6:Nat):Int) by omega];have hm6:min js.length 6≤js.length∧min js.length 6≤6:=by omega
 have etk:js.take (min js.length 6)=js.take 6:=by
  rcases Nat.lt_or_ge js.length 6 with h |h
  ·rw[Nat.min_eq_left omQ,List.take_length,List.take_of_length_le omQ]
  ·rw[Nat.min_eq_right h]
 rw[← etk];generalize min js.length 6=m at*;refine qx3 (hi:=m) N8.drop .here omQ hm6.1 λv' SV=>?_;refine xW (SV.more.sl N8) ?_;refine jN (λc s h'=>∃i:Nat,s=(.int .i64 (i:Int),.int .i64 (m:Int),v',.ptr b 0,())∧i≤m∧c=m-i∧HS g h' (ThdC b (T (js.take i))::qy 37 1 js.length v vs:: .all (List.zipWith zb vs js)::R))
  ?_ (m:=m) (by show _<1000000000;omega) ⟨0,rfl,Nat.zero_le _,rfl,N8⟩
 clear N8;rintro c ih s h7 hih ⟨i,rfl,hi,rfl,H⟩;dsimp only;by_cases hlt:i<m
 ·have hil:i<js.length:=by omega
  have hiv:i<vs.length:=by omega
  have hje:js[i]? =some js[i]:=iW hil;have hz:(List.zipWith zb vs js)[i]? =some (zb vs[i] js[i]):=by rw[List.getElem?_zipWith,iW hiv,hje]
  have hchk:=hj _ (List.getElem_mem hil);have hle:=(QM hchk.1).le;have HB0:=(H.sel (P:=.all (List.zipWith zb vs js)) e_2).allE;have o0:One vs[i]:=HB0.one (e:=70) (sz:=5) (n:=js[i].length) (Ko hz);refine jd omQ (qZ ?_);refine zU (l:=[vs[i]]) (SV.more.sl H) hlt omQ (by rw[Nat.mul_one,Nat.mul_one,List.drop_eq_getElem_cons (by rw[List.length_take];omega)];simp) ?_;refine qO H rfl λb2 h8 H8=>?_;refine qe H8 (b:=b2) .here rfl (by show 0+1≤1;omega) (by show qm [vs[i]]=true;simp[qm,o0.2]) λh9 H9=>?_;refine qV ?_
  try dsimp only
  obtain⟨q,HA⟩:=ThdC.E (H9.sel (P:=ThdC b (T (js.take i))) e_1);refine qW (qQ (qK HA (b:=b) .here rfl ?_));refine qQ (qK HA (b:=b2) e_8 (x:=vs[i]) rfl ?_);have HB:=(HA.sel (P:=.all (List.zipWith zb vs js)) e_10).allE;refine qG (ZO (e:=70) (m:=js[i].length) (xs:=js[i].flatMap jK) omQ HB (Ko hz) (J5 (λ_=>rfl) _) omQ) λpv hC HC=>?_;have HD:HS g hC (.all (List.zipWith zb vs js)::zb pv js[i]::qg b (yo (T (js.take i)) q)::_):=HS.allI (HS.unsel qXm HC);have op:=HD.one (e:=70) (sz:=5) (n:=js[i].length) e_1;refine qH (l:=[pv]) (by simp only[yF,op.1];rfl) ?_;refine qf (n:=1) (l:=[pv]) (sz:=1) HD rfl rfl (by simp only[vz,yF,AV.cells,op.1];rfl) (by simp[qm,op.2]) λv2 hE HE=>?_;obtain⟨ws,hwl,HF⟩:=JobsC.E (HE.sel (P:=JobsC (js.take i) q.jv) e_4);have hti:(js.take i).length=i:=by rw[List.length_take];omega
  refine jf HF (HF.sl e_2) omQ omQ (by simp[qm,op.2]) λv3 hG HG=>?_;have o3:=HG.one .here;refine qW (qQ ?_);refine qw HG (b:=b) e_5 o3 (by simp[yo]) λhH HH=>?_;refine qb HA .here rfl HD e_2 rfl (HS.lt HA .here) ?_;refine qc omQ ?_;refine hih (m-(i+1)) _ _ omQ ⟨i+1,rfl,by omega,rfl,?_⟩;have et:js.take (i+1)=js.take i++[js[i]]:=by rw[List.take_add_one,hje];rfl
  have ez:List.zipWith zb (ws++[pv]) (js.take i++[js[i]])=List.zipWith zb ws (js.take i)++[zb pv js[i]]:=by rw[List.zipWith_append hwl];rfl
  have HI:=OV (A:=List.zipWith zb ws (js.take i)) (B:=[zb pv js[i]]) (HH.sub (.cons e_2 (.cons e_4 .refl)));have HJ:=JobsC.I (v:=v3) (js:=js.take i++[js[i]]) (vs:=ws++[pv]) (by rw[List.length_append,List.length_append,hwl];rfl) (by rw[ez,List.length_append];exact HI.sub (.cons e_2 (.cons .here .refl)));rw[et];exact ThdC.I (t:=T (js.take i++[js[i]])) (q:={ q with jv:=v3 }) (HJ.sub (.cons e_1 (.cons .here (.cons e_2 (.cons e_2 (.cons e_2 (.cons e_2 (.cons e_2 (.cons e_2 (.cons e_3 (.cons e_1 (.drop (.drop .refl)))))))))))))
 ·obtain rfl:i=m:=by omega
  refine jH omQ (qJ ?_);refine qG (kw (t:=T (js.take i)) omQ ⟨SO,by show 0≤max 0 (min me (S.threads-1))∧max 0 (min me (S.threads-1))<S.threads;omega,λl hl=>hj l (List.mem_of_mem_take hl),by show(js.take i).length≤6;rw[List.length_take];omega,by show(0:Int)≤ -1+1∧(-1:Int)+1≤_;omega,Nat.le_refl _,Nat.zero_le _,by show(0:Int)≤0∧(0:Int)≤(([]:List KU).length:Int);decide,by show(0:Int)≤0∧(0:Int)≤0;decide,λ_=>rfl⟩ H) λ_ h8 H8=>qk (qj ⟨b,rfl,?_⟩);exact HS.unsel e_1 (JobsC.I hvl (H8.sub (.cons e_1 (.cons e_1 .refl))))
end
end
section
variable {g h:AH} {L R:List SP}
structure KSet (s:xw):Prop where
  words:32≤s.words∧s.words≤80
  stripes:1≤s.stripes∧s.stripes≤16
  wide:1≤s.wide∧s.wide≤4
  threads:s.threads=0
  start:0≤s.start∧s.start<1000
  spins:0≤s.spins∧s.spins≤4
  writes:4≤s.writes∧s.writes≤40
  fuel:20≤s.fuel∧s.fuel≤120
theorem KSet.held {s:xw} (K:KSet s):jw s={ s with threads:=1 }:=by obtain⟨a,b,c,d,e,f,g,i⟩:=K;obtain⟨w,st,wi,t,sta,sp,wr,fu⟩:=s;dsimp only at*;unfold jw;dsimp only;subst d;rw[yD (n:=w) omQ,yD (n:=st) omQ,yD (n:=wi) omQ,yD (n:=sp) omQ,yD (n:=wr) omQ,yD (n:=fu) omQ,show min sta 4611686018427387903=sta by omega,show Qu 0 1 4=1 by decide]
theorem qkR {n:Nat} (hn:2≤n) {w st wi sp wr fu t:Int} (ht:0≤t∧t<18446744073709551616) (H:HS g h R) :
  t_w n 5 [.agg [.int .i64 w,.int .i64 st,.int .i64 wi,.int .i64 sp,.int .i64 wr,.int .i64 fu,.int .u64 t]] h λr h'=>∃s,r=.agg (yW s)∧KSet s∧HS g h' R:=by
 refine t_e1 (S:=S5) rfl omQ λk hk=>?_;unfold S5;try simp only[iZ]
 refine qO H rfl λb0 h1 H1=>?_;refine qO H1 rfl λb1 h2 H2=>?_;have e1:=Q2 (x:=sp) (lo:=((0:Nat):Int)) (hi:=((4:Nat):Int)) omQ;have e2:=Q2 (x:=wr) (lo:=((4:Nat):Int)) (hi:=((40:Nat):Int)) omQ;have e3:=Q2 (x:=fu) (lo:=((20:Nat):Int)) (hi:=((120:Nat):Int)) omQ;have e4:=Q2 (x:=w) (lo:=((32:Nat):Int)) (hi:=((80:Nat):Int)) omQ;have e5:=Q2 (x:=st) (lo:=((1:Nat):Int)) (hi:=((16:Nat):Int)) omQ;have e6:=Q2 (x:=wi) (lo:=((1:Nat):Int)) (hi:=((4:Nat):Int)) omQ;refine qV ?_
 try dsimp only
 refine qQ (qK H2 (b:=b0) e_1 rfl ?_);refine qG (xh omQ omQ omQ omQ) ?_;rintro _ _ ⟨rfl,rfl⟩;refine qQ (qK H2 (b:=b0) e_1 rfl ?_);refine qG (xh omQ omQ omQ omQ) ?_;rintro _ _ ⟨rfl,rfl⟩;refine qQ (qK H2 (b:=b0) e_1 rfl ?_);refine qG (xh omQ omQ omQ omQ) ?_;rintro _ _ ⟨rfl,rfl⟩;generalize jo sp ((0:Nat):Int) ((4:Nat):Int)=sp' at*;generalize jo wr ((4:Nat):Int) ((40:Nat):Int)=wr' at*;generalize jo fu ((20:Nat):Int) ((120:Nat):Int)=fu' at*;refine qH (l:=[.int .i64 0,.int .i64 0,.int .i64 0,.int .i64 0,.int .u64 0,.int .i64 sp',.int .i64 wr',.int .i64 fu']) rfl ?_;refine qO H2 rfl λb2 h3 H3=>?_;refine qe H3 (b:=b2) .here rfl (by show 0+8≤8;omega) rfl λh4 H4=>?_
 have H4:HS g h4 (qg b2 [.int .i64 0,.int .i64 0,.int .i64 0,.int .i64 0,.int .u64 0,.int .i64 sp',.int .i64 wr',.int .i64 fu']::qg b1 [.int .i64 0,.int .i64 0,.int .i64 0,.int .i64 0,.int .u64 0,.int .i64 0,.int .i64 0,.int .i64 0]::
  qg b0 [.int .i64 w,.int .i64 st,.int .i64 wi,.int .i64 sp,.int .i64 wr,.int .i64 fu,.int .u64 t]::R):=H4
 refine qb H2 e_1 rfl H2 e_1 rfl (HS.lt H2 e_1) ?_;refine qb H2 e_1 rfl H2 e_1 rfl (HS.lt H2 e_1) ?_;refine qb H2 e_1 rfl H2 e_1 rfl (HS.lt H2 e_1) ?_;refine qV ?_
 try dsimp only
 refine qQ (qK H4 (b:=b0) e_2 rfl ?_);refine qG (xh omQ omQ omQ omQ) ?_;rintro _ _ ⟨rfl,rfl⟩;refine qQ (qK H4 (b:=b0) e_2 rfl ?_);refine qG (xh omQ omQ omQ omQ) ?_;rintro _ _ ⟨rfl,rfl⟩;refine qQ (qK H4 (b:=b0) e_2 rfl ?_);refine qG (xh omQ omQ omQ omQ) ?_;rintro _ _ ⟨rfl,rfl⟩;refine qQ (qK H4 (b:=b0) e_2 rfl ?_);refine JZ od ?_;generalize jo w ((32:Nat):Int) ((80:Nat):Int)=w' at*;generalize jo st ((1:Nat):Int) ((16:Nat):Int)=st' at*;generalize jo wi ((1:Nat):Int) ((4:Nat):Int)=wi' at*;have ht2:0≤t.tmod ((1000:Nat):Int)∧t.tmod ((1000:Nat):Int)<1000:=by rw[Int.tmod_eq_emod_of_nonneg ht.1];omega
 generalize t.tmod ((1000:Nat):Int)=t' at*;refine qH (l:=[.int .i64 w',.int .i64 st',.int .i64 wi',.int .i64 0,.int .u64 t']) rfl ?_;refine qQ (qe H4 (b:=b2) .here rfl (by show 0+5≤8;omega) rfl λh5 H5=>?_)
 have H5:HS g h5 (qg b2 (yW ⟨w',st',wi',0,t',sp',wr',fu'⟩)::qg b1 [.int .i64 0,.int .i64 0,.int .i64 0,.int .i64 0,.int .u64 0,.int .i64 0,.int .i64 0,.int .i64 0]::
  qg b0 [.int .i64 w,.int .i64 st,.int .i64 wi,.int .i64 sp,.int .i64 wr,.int .i64 fu,.int .u64 t]::R):=H5
 refine qb H4 e_2 rfl H4 e_2 rfl (HS.lt H4 e_2) ?_;refine qb H4 e_2 rfl H4 e_2 rfl (HS.lt H4 e_2) ?_;refine qb H4 e_2 rfl H4 e_2 rfl (HS.lt H4 e_2) ?_;refine qb H4 e_2 rfl H4 e_2 rfl (HS.lt H4 e_2) ?_;refine qb H4 e_2 rfl H4 e_2 rfl (HS.lt H4 e_2) ?_;refine qb H4 e_2 rfl H4 e_2 rfl (HS.lt H4 e_2) ?_;refine qD H5 (b:=b2) (off:=0) .here rfl omQ (l:=yW ⟨w',st',wi',0,t',sp',wr',fu'⟩) rfl ?_;refine qe H5 (b:=b1) e_1 rfl (by show 0+8≤8;omega) rfl λh6 H6=>?_;refine qD H6 (b:=b1) (off:=0) .here rfl omQ (l:=yW ⟨w',st',wi',0,t',sp',wr',fu'⟩) rfl ?_;exact qj ⟨_,rfl,⟨by omega,by omega,by omega,rfl,ht2,by omega,by omega,by omega⟩,H6.drop.drop.drop⟩
end
section
theorem qvt {h:AH} {d:Nat} {v:AV} (H:WT Tryz.prog h (d+3) 39 [v]):∃ks:List qR,Sl (λb=>b<h.nx) h 5 ks.length v (ks.flatMap jK)∧∀x∈ks,0≤x.2.2.2.2∧x.2.2.2.2<18446744073709551616:=by
 obtain⟨q,xs,S,_,H2⟩:=Oe (sz:=5) Tryz.underlying39 (by kernel_rfl) omQ H
 obtain⟨ks,g1,g3,rfl⟩:=qjL (α:=qR) (Pr:=λx=>0≤x.2.2.2.2∧x.2.2.2.2<18446744073709551616) jK S.len (λi hi=>by
  have:=H2 i hi;generalize(xs.drop (i*5)).take 5=row at this;unfold WT at this;simp only[Tryz.underlying90]at this;obtain⟨g1,g2⟩:=this;rw[show Tryz.prog.cellsOf 90=5 by kernel_rfl]at g1
  match row,g1 with
  |[x,y,z,u,t],_=>
   have f1:=g2 _ (iK ..);have f2:=g2 _ (iX _ (iK ..));have f3:=g2 _ (iX _ (iX _ (iK ..)));have f4:=g2 _ (iX _ (iX _ (iX _ (iK ..))));have f5:=g2 _ (iX _ (iX _ (iX _ (iX _ (iK ..)))));rw[show Tryz.prog.cellsOf 3=1 by kernel_rfl]at f1 f2 f3 f4;rw[show Tryz.prog.cellsOf 23=1 by kernel_rfl]at f5;unfold WT at f1 f2 f3 f4 f5;simp only[Tryz.underlying3,List.drop_zero,List.take_succ_cons,List.take_zero,List.drop_succ_cons]at f1 f2 f3 f4;simp only[Tryz.underlying23,List.drop_succ_cons,List.drop_zero,List.take_succ_cons,List.take_zero]at f5;obtain⟨a,ha,_⟩:=f1;obtain⟨b,hb,_⟩:=f2;obtain⟨c,hc,_⟩:=f3;obtain⟨d,hd,_⟩:=f4;obtain⟨e,he,c5⟩:=f5;cases ha;cases hb;cases hc;cases hd;cases he
   exact⟨(a,b,c,d,e),⟨c5.1,Int.lt_of_le_of_lt c5.2 od⟩,rfl⟩)
 exact⟨ks,g1▸S,g3⟩
end
section
def Ji (k:Nat) (x:qR):qR:=if x.1=12∨x.1=13 then(x.1,x.2.1,x.2.2.1,x.2.2.2.1+k,x.2.2.2.2)else x
theorem Qe {k:Nat} {x:qR}:(Ji k x).1=x.1:=by unfold Ji;split<;>rfl
theorem qz5 (x:qR):Ji 0 x=x:=by unfold Ji;split<;>simp
structure Emb (l L:List qR) (k:Nat) (st0:List Int):Prop where
  le:k+l.length≤L.length
  ins:∀i:Nat,i<l.length→qP L ((k+i:Nat):Int)=Ji k (qP l i)
  st:qE L k=st0
theorem qQ3 {st0 s:List Int} {k i:Nat} {op:Int} (h:0<jr op→s≠[]):jZ (st0++s.map (· +(k:Int))) ((k+i:Nat):Int) op=st0++(jZ s i op).map (· +(k:Int)):=by
 have hd:0<jr op→(st0++s.map (· +(k:Int))).dropLast=st0++s.dropLast.map (· +(k:Int)):=by intro h0;rw[List.dropLast_append_of_ne_nil (by simpa using h h0),List.map_dropLast]
 have e:[((k+i:Nat):Int)]=[(i:Int)].map (· +(k:Int)):=by simp;omega
 unfold jZ;by_cases c1:z7 op=true∨op=18
 ·rw[iJ c1,iJ c1];by_cases c2:0<jr op
  ·rw[iJ c2,iJ c2,hd c2,List.map_append,e,List.append_assoc]
  ·rw[iQ c2,iQ c2,List.map_append,e,List.append_assoc]
 ·rw[iQ c1,iQ c1];by_cases c2:0<jr op
  ·rw[iJ c2,iJ c2,hd c2]
  ·rw[iQ c2,iQ c2]
section
variable {l L:List qR} {k:Nat} {st0:List Int}
theorem Emb.stack (E:Emb l L k st0) (hw:∀j,j<l.length→zc l (qE l j) (qP l j)=0):∀i,i≤l.length→qE L (k+i)=st0++(qE l i).map (· +(k:Int)):=by
 intro i
 induction i with
 |zero=>intro _;rw[Nat.add_zero,E.st];simp[qE]
 |succ i ih=>intro hi;rw[← Nat.add_assoc,jz,ih omQ,E.ins i omQ,Qe,qQ3 λh=>(xv (hw i omQ)).2.1 (.inl h),jz]
theorem qJs {s:List Int} (h:s≠[]):qt (st0++s.map (· +(k:Int)))=qt s+k:=by unfold qt;rw[List.getLast?_append,List.getLast?_map,List.getLast?_eq_some_getLast h];rfl
theorem qYh (F:Fit l) {p e:Nat} (hp:p<l.length) (ho:(qP l p).1=14∨(qP l p).1=17∨(qP l p).1=18) (he:e<l.length) (h1:0<jr (qP l e).1) (h2:qt (qE l e)=p):qM (qL l) (p:Int)=e:=by
 obtain⟨e0,_,_,_,_,_,hu⟩:=K6 F hp ho;obtain⟨e1,g1,g2,g3,g4,g5⟩:=gZ F hp ho;have hin:qt (qE l (p+1))=p:=by rw[jz];unfold jZ;rw[iJ (by unfold z7;simp;omega)];unfold qt;rw[List.getLast?_concat];rfl
 have a:=hu e he h1 h2;have b:=hu e1 g3 (by rw[g4];omega) (by rw[g5,hin]);rw[g1,a,b]
theorem qga (F:Fit l) {u e:Nat} (hu:u<l.length) (ho:(qP l u).1=16) (he:e<l.length) (h1:0<jr (qP l e).1) (h2:qt (qE l e)=qt (qE l u)):qM (qL l) (u:Int)=e:=by obtain⟨e1,g1,g2,g3,g4,g5⟩:=kb F hu ho;obtain⟨q,q1,q2,_,q3⟩:=vG g5;have hq:=(yz (F.ok u hu)).2.2.1 ho;rw[VL g5 q1]at hq;obtain⟨e0,_,_,_,_,_,hU⟩:=K6 F (p:=q) omQ (.inl hq);have a:=hU e he h1 (h2.trans q1);have b:=hU e1 g2 (by rw[g3];decide) (by rw[g4,q1]);rw[g1,a,b]
theorem Emb.mt (E:Emb l L k st0) (F:Fit l) (FL:Fit L) {i:Nat} (hi:i<l.length) (ho:(qP l i).1=14∨(qP l i).1=17∨(qP l i).1=18∨(qP l i).1=16):qM (qL L) ((k+i:Nat):Int)=qM (qL l) (i:Int)+k:=by
 have hle:=E.le;by_cases h:(qP l i).1=16
 ·obtain⟨e1,g1,g2,g3,g4,g5⟩:=kb F hi h;rw[g1,qga FL (u:=k+i) (e:=k+e1) omQ (by rw[E.ins i hi,Qe];exact h) omQ (by rw[E.ins e1 g2,Qe,g3];decide) (by rw[E.stack F.ok _ omQ,E.stack F.ok _ omQ,g4])];omega
 ·obtain⟨e1,g1,g2,g3,g4,g5⟩:=gZ F hi omQ;have hin:qt (qE l (i+1))=i:=by
   rw[jz];unfold jZ;rw[iJ (by unfold z7;simp;omega)];unfold qt;rw[List.getLast?_concat];rfl
  have hne:qE l e1≠[]:=by intro h0;rw[← g5,h0,Yv]at hin;omega
  rw[g1,qYh FL (p:=k+i) (e:=k+e1) omQ (by rw[E.ins i hi,Qe];omega) omQ (by rw[E.ins e1 g3,Qe,g4];omega) (by rw[E.stack F.ok _ omQ,qJs hne,g5,hin];omega)];omega
end
def YV (k:Nat) (p:PtM):PtM:={ p with pc:=p.pc+k }
structure Sim (k:Nat) (o0:List PtM) (s S:IM):Prop where
  regs:S.regs=s.regs
  out:S.out=s.out
  pc:S.pc=s.pc+k
  opn:S.opn=s.opn.map (YV k)++o0
structure SimS (k:Nat) (o0:List PtM) (d D:SM):Prop where
  e:D.e=d.e
  blk:D.blk=d.blk
  v:D.v=d.v
  nx:D.nx=d.nx+k
  regs:D.s.regs=d.s.regs
  out:D.s.out=d.s.out
  opn:D.s.opn=d.s.opn.map (YV k)++o0
section
variable {l L:List qR} {k:Nat} {st0:List Int} {o0:List PtM} {s S:IM} {V:VM}
theorem qV3 {x:qR} (h:Sim k o0 s S):(jS S V x).1=(jS s V x).1∧(jS S V x).2.2=(jS s V x).2.2∧(jS S V x).2.1.regs=(jS s V x).2.1.regs∧(jS S V x).2.1.out=(jS s V x).2.1.out∧(jS S V x).2.1.opn=(jS s V x).2.1.opn.map (YV k)++o0:=by
 unfold jS setR;rw[h.regs];by_cases c1:x.1=8
 ·rw[iJ c1,iJ c1]
  split
  ·split
   ·exact⟨rfl,rfl,rfl,h.out,h.opn⟩
   ·exact⟨rfl,rfl,h.regs,h.out,h.opn⟩
  ·exact⟨rfl,rfl,h.regs,h.out,h.opn⟩
 rw[iQ c1,iQ c1];by_cases c2:x.1=9
 ·rw[iJ c2,iJ c2]
  split
  ·exact⟨rfl,rfl,h.regs,h.out,h.opn⟩
  ·exact⟨rfl,rfl,h.regs,h.out,h.opn⟩
 rw[iQ c2,iQ c2];by_cases c3:x.1=10
 ·rw[iJ c3,iJ c3]
  split
  ·exact⟨rfl,rfl,h.regs,h.out,h.opn⟩
  ·split
   ·exact⟨rfl,rfl,rfl,h.out,h.opn⟩
   ·exact⟨rfl,rfl,h.regs,h.out,h.opn⟩
 rw[iQ c3,iQ c3]
 split
 ·exact⟨rfl,rfl,h.regs,h.out,h.opn⟩
 ·exact⟨rfl,rfl,h.regs,h.out,h.opn⟩
theorem qVD {op:Int} (h:Sim k o0 s S):SimS k o0 (zB op s.pc (s.pc+1) s V) (zB op S.pc (S.pc+1) S V):=by
 unfold zB;have hp:=h.pc
 split
 ·refine⟨rfl,rfl,rfl,by show S.pc+1=s.pc+1+k;omega,h.regs,h.out,?_⟩;show _::S.opn=_::(s.opn.map (YV k))++o0;rw[h.opn,List.cons_append];unfold YV;rw[h.regs,h.out,hp]
 ·exact⟨rfl,rfl,rfl,by show S.pc+1=s.pc+1+k;omega,h.regs,h.out,h.opn⟩
theorem qwN {mt MT:List Int} {x:qR} (h:Sim k o0 s S) (hx:1≤x.1∧x.1≤22) (h20:x.1≠20) (hm:x.1=16∨x.1=18→qM MT S.pc=qM mt s.pc+k) (ho:x.1=15∨x.1=16∨x.1=18∨x.1=19→s.opn≠[]) :
  SimS k o0 (doM mt s V x) (doM MT S V (Ji k x)):=by
 have hp:=h.pc;have hr:=h.regs;have hnx:S.pc+1=s.pc+1+k:=by omega
 by_cases cj:x.1=12∨x.1=13
 ·have ex:Ji k x=(x.1,x.2.1,x.2.2.1,x.2.2.2.1+k,x.2.2.2.2):=iJ cj;rw[ex];unfold doM;rcases cj with cj |cj
  ·simp only[cj];exact⟨rfl,rfl,rfl,rfl,h.regs,h.out,h.opn⟩
  ·simp only[cj];refine⟨rfl,rfl,rfl,?_,h.regs,h.out,h.opn⟩;show(if qM S.regs x.2.1=0 then x.2.2.2.1+(k:Int)else S.pc+1)=(if qM s.regs x.2.1=0 then x.2.2.2.1 else s.pc+1)+k;rw[hr]
   split
   ·rfl
   ·exact hnx
 have ex:Ji k x=x:=iQ cj;rw[ex];unfold doM;by_cases c1:x.1=1
 ·rw[iJ c1,iJ c1];unfold setR;rw[hr];exact⟨rfl,rfl,rfl,hnx,rfl,h.out,h.opn⟩
 rw[iQ c1,iQ c1];by_cases c2:x.1=2
 ·rw[iJ c2,iJ c2];unfold setR;rw[hr];exact⟨rfl,rfl,rfl,hnx,rfl,h.out,h.opn⟩
 rw[iQ c2,iQ c2];by_cases c3:x.1=3
 ·rw[iJ c3,iJ c3];unfold setR;rw[hr];exact⟨rfl,rfl,rfl,hnx,rfl,h.out,h.opn⟩
 rw[iQ c3,iQ c3];by_cases c4:x.1=4
 ·rw[iJ c4,iJ c4];unfold setR;rw[hr];exact⟨rfl,rfl,rfl,hnx,rfl,h.out,h.opn⟩
 rw[iQ c4,iQ c4];by_cases c5:x.1=5
 ·rw[iJ c5,iJ c5];unfold setR;rw[hr];exact⟨rfl,rfl,rfl,hnx,rfl,h.out,h.opn⟩
 rw[iQ c5,iQ c5];by_cases c6:x.1=6
 ·rw[iJ c6,iJ c6];unfold setR;rw[hr];exact⟨rfl,rfl,rfl,hnx,rfl,h.out,h.opn⟩
 rw[iQ c6,iQ c6];by_cases c7:x.1=7
 ·rw[iJ c7,iJ c7];unfold setR;rw[hr];exact⟨rfl,rfl,rfl,hnx,rfl,h.out,h.opn⟩
 rw[iQ c7,iQ c7];rw[iQ (λh=>cj (.inl h)),iQ (λh=>cj (.inl h)),iQ (λh=>cj (.inr h)),iQ (λh=>cj (.inr h))];by_cases c21:x.1=21
 ·rw[iJ c21,iJ c21,h.out,hr]
  split
  ·exact⟨rfl,rfl,rfl,hnx,h.regs,h.out,h.opn⟩
  ·exact⟨rfl,rfl,rfl,hnx,rfl,rfl,h.opn⟩
 rw[iQ c21,iQ c21];by_cases c22:x.1=22
 ·rw[iJ c22,iJ c22];exact⟨rfl,rfl,rfl,hnx,h.regs,h.out,h.opn⟩
 rw[iQ c22,iQ c22];by_cases c8:x.1=8∨x.1=9∨x.1=10∨x.1=11
 ·rw[iJ c8,iJ c8];obtain⟨a,b,c,d,e⟩:=qV3 (V:=V) (x:=x) h;exact⟨a,rfl,b,hnx,c,d,e⟩
 rw[iQ c8,iQ c8];unfold wZ;by_cases t1:x.1=14∨x.1=17
 ·rw[iJ t1,iJ t1];exact qVD h
 rw[iQ t1,iQ t1];have tl:x.1=15∨x.1=16∨x.1=18∨x.1=19→S.opn.tail=s.opn.tail.map (YV k)++o0:=by
  intro hh;have:=ho hh;rw[h.opn];cases hs:s.opn with
  |nil=>exact absurd hs this
  |cons p o=>rfl
 by_cases t2:x.1=15∨x.1=19
 ·rw[iJ t2,iJ t2];exact⟨rfl,rfl,rfl,hnx,h.regs,h.out,tl omQ⟩
 rw[iQ t2,iQ t2];by_cases t3:x.1=18
 ·rw[iJ t3,iJ t3];have:=hm (.inr t3);exact⟨rfl,rfl,rfl,by show qM MT S.pc+1=qM mt s.pc+1+k;omega,h.regs,h.out,tl omQ⟩
 rw[iQ t3,iQ t3];by_cases t4:x.1=16
 ·rw[iJ t4,iJ t4];have:=hm (.inl t4);have hh:Up S.opn=YV k (Up s.opn):=by
   have:=ho (.inr (.inl t4));rw[h.opn];cases hs:s.opn with
   |nil=>exact absurd hs this
   |cons p o=>rfl
  refine⟨rfl,rfl,rfl,by show qM MT S.pc+1=qM mt s.pc+1+k;omega,?_,?_,tl omQ⟩
  ·show(Up S.opn).regs=(Up s.opn).regs;rw[hh];rfl
  ·show S.out.take (Up S.opn).told=s.out.take (Up s.opn).told;rw[hh,h.out];rfl
 omega
end
end
section
theorem do_nx {l:List qR} (F:Fit l) {s:IM} {V:VM} {i:Nat} (hi:s.pc=i) (hlt:i<l.length) (h20:(qP l i).1≠20) (h23:(qP l i).1≠23):∃j:Nat,(doM (qL l) s V (qP l i)).nx=j∧j≤l.length:=by
 have hm:=qXa (yz (F.ok i hlt)).1 h23;have hj:=F.jump i hlt;have h1:∃j:Nat,s.pc+1=j∧j≤l.length:=⟨i+1,by omega,by omega⟩;have hmt:(qP l i).1=16∨(qP l i).1=18→∃j:Nat,qM (qL l) s.pc+1=j∧j≤l.length:=by
  intro h;rw[hi];rcases h with h |h
  ·obtain⟨e,e1,e2,_⟩:=kb F hlt h;exact⟨e+1,by omega,by omega⟩
  ·obtain⟨e,e1,_,e2,_⟩:=gZ F hlt (.inr (.inr h));exact⟨e+1,by omega,by omega⟩
 have hc:(qP l i).1=12∨(qP l i).1=13→∃j:Nat,(qP l i).2.2.2.1=j∧j≤l.length:=by
  intro h;refine⟨(qP l i).2.2.2.1.toNat,by omega,?_⟩;by_cases hc:(l.length:Int)<(qP l i).2.2.2.1
  ·exact absurd ⟨h,.inl hc⟩ hj
  ·omega
 generalize qP l i=x at*;unfold doM;by_cases c1:x.1=1
 ·rw[iJ c1];exact h1
 rw[iQ c1];by_cases c2:x.1=2
 ·rw[iJ c2];exact h1
 rw[iQ c2];by_cases c3:x.1=3
 ·rw[iJ c3];exact h1
 rw[iQ c3];by_cases c4:x.1=4
 ·rw[iJ c4];exact h1
 rw[iQ c4];by_cases c5:x.1=5
 ·rw[iJ c5];exact h1
 rw[iQ c5];by_cases c6:x.1=6
 ·rw[iJ c6];exact h1
 rw[iQ c6];by_cases c7:x.1=7
 ·rw[iJ c7];exact h1
 rw[iQ c7];by_cases c12:x.1=12
 ·rw[iJ c12];exact hc (.inl c12)
 rw[iQ c12];by_cases c13:x.1=13
 ·rw[iJ c13];show∃j:Nat,(if qM s.regs x.2.1=0 then x.2.2.2.1 else s.pc+1)=j∧j≤l.length
  split
  ·exact hc (.inr c13)
  ·exact h1
 rw[iQ c13];by_cases c21:x.1=21
 ·rw[iJ c21];split<;>exact h1
 rw[iQ c21];by_cases c22:x.1=22
 ·rw[iJ c22];exact h1
 rw[iQ c22];by_cases c8:x.1=8∨x.1=9∨x.1=10∨x.1=11
 ·rw[iJ c8];exact h1
 rw[iQ c8];unfold wZ;by_cases t1:x.1=14∨x.1=17
 ·rw[iJ t1];unfold zB;split<;>exact h1
 rw[iQ t1];by_cases t2:x.1=15∨x.1=19
 ·rw[iJ t2];exact h1
 rw[iQ t2];by_cases t3:x.1=18
 ·rw[iJ t3];exact hmt (.inr t3)
 rw[iQ t3];by_cases t4:x.1=16
 ·rw[iJ t4];exact hmt (.inl t4)
 clear h1 hmt hc;omega
section
variable {l L:List qR} {k:Nat} {st0:List Int} {o0:List PtM}
theorem qkn (E:Emb l L k st0) (F:Fit l) {s S:IM} {V:VM} (h:Sim k o0 s S) (G:GI L S V) {i:Nat} (hi:s.pc=i) (hil:i≤l.length) (h0:o0.length=st0.length):s.opn.length=(qE l i).length:=by have e:=congrArg List.length G.stk;rw[h.pc,hi,show((i:Int)+(k:Int)).toNat=k+i by omega,E.stack F.ok i hil,h.opn]at e;simp at e;omega
theorem qjr (E:Emb l L k st0) (F:Fit l) (FL:Fit L) (QL:Quiet L) (Cl:Calm l) (h0:o0.length=st0.length) {s S:IM} {V:VM} (h:Sim k o0 s S) (G:GI L S V) {i:Nat} (hi:s.pc=i) (hlt:i<l.length) :
  SimS k o0 (doM (qL l) s V (qP l i)) (doM (qL L) S V (qP L ((k+i:Nat):Int)))∧(doM (qL l) s V (qP l i)).blk=false∧∃j:Nat,(doM (qL l) s V (qP l i)).nx=j∧j≤l.length:=by
 have hle:=E.le;have hq:(qP l i).1≠23:=by
  have:=(QL.at (i:=k+i) omQ).1
  rwa [E.ins i hlt,Qe]at this
 have h20:(qP l i).1≠20:=by rw[xi hlt];exact Cl _ (List.getElem_mem hlt)
 have hw:=F.ok i hlt;have hb:=qXa (yz hw).1 hq;have hlen:=qkn E F h G hi omQ h0;have hso:S.pc=((k+i:Nat):Int):=by have:=h.pc;omega
 rw[E.ins i hlt];refine⟨qwN h omQ h20 (λho=>?_) (λho hn=>?_),qQP omQ h20 hq,do_nx F hi hlt h20 hq⟩
 ·rw[hso,hi,E.mt F FL hlt omQ]
 ·rw[hn]at hlen
  have:qE l i≠[]:=(xv hw).2.1 (by
   rcases ho with ho |ho |ho |ho
   ·exact .inl (by rw[ho];decide)
   ·exact .inr ho
   ·exact .inl (by rw[ho];decide)
   ·exact .inl (by rw[ho];decide))
  exact this (iA hlen.symm)
theorem qv8 (E:Emb l L k st0) (F:Fit l) (FL:Fit L) (QL:Quiet L) (Cl:Calm l) (h0:o0.length=st0.length):∀(n:Nat) {s S:IM} {V:VM},Sim k o0 s S→GI L S V→(∃i:Nat,s.pc=i∧i≤l.length)→frS V.lv+n<9000→
  ((jg l (qL l) n s V).kind=2→∃S',jg L (qL L) n S V=jg L (qL L) (jg l (qL l) n s V).left S' (jg l (qL l) n s V).v∧Sim k o0 (jg l (qL l) n s V).s S'∧GI L S' (jg l (qL l) n s V).v∧
   frS (jg l (qL l) n s V).v.lv+(jg l (qL l) n s V).left<9000∧(jg l (qL l) n s V).s.pc=l.length∧(jg l (qL l) n s V).left≤n)∧
  ((jg l (qL l) n s V).kind≠2→(jg L (qL L) n S V).kind=(jg l (qL l) n s V).kind∧(jg L (qL L) n S V).err=(jg l (qL l) n s V).err):=by
 have hle:=E.le;intro n
 induction n with
 |zero=>
  rintro s S V h G ⟨i,hi,hil⟩ hf;have hp:=h.pc;rw[gw];by_cases c:s.pc=l.length
  ·rw[iJ c];exact⟨λ_=>⟨S,rfl,h,G,hf,c,Nat.le_refl _⟩,λhk=>absurd rfl hk⟩
  ·rw[iQ c,gw,iQ omQ];exact⟨λhk=>(by cases hk),λ_=>⟨rfl,rfl⟩⟩
 |succ n ih=>
  rintro s S V h G ⟨i,hi,hil⟩ hf;have hp:=h.pc;rw[gu];by_cases c:s.pc=l.length
  ·rw[iJ c];exact⟨λ_=>⟨S,rfl,h,G,hf,c,Nat.le_refl _⟩,λhk=>absurd rfl hk⟩
  ·have hlt:i<l.length:=by omega
   have hSp:S.pc=((k+i:Nat):Int):=by omega
   obtain⟨D,hb,j,hj,hjl⟩:=qjr E F FL QL Cl h0 h G hi hlt;have St:=JD FL G hSp omQ omQ (QL.at (i:=k+i) omQ).2 (QL.at (i:=k+i) omQ).1;have e1:=gu (l:=L) (mt:=qL L) (n:=n) (s:=S) (V:=V);rw[iQ (show¬S.pc=L.length by omega),hSp]at e1;rw[iQ c,e1,hi];clear e1;generalize doM (qL l) s V (qP l i)=d at*;generalize doM (qL L) S V (qP L ((k+i:Nat):Int))=D' at*;have hB:D'.blk=false:=D.blk.trans hb;by_cases c0:d.e=0
   ·rw[iJ c0,iQ (by rw[hb];simp),iJ (D.e.trans c0),iQ (by rw[hB];simp)];have hfr:=St.fr;have G2:=St.next (D.e.trans c0) hB;have S2:Sim k o0 { d.s with pc:=d.nx } { D'.s with pc:=D'.nx }:=⟨D.regs,D.out,D.nx,D.opn⟩;rw[D.v]at hfr G2 ⊢;obtain⟨a,b⟩:=ih S2 G2 ⟨j,hj,hjl⟩ omQ;refine⟨λhk=>?_,b⟩;obtain⟨S',x1,x2,x3,x4,x5,x6⟩:=a hk;exact⟨S',x1,x2,x3,x4,x5,by omega⟩
   ·have c0':¬D'.e=0:=by rw[D.e];exact c0
    rw[iQ c0,iQ c0'];by_cases c11:d.e=11
    ·rw[iJ c11,iJ (D.e.trans c11)];exact⟨λhk=>(by cases hk),λ_=>⟨rfl,rfl⟩⟩
    ·have c11':¬D'.e=11:=by rw[D.e];exact c11
     rw[iQ c11,iQ c11'];exact⟨λhk=>(by cases hk),λ_=>⟨rfl,D.e⟩⟩
end
end
section
variable {g h:AH} {L R:List SP}
end
section
theorem Bld.weak {l:List qR} {st:List Int} (B:Bld true l st):Bld false l st :=
 ⟨λx hx=>⟨(B.ok x hx).may,(B.ok x hx).no,(B.ok x hx).n,λh=>(by cases h)⟩,B.wr,B.top,λj hj ho=>(by
  obtain⟨c,c1,c2,c3,_⟩:=B.jp j hj ho
  exact⟨c,c1,c2,c3,λh=>by cases h⟩),B.five⟩
theorem qva (p t:List qR):Emb p (p++t) 0 []:=⟨by simp,λi hi=>by rw[qz5,Nat.zero_add,Xv hi],rfl⟩
section
variable {p:List qR} {op:Int}
theorem qqh (B:Bld true p []) (h:op=20∨op=22):Bld false (p++[one op]) [] :=
 B.weak.flat ⟨by rcases h with rfl |rfl<;>decide,by rcases h with rfl |rfl<;>decide,by rcases h with rfl |rfl<;>decide,λh=>(by cases h)⟩ (by rcases h with rfl |rfl<;>(unfold Flat;decide)) (by rcases h with rfl |rfl<;>decide)
theorem Ge {calm:Bool} {l:List qR} (B:Bld calm l []):Quiet l:=λx hx=>⟨(B.ok x hx).no,(B.ok x hx).n⟩
theorem qW9 {l:List qR} (B:Bld true l []):Calm l:=λx hx=>((B.ok x hx).cal rfl).1
theorem fails (B:Bld true p []) (h0:0<p.length) (h39:p.length≤39) (h:op=20∨op=22) {zs:List Int} (hz:OkN zs) :
  (yM (p++[one op]) 400 zs 96).kind≠2∧
  ((yM p 400 zs 96).kind≠2→(yM p 400 zs 96).kind=4∧(yM (p++[one op]) 400 zs 96).kind=4∧(yM (p++[one op]) 400 zs 96).err=(yM p 400 zs 96).err)∧
  ((yM p 400 zs 96).kind=2→op=20∧(yM (p++[one op]) 400 zs 96).kind=3∧(yM (p++[one op]) 400 zs 96).err=0∨op=22∧(yM (p++[one op]) 400 zs 96).kind=4∧(yM (p++[one op]) 400 zs 96).err=13∨
   (yM (p++[one op]) 400 zs 96).kind=4∧(yM (p++[one op]) 400 zs 96).err=6):=by
 have BL:=qqh B h;have F:Fit p:=QM (by rw[B.fit h0 omQ]);have FL:Fit (p++[one op]):=QM (by rw[BL.fit osQ (by simp;omega)]);have Q:=Ge B;have QL:=Ge BL;have C:=qW9 B;have G:=Kr (l:=p) (m:=96) hz;have GL:=Kr (l:=p++[one op]) (m:=96) hz;have f0:=Xe zs 96;have n3:=qzo F Q C 400 G omQ;have n1:=qVO F Q (n:=400) (zs:=zs) (m:=96) G rfl rfl omQ;have rk:=(Gs F Q 400 G omQ).2.2.2.2;obtain⟨a,b⟩:=qv8 (qva p [one op]) F FL QL C (o0:=[]) rfl 400 (s:=YX) (S:=YX) (V:=jM zs 96) ⟨rfl,rfl,rfl,rfl⟩ GL ⟨0,rfl,Nat.zero_le _⟩ omQ;unfold yM;generalize jg p (qL p) 400 YX (jM zs 96)=A at*;by_cases k2:A.kind=2
 ·obtain⟨S',x1,x2,x3,x4,x5,x6⟩:=a k2;have hp:S'.pc=((p.length:Nat):Int):=by have:=x2.pc;omega
  have hne:¬S'.pc=(p++[one op]).length:=by rw[hp];simp;omega
  have hins:qP (p++[one op]) S'.pc=one op:=by have e:=Q8 (l:=p) (t:=[one op]) (k:=0) (x:=one op) rfl;rw[hp];exact e
  have ho:S'.opn=[]:=by have e:=x3.stk;rw[hp,Int.toNat_natCast,wY _ (Nat.le_refl _),F.nil]at e;simpa using e
  have key:op=20∧(jg (p++[one op]) (qL (p++[one op])) A.left S' A.v).kind=3∧(jg (p++[one op]) (qL (p++[one op])) A.left S' A.v).err=0∨op=22∧(jg (p++[one op]) (qL (p++[one op])) A.left S' A.v).kind=4∧(jg (p++[one op]) (qL (p++[one op])) A.left S' A.v).err=13∨
    (jg (p++[one op]) (qL (p++[one op])) A.left S' A.v).kind=4∧(jg (p++[one op]) (qL (p++[one op])) A.left S' A.v).err=6:=by
   cases A.left with
   |zero=>rw[gw,iQ hne];exact .inr (.inr ⟨rfl,rfl⟩)
   |succ m=>
    rw[gu,iQ hne,hins];rcases h with rfl |rfl
    ·have e:doM (qL (p++[one 20])) S' A.v (one 20)=⟨0,S'.pc,true,{ S' with opn:=[] },A.v⟩:=by
      show yn _ S'.opn S' A.v=_;rw[ho];rfl
     rw[e];exact .inl ⟨rfl,rfl,rfl⟩
    ·exact .inr (.inl ⟨rfl,rfl,rfl⟩)
  rw[x1];exact⟨by omega,λh=>absurd k2 h,λ_=>key⟩
 ·obtain⟨y1,y2⟩:=b k2;have k4:A.kind=4:=by omega
  exact⟨by rw[y1];exact k2,λ_=>⟨k4,by rw[y1];exact k4,y2⟩,λh=>absurd h k2⟩
end
end
namespace threadAlone
variable {g h:AH} {L R:List SP}
theorem qjm {s:List UInt8} {K:AV→Go.Ae.R} {Q:AV→AH→Prop} (w:wp (K (.bool false)) Q):wp (N9 .neq (.str s) (.str s) K) Q:=by show wp (K (.bool (!seq? s s))) Q;rw[qQM];exact w
theorem law {k : Nat} (hk : 40 ≤ k) {a0 : AV} {vs : List AV} {kss : List (List qR)} {w st wi sp wr fu t : Int} (hal : vs.length = kss.length) (S0 : Sl (fun b => b < h.nx) h 1 vs.length a0 vs)
    (SI:∀(i:Nat) (x:AV) (ks:List qR),vs[i]? =some x→kss[i]? =some ks→Sl (λb=>b<h.nx) h 5 ks.length x (ks.flatMap jK)) (hN:∀ks∈kss,∀x∈ks,0≤x.2.2.2.2∧x.2.2.2.2<18446744073709551616)
    (ht:0≤t∧t<18446744073709551616) :
    wp ((tD2 S3) (wO 4 (callT tab qz k)) [a0,.agg [.int .i64 w,.int .i64 st,.int .i64 wi,.int .i64 sp,.int .i64 wr,.int .i64 fu,.int .u64 t]] h) λv _=>v=.bool true:=by
  show wp (S3 (wO _ (callT tab qz _)) _ _ _).1 _;unfold S3
  try simp only[ iZ]
  refine qO (HS.nil h) rfl λb0 h1 H1=>?_;refine qwU (jX (qJ ?_));refine qD H1 (b:=b0) (off:=0) .here rfl omQ (l:=[.int .i64 w,.int .i64 st,.int .i64 wi,.int .i64 sp,.int .i64 wr,.int .i64 fu,.int .u64 t]) rfl ?_;refine xS od (qkR omQ ht H1) ?_;rintro _ h2 ⟨s,rfl,K,H2⟩;refine qO H2 rfl λb1 h3 H3=>?_;refine qe H3 (b:=b1) .here rfl (by show 0+8≤8;omega) rfl λh4 H4=>?_;have H4:HS h h4 (qg b1 (yW s)::[]):=H4.sub (.cons .here (.drop .refl));clear H1 H2 H3;refine qQ (qD H4 (b:=b1) (off:=0) .here rfl omQ (l:=QS s) rfl ?_);refine xS od (qvL omQ K.start.1 H4) ?_;rintro _ h5 ⟨p,rfl,H5⟩;have O:=wG K.start.1;have hSe:=K.held;have hST:(jw s).threads=1:=by rw[hSe]
  have hSw:(jw s).words=s.words:=by rw[hSe]
  have hSt:(jw s).start=s.start:=by rw[hSe]
  have hSwr:(jw s).writes=s.writes:=by rw[hSe]
  have hSf:(jw s).fuel=s.fuel:=by rw[hSe]
  have hSS2:=YG O;generalize hSS:jw s=S at*;clear hSe;have q0:HS h h5 (JobsC [] .nils::MemC p S (Xj S)::qg b1 (yW s)::[]):=JobsC.I (js:=[]) (v:=.nils) (vs:=[]) rfl ((HS.allI (A:=[]) H5).nils)
  refine jN (fun c q h' => ∃ (js : List (List qR)) (lv : AV), q = (.int .i64 (js.length : Int), lv, .ptr p 0, .ptr b1 0, a0, ()) ∧ js.length ≤ vs.length ∧ js.length ≤ 5 ∧ c = 5 - js.length ∧ (∀ l ∈ js, (xB l).2 = 0 ∧ Quiet l) ∧
      HS h h' (JobsC js lv::MemC p S (Xj S)::qg b1 (yW s)::[]))
    ?_ (m:=5) od ⟨[],.nils,rfl,Nat.zero_le _,Nat.zero_le _,rfl,λ_ h=>(by cases h),q0⟩
  clear H4 H5 q0;rintro c ih q h6 hih ⟨js,lv,rfl,hjl,hj5,rfl,hjk,H⟩;dsimp only;refine xW (S0.old H.old) ?_;refine YQ (OE (λz g'=>g'=h6∧∃u:AV,z=(u,.bool (decide ((js.length:Int)<(vs.length:Int))),.int .i64 (js.length:Int),lv,.ptr p 0,.ptr b1 0,a0,())∧(js.length<vs.length→u=.bool (decide (js.length<5)))) (λj hj=>?_) ?_)
  · refine qx4 (λc1=>?_) (λc1=>?_)
    · refine YQ (hj _ _ ⟨rfl,_,rfl,λ_=>?_⟩)
      congr 1
      exact decide_eq_decide.2 omQ
    · exact hj _ _ ⟨rfl,_,rfl,λh=>absurd h omQ⟩
  rintro _ _ ⟨rfl,u,rfl,hu⟩;dsimp only;have hp:∀{K:AV→Go.Ae.R} {Q:AV→AH→Prop},(∀b:Bool,(b=true↔(js.length<vs.length∧js.length<5))→wp (K (.bool b)) Q)→wp (yc (.bool (decide ((js.length:Int)<(vs.length:Int)))) u (.bool false) K) Q:=λ{K Q} hw=>by
    by_cases c1:js.length<vs.length
    · rw[iG (show(js.length:Int)<(vs.length:Int) by omega),hu c1];exact qF (hw _ ⟨λh=>⟨c1,of_decide_eq_true h⟩,λh=>iG h.2⟩)
    · rw[iV (show¬(js.length:Int)<(vs.length:Int) by omega)];exact qI (hw _ ⟨λh=>(by cases h),λh=>absurd h.1 c1⟩)
  refine hp λbb hbb=>?_;clear hp hu;cases bb with
  |true=>
    obtain⟨c1,c2⟩:=hbb.1 rfl;have hkl:js.length<kss.length:=by omega
    refine qZ (zJ (S0.old H.old) (x:=vs[js.length]) (iW c1) ?_);refine xS od (qqB (ks:=kss[js.length]) (calm:=false) (most:=((24:Nat):Int)) omQ (hN _ (List.getElem_mem hkl)) omQ H (Rd.arg (SI js.length _ _ (iW c1) (iW hkl)))) ?_;rintro _ h7 ⟨pv,l,rfl,B,hl0,hl40,H7⟩;have hc:(xB l).2=0:=by rw[B.fit hl0 omQ]
    have hQ:=Ge B;have op:=H7.one (e:=70) (sz:=5) (n:=l.length) .here;refine qf (n:=1) (l:=[pv]) (sz:=1) H7 rfl rfl (by simp only[vz,yF,AV.cells,op.1];rfl) (by simp[qm,op.2]) λv2 h8 H8=>?_;obtain⟨ws,hwl,H9⟩:=JobsC.E (H8.sel (P:=JobsC js lv) e_2);refine jf H9 (H9.sl e_2) omQ omQ (by simp[qm,op.2]) λv3 h9 HA=>?_;refine qc omQ ?_;have ez:List.zipWith zb (ws++[pv]) (js++[l])=List.zipWith zb ws js++[zb pv l]:=by rw[List.zipWith_append hwl];rfl
    have HB:=OV (A:=List.zipWith zb ws js) (B:=[zb pv l]) (HA.sub (.cons e_1 (.cons e_2 .refl)));have HC:=JobsC.I (v:=v3) (js:=js++[l]) (vs:=ws++[pv]) (by rw[List.length_append,List.length_append,hwl];rfl) (by rw[ez,List.length_append];exact HB.sub (.cons e_1 (.cons .here .refl)));have hl1:(js++[l]).length=js.length+1:=by simp
    refine hih (5-(js.length+1)) _ _ omQ ⟨js++[l],v3,?_,by omega,by omega,by rw[hl1],λx hx=>?_,HC.sub (.cons .here (.drop .refl))⟩
    · rw[hl1];rfl
    · rcases List.mem_append.1 hx with hx |hx
      · exact hjk x hx
      · rcases List.mem_cons.1 hx with rfl |hx
        · exact⟨hc,hQ⟩
        · cases hx
  |false=>
    refine qJ ?_;clear hih hbb;refine qD H (b:=b1) (off:=0) e_2 rfl omQ (l:=yW s) rfl ?_;refine xS od (qJh (me:=0) (s:=s) omQ omQ K.start.1 hjk omQ H) ?_;rintro _ h7 ⟨tb,rfl,H7⟩;refine Kd (qV ?_)
    try dsimp only
    refine qd (Kd ?_)
    try dsimp only
    refine qI (qJ ?_);refine qH (l:=yL (op0 2 5 14)) rfl ?_;refine xS od (qzF (o:=op0 2 5 14) omQ ⟨Int.le_refl _,by show(0:Int)<1000000000;decide⟩ (H7.sel (P:=MemC p S (Xj S)) e_2)) ?_;rintro _ h8 ⟨rfl,H8⟩;have Q0:=qKS (qvM O) (at_:=5) (w:=14) od ⟨by decide,by decide⟩;have C0:=qY7 (me:=0) O Q0 (by have:=K.start;omega) ⟨Int.le_refl _,by omega⟩;have hsl:(jm (Xj S) (op0 2 5 14)).2.s=[0]:=by rw[Q0.s,hST];rfl
    have T0:=qgE (s:=s) (js:=js) hSS hST omQ C0 hsl Q0.w0 (by rw[Q0.n];exact Int.le_refl _);have hM0:=qzs C0 hsl;have hct:=Q0.cnt;generalize(jm (Xj S) (op0 2 5 14)).2=M0 at*;have hMl:M0.w.length≤256∧32≤M0.w.length:=by have:=Q0.w;have:=O.words;omega
    refine xS od (NX omQ omQ H8) ?_;intro wv h9 H9;have TO:gI (UA 0 s js):=qyA K.start.1 hjk;have TW:ThrW (UA 0 s js):=gL _;have htp:(UA 0 s js).past.length=0:=by unfold UA;rw[(yC _).past];rfl
    have HT:HS h h9 (ThdC tb (UA 0 s js)::MemC p S M0::qy 23 1 M0.w.length wv (M0.w.map (.int .u64))::JobsC js lv::qg b1 (yW s)::[]):=H9.sub (.cons e_2 (.cons e_1 (.cons .here (.cons .here (.cons .here .refl)))));generalize hF:Xo 9000 0 (UA 0 s js) M0=F;have BJ:ByJ S js F 0 M0.w:=⟨9000,0,_,_,by omega,hF,T0,rfl⟩;clear T0 H H7 H8 H9
    refine jT [] (λz g'=>z=(wv,.ptr tb 0,lv,.ptr p 0,.ptr b1 0,())∧gI F.1∧(F.2.w.length:Int)=S.words∧
      HS h g' (ThdC tb F.1::MemC p S F.2::qy 23 1 M0.w.length wv (M0.w.map (.int .u64))::JobsC js lv::qg b1 (yW s)::[])) (λj hj=>?_) ?_
    · refine jN (fun c q h' => ∃ (i : Nat) (t : jE) (M : jL), q = (.int .i64 (i : Int), wv, .ptr tb 0, lv, .ptr p 0, .ptr b1 0, ()) ∧ i ≤ 9000 ∧ c = 9000 - i ∧ Xo (9000 - i) i t M = F ∧ gI t ∧ ThrW t ∧ qQ0 M ∧ (M.w.length : Int) = S.words ∧ t.past.length ≤ i ∧ 0 ≤ M.cnt ∧ M.cnt ≤ i + 1 ∧
          HS h h' (ThdC tb t::MemC p S M::qy 23 1 M0.w.length wv (M0.w.map (.int .u64))::JobsC js lv::qg b1 (yW s)::[]))
        ?_ (m:=9000) od ⟨0,_,_,rfl,by omega,rfl,hF,TO,TW,hM0,Q0.w,by omega,hct.1,by omega,HT⟩
      clear HT hF;rintro c ih q g1 hih ⟨i,t,M,rfl,hi,rfl,hr,TO,TW,MR,hMw,hpa,hc0,hc1,H⟩;dsimp only;by_cases hlt:i<9000
      · refine jd omQ (qZ ?_);refine xS od (qjR omQ TO H) ?_;rintro _ g2 ⟨rfl,H2⟩;refine qA rfl (qA rfl ?_);refine qO H2 rfl λb2 g3 H3=>?_;refine qe H3 (b:=b2) .here rfl (by show 0+10≤10;omega) rfl λg4 H4=>?_;cases hn:yt t with
        |none=>refine jV (qZ ?_);rw[G7 hn]at hr;subst hr;exact hj _ _ ⟨rfl,TO,hMw,H4.drop⟩
        |some o=>refine jX (qJ ?_);rw[hn]at H4;refine qD H4 (b:=b2) (off:=0) .here rfl omQ (l:=yL o) rfl ?_;have ho:=qK3 TO TW hn;have rr:=qXp MR ho;have cc:=Md (M:=M) (o:=o);refine xS od (qzF (o:=o) omQ ⟨hc0,by omega⟩ (H4.sel (P:=MemC p S M) e_2)) ?_;rintro _ g5 ⟨rfl,H5⟩;refine qc omQ ?_;refine xS od (qzA (an:=(jm M o).1) (draw:=0) omQ TO rr.1 omQ omQ (H5.sel (P:=ThdC tb t) e_2)) λ_ g6 H6=>?_;refine qc omQ ?_;have gp:=(Nk t (jm M o).1 0 ((i:Int)+1)).past;refine hih (9000-(i+1)) _ _ omQ ⟨i+1,xH t (jm M o).1 0 ((i:Int)+1),(jm M o).2,rfl,by omega,rfl,?_,qGR TO rr.1 omQ,qGE TO TW rr.1 _ _,rr.2,by rw[qYM];exact hMw,by omega,by omega,by omega,H6.sub (.cons .here (.cons .here (.drop .refl)))⟩;rw[← hr,show 9000-i=(9000-(i+1))+1 by omega];show _=(match yt t with |none=>(t,M) |some o=>Xo (9000-(i+1)) (i+1) (xH t (jm M o).1 0 ((i:Int)+1)) (jm M o).2);rw[hn]
      · obtain rfl:i=9000:=by omega
        refine jH omQ (qJ ?_);rw[Nat.sub_self]at hr;have hr:(t,M)=F:=hr;subst hr;exact hj _ _ ⟨rfl,TO,hMw,H⟩
    · clear HT TO TW hM0 hF;rintro _ g1 ⟨rfl,TO,hMw,H⟩;dsimp only;have hrl:F.1.results.length≤js.length:=by
        have h1:=TO.res;have h2:=TO.b.job;have h3:=BJ.w.2.2.2;rw[h3]at h2;by_cases h6:F.1.state=6
        · rw[iQ (λh=>h.1 h6)]at h1;omega
        · have h4:=(TO.c h6).lt;rw[h3]at h4
          split at h1<;>omega
      refine xS od (O8 omQ omQ H) λrv g2 H2=>?_;obtain⟨ws,hwl,H3⟩:=JobsC.E (H2.sel (P:=JobsC js lv) e_4);refine qi H3 (n:=F.1.results.length) (v:=rv) e_2 ?_;refine qi H3 (n:=js.length) (v:=lv) .here ?_;refine yV omQ (qJ ?_)
      refine jN (fun c q h' => ∃ (i : Nat) (cv : AV) (zs : List Int) (e : TypeId), ((shut cv = true ∧ Vb cv) ∨ e = 23) ∧ q = (.int .i64 (i : Int), rv, cv, .ptr tb 0, lv, .ptr p 0, .ptr b1 0, ()) ∧ i ≤ js.length ∧ c = js.length - i ∧ ByJ S js F i zs ∧
          HS h h' (qy 37 1 js.length lv ws:: .all (List.zipWith zb ws js)::qy e 1 zs.length cv (zs.map (.int .u64))::qy 65 4 F.1.results.length rv (F.1.results.flatMap JC)::ThdC tb F.1::MemC p S F.2::qg b1 (yW s)::[]))
        ?_ (m:=js.length) (by show _<1000000000;omega) ⟨0,wv,M0.w,23,.inr rfl,rfl,Nat.zero_le _,rfl,BJ,H3.sub (.cons .here (.cons .here (.cons e_3 (.cons .here (.cons .here (.cons .here (.cons .here .refl)))))))⟩
      clear H H2 H3 BJ;rintro c ih q g3 hih ⟨i,cv,zs,e,hcu,rfl,hi,rfl,BJ,H⟩;dsimp only;refine qi H (n:=js.length) (v:=lv) .here ?_;obtain⟨hz,hzl,hz0,_⟩:=BJ.w;have hOw:=O.words;by_cases hlt:i<js.length
      · refine jd omQ (qZ ?_);refine qV ?_
        try dsimp only
        have hil:i<ws.length:=by omega
        have hje:js[i]? =some js[i]:=iW hlt;have hzp:(List.zipWith zb ws js)[i]? =some (zb ws[i] js[i]):=by rw[List.getElem?_zipWith,iW hil,hje]
        have hchk:=hjk _ (List.getElem_mem hlt);refine zU (l:=[ws[i]]) (H.sl .here) hlt omQ (by rw[Nat.mul_one,List.drop_eq_getElem_cons hil];rfl) ?_;refine qQ (qK H (b:=b1) e_6 rfl ?_);refine qQ (qK H (b:=b1) e_6 rfl ?_);have HB:=(H.sel (P:=.all (List.zipWith zb ws js)) e_1).allE;have hcut:Z2 h (List.zipWith zb ws js++(qy 37 1 js.length lv ws::qy e 1 zs.length cv (zs.map (.int .u64))::qy 65 4 F.1.results.length rv (F.1.results.flatMap JC)::ThdC tb F.1::MemC p S F.2::qg b1 (yW s)::[])) cv zs:=by
          rcases hcu with⟨h1,h2⟩ |rfl
          · exact ZH (HB.rd (UO e_1)) h1 h2
          · exact qk6 (UO e_1) omQ
        refine xS od (qkP (l:=js[i]) (zs:=zs) (fuel:=s.fuel) (m:=s.writes) omQ HB (HB.rd (e:=70) (sz:=5) (n:=js[i].length) (Ko hzp)) (HB.rd (UO e_1)) hcut hz omQ hchk.1 hchk.2) ?_;rintro _ g4 ⟨cv2,fv,av,e1,e2,e3,rfl,hsr,H4⟩;generalize hV:yM js[i] (zv s.fuel) zs s.writes=V at*;have st3:=BJ.step O hSS2 hST (by have:=K.words;omega) (by have:=K.start;omega) hjk hlt hj5 (V:=V) (by rw[hSf,hSwr];exact hV);have H5:=qV8 H4;clear H H4 HB;have w1:=shp H5 e_1;have w2:=shp H5 e_2;have w3:=shp H5 e_3;refine qO H5 rfl λb3 g5 H6=>?_;refine qe H6 (b:=b3) .here rfl (by show 0+6≤6;omega) (qgd w1 w2 w3) λg6 H7=>?_
        have H7:HS h g6 (qg b3 (qJC V cv2 fv av):: .all (List.zipWith zb ws js)::qy e1 2 (zf V).length cv2 ((zf V).flatMap jA)::qy e2 1 (ju V).length fv ((ju V).map (.int .i64))::qy e3 1 (jI zs (zf V)).length av ((jI zs (zf V)).map (.int .u64))::
          qy 37 1 js.length lv ws::qy e 1 zs.length cv (zs.map (.int .u64))::qy 65 4 F.1.results.length rv (F.1.results.flatMap JC)::ThdC tb F.1::MemC p S F.2::qg b1 (yW s)::[]):=H7
        clear H5 H6;refine qQ (qK H7 (b:=b3) .here (x:=.int .i64 V.kind) rfl ?_);by_cases k3:V.kind=3
        · obtain⟨h4,hri⟩:=st3.1 k3;refine qx k3 (qZ ?_);obtain⟨q,HE⟩:=ThdC.E (H7.sel (P:=ThdC tb F.1) e_8);refine xS od (MI omQ HE .here) ?_;rintro _ _ ⟨rfl,rfl⟩;refine qx h4 ?_;refine qV ?_
          try dsimp only
          refine qa (qi H7 (n:=F.1.results.length) (v:=rv) e_7 ?_);refine qx omQ ?_;exact qF (qk (qj rfl))
        · obtain⟨⟨pp,z,rr,hpl,hres⟩,hnx⟩:=st3.2.1 k3;have hlr:F.1.results.length=i+1+rr.length:=by rw[hres,List.length_append,List.length_cons,hpl];omega
          refine qX k3 (qJ ?_);refine qi H7 (n:=F.1.results.length) (v:=rv) e_7 ?_;refine zN omQ ?_;have hrow:∀f:Nat,f<4→(F.1.results.flatMap JC)[i*4+f]? =(JC ⟨V.kind,V.err,JL V,z⟩)[f]?:=λf hf=>by
            have e0:∀l:List KZ,(l.flatMap JC).length=l.length*4:=λl=>by
              induction l with
              |nil=>rfl
              |cons x r ih=>rw[List.flatMap_cons,List.length_append,ih];show 4+_=_;rw[List.length_cons];omega
            rw[hres,List.flatMap_append,List.getElem?_append_right (by rw[e0];omega),e0,hpl,show i*4+f-i*4=f by omega,List.flatMap_cons,List.getElem?_append_left (by show f<4;omega)]
          refine qV ?_
          try dsimp only
          refine qd (yT (H7.sl (v:=rv) (xs:=F.1.results.flatMap JC) e_7) omQ omQ (x:=.int .i64 V.kind) (hrow 0 omQ) ?_);refine qQ (qK H7 (b:=b3) .here (x:=.int .i64 V.kind) rfl ?_);refine jY rfl ?_
          try dsimp only
          refine qI (qV ?_)
          try dsimp only
          refine qd (yT (H7.sl (v:=rv) (xs:=F.1.results.flatMap JC) e_7) omQ omQ (x:=.int .i64 V.err) (hrow 1 omQ) ?_);refine qQ (qK H7 (b:=b3) .here (x:=.int .i64 V.err) rfl ?_);refine jY rfl ?_
          try dsimp only
          refine qI (qV ?_)
          try dsimp only
          refine qd (yT (H7.sl (v:=rv) (xs:=F.1.results.flatMap JC) e_7) omQ omQ (x:=.str (JL V)) (hrow 2 omQ) ?_);refine qQ (qK H7 (b:=b3) .here (x:=.str (JL V)) rfl ?_);refine qjm (qI (qJ ?_));have w1z:(jI zs (zf V)).length=zs.length:=by rw[qQ7];unfold szZ;omega
          have hzz:∀z∈jI zs (zf V),0≤z∧z<18446744073709551616:=st3.2.2.1;have hfl:(ju V).length<100000:=by have:=st3.2.2.2;omega
          refine qQ (qK H7 (b:=b3) .here (x:=av) rfl ?_);refine qQ (qK H7 (b:=b3) .here (x:=fv) rfl ?_);refine qQ (qK H7 (b:=b1) e_10 rfl ?_);refine xS od (qW4 (zs:=jI zs (zf V)) (bs:=ju V) (m:=s.writes) omQ H7 (H7.rd e_4) (ZH (H7.rd e_4) hsr.1 hsr.2) (H7.rd e_3) hzz omQ hfl) ?_;rintro _ g7 ⟨cv3,wv3,e4,e5,rfl,hsr2,H8⟩;have hAf:Kq S js[i] zs=jI (jI zs (zf V)) (jJ (yQ (jM (jI zs (zf V)) s.writes) (ju V)).2.lv):=by unfold Kq;rw[hSf,hSwr,hV]
          rw[hSwr,hAf]at hnx;have hne:(yQ (jM (jI zs (zf V)) s.writes) (ju V)).1≠0→0<(ju V).length:=λh=>by
            cases hf:ju V with
            |nil=>rw[hf]at h;exact absurd rfl h
            |cons x r=>simp
          generalize yQ (jM (jI zs (zf V)) s.writes) (ju V)=q at*;have o1:=GQ (shp H8 .here);have o2:=GQ (shp H8 e_1);refine qO H8 rfl λb4 g8 H9=>?_;refine qe H9 (b:=b4) .here rfl (by show 0+6≤6;omega) (by simp only[qJo,qm,AV.cells,List.all_cons,o1.2,o2.2];rfl) λg9 HA=>?_;by_cases q0:q.1=0
          · have eA:qJo q cv3 wv3=.agg [.int .i64 2,.int .i64 q.1,.str [],cv3,.nils,wv3]:=by unfold qJo;rw[iJ q0]
            rw[eA]at HA;refine qQ (qK HA (b:=b4) .here (x:=.int .i64 2) rfl ?_);refine qx rfl (qZ ?_);refine qQ (qK HA (b:=b4) .here (x:=wv3) rfl ?_);refine qc omQ ?_;have eW:VA (jI zs (zf V)) q=jI (jI zs (zf V)) (jJ q.2.lv):=by unfold VA NV;rw[iJ q0]
            refine hih (js.length-(i+1)) _ _ omQ ⟨i+1,wv3,VA (jI zs (zf V)) q,e5,.inl hsr2,rfl,by omega,rfl,by rw[eW];exact hnx q0,?_⟩;exact HA.sub (.cons e_8 (.cons e_4 (.cons e_2 (.cons e_7 (.cons e_7 (.cons e_7 (.cons e_7 (.drop (.drop (.drop (.drop (.drop (.drop (.drop .refl))))))))))))))
          · have eA:qJo q cv3 wv3=.agg [.int .i64 4,.int .i64 q.1,.str [],cv3,.nils,wv3]:=by unfold qJo;rw[iQ q0]
            rw[eA]at HA;refine qQ (qK HA (b:=b4) .here (x:=.int .i64 4) rfl ?_);refine qX od (qJ ?_);refine qQ (qK HA (b:=b3) e_3 (x:=fv) rfl ?_);have hfn:=hne q0;refine qi HA (n:=(ju V).length) (v:=fv) e_6 ?_;exact yB omQ (qZ (qk (qj rfl)))
      · obtain rfl:i=js.length:=by omega
        refine jH omQ (qJ ?_);obtain⟨hf6,hfw⟩:=BJ.done;obtain⟨q,HE⟩:=ThdC.E (H.sel (P:=ThdC tb F.1) e_4);refine xS od (MI omQ HE .here) ?_;rintro _ _ ⟨rfl,rfl⟩;refine qx hf6 ?_;refine qV ?_
        try dsimp only
        refine qa (xS od (NX omQ omQ (H.sel (P:=MemC p S F.2) e_5)) ?_);intro nv g4 H4;refine xS od (qWI omQ (H4.sl .here) (H4.sl (v:=cv) (xs:=zs.map (.int .u64)) e_4) omQ) ?_;rintro _ _ ⟨rfl,rfl⟩;rw[iG hfw];exact qF (qk (qj rfl))
theorem qxB {α β:Type} {P:α→β→Prop}:∀{xs:List α},(∀x∈xs,∃k,P x k)→∃ks:List β,xs.length=ks.length∧(∀(i:Nat) (x:α) (k:β),xs[i]? =some x→ks[i]? =some k→P x k)∧∀k∈ks,∃x∈xs,P x k:=by
 intro xs
 induction xs with
 |nil=>intro _;exact⟨[],rfl,λi x k h=>(by cases h),λk h=>(by cases h)⟩
 |cons y r ih=>
  intro H;obtain⟨k,hk⟩:=H y (iK ..);obtain⟨ks,h1,h2,h3⟩:=ih λx hx=>H x (iX _ hx);refine⟨k::ks,by simp[h1],λi x z hx hz=>?_,λz hz=>?_⟩
  ·cases i with
   |zero=>cases hx;cases hz;exact hk
   |succ i=>exact h2 i x z hx hz
  ·rcases List.mem_cons.1 hz with rfl |hz
   ·exact⟨y,iK ..,hk⟩
   ·obtain⟨x,hx,hp⟩:=h3 z hz;exact⟨x,iX _ hx,hp⟩
theorem qWP {h:AH} {d:Nat} {v:AV} (H:WT Tryz.prog h (d+4) 22 [v]):∃(vs:List AV) (kss:List (List qR)),vs.length=kss.length∧Sl (λb=>b<h.nx) h 1 vs.length v vs∧
  (∀(i:Nat) (x:AV) (ks:List qR),vs[i]? =some x→kss[i]? =some ks→Sl (λb=>b<h.nx) h 5 ks.length x (ks.flatMap jK))∧∀ks∈kss,∀x∈ks,0≤x.2.2.2.2∧x.2.2.2.2<18446744073709551616:=by
 obtain⟨q,xs,S1,_,H1⟩:=Oe (sz:=1) Tryz.underlying22 (by kernel_rfl) omQ H;have hl:=S1.len;obtain rfl:q=xs.length:=by omega
 obtain⟨kss,h1,h2,h3⟩:=qxB (xs:=xs) (P:=λ(x:AV) (ks:List qR)=>Sl (λb=>b<h.nx) h 5 ks.length x (ks.flatMap jK)∧∀y∈ks,0≤y.2.2.2.2∧y.2.2.2.2<18446744073709551616) λx hx=>by
  obtain⟨i,hi,rfl⟩:=List.mem_iff_getElem.1 hx;have:=H1 i omQ;rw[Nat.mul_one,List.drop_eq_getElem_cons hi]at this;obtain⟨ks,a,b⟩:=qvt (show WT Tryz.prog h (d+3) 39 [xs[i]]from this);exact⟨ks,a,b⟩
 exact⟨xs,kss,h1,S1,λi x ks hx hk=>(h2 i x ks hx hk).1,λks hk=>(h3 ks hk).elim λ_ z=>z.2.2⟩
theorem told {h:AH} {l:List AV} (H:WTs Tryz.prog h 8 Tryz.f3.params.toList l):wp ((tD2 S3) (wO 4 (callT tab qz 60)) l h) λv _=>v=.bool true:=by
 have e:Tryz.f3.params.toList=[22,25]:=by kernel_rfl
 rw[e]at H;obtain⟨a0,a1,rfl,H0,H1⟩:=WTs2 H;simp only[WTV,Tryz.underlying3,Tryz.underlying4,Tryz.underlying22,Tryz.underlying23,Tryz.underlying25,Tryz.underlying39,Tryz.underlying90]at H0 H1;obtain⟨vs,kss,hal,S0,SI,hN⟩:=qWP H0;obtain⟨xs,rfl,H1⟩:=H1;unfold WT at H1;simp only[Tryz.underlying25]at H1;obtain⟨g1,g2⟩:=H1;rw[show Tryz.prog.cellsOf 25=7 by kernel_rfl]at g1
 match xs,g1 with
 |[x0,x1,x2,x3,x4,x5,x6],_=>have f0:=g2 _ (iK ..);have f1:=g2 _ (iX _ (iK ..));have f2:=g2 _ (iX _ (iX _ (iK ..)));have f3:=g2 _ (iX _ (iX _ (iX _ (iK ..))));have f4:=g2 _ (iX _ (iX _ (iX _ (iX _ (iK ..)))));have f5:=g2 _ (iX _ (iX _ (iX _ (iX _ (iX _ (iK ..))))));have f6:=g2 _ (iX _ (iX _ (iX _ (iX _ (iX _ (iX _ (iK ..)))))));rw[show Tryz.prog.cellsOf 3=1 by kernel_rfl]at f0 f1 f2 f3 f4 f5;rw[show Tryz.prog.cellsOf 23=1 by kernel_rfl]at f6;simp only[List.drop_succ_cons,List.drop_zero,List.take_succ_cons,List.take_zero]at f0 f1 f2 f3 f4 f5 f6;unfold WT at f0 f1 f2 f3 f4 f5 f6;simp only[Tryz.underlying3]at f0 f1 f2 f3 f4 f5;simp only[Tryz.underlying23]at f6;obtain⟨y0,e0,_⟩:=f0;obtain⟨y1,e1,_⟩:=f1;obtain⟨y2,e2,_⟩:=f2;obtain⟨y3,e3,_⟩:=f3;obtain⟨y4,e4,_⟩:=f4;obtain⟨y5,e5,_⟩:=f5;obtain⟨y6,e6,e6'⟩:=f6;cases e0;cases e1;cases e2;cases e3;cases e4;cases e5;cases e6;exact law omQ hal S0 SI hN ⟨e6'.1,Int.lt_of_le_of_lt e6'.2 od⟩
end threadAlone
end Go.Proofs.YtnalffoigcmnnabGreatDoor
