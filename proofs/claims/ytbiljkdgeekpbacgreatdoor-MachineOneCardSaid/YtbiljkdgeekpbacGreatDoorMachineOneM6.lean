/- Lemmas for 'quietus/quietuslaw28.MachineOne': A new thread;its results: by the program;The machine: by the program: its form, what it tells;The machine: by the program: a pick;A list of lists of ... No condition. -/
import Derived.Test.YtbiljkdgeekpbacGreatDoorMachineOneM5
import Derived.Test.YtbiljkdgeekpbacGreatDoorMachineOneM1
import Derived.Test.YtbiljkdgeekpbacGreatDoorMachineOneM2
import Derived.Test.YtbiljkdgeekpbacGreatDoorMachineOneM4
namespace Go.Proofs.YtbiljkdgeekpbacGreatDoor
open Go Go.Ae
set_option maxRecDepth 100000
section
variable {g h:AH} {L R:List SP}
theorem qkO {D:Nat→Prop} {sz n hi b cp cp':Nat} {o:Bool} {xs:List AV} (S:Sl D h sz n (.slice b 0 n cp o) xs) (hle:hi≤n):Sl D h sz hi (.slice b 0 hi cp' o) (xs.take (hi*sz)):=by
 have hm:=Nat.mul_le_mul_right sz hle;cases S with
 |mk hd hb hr hl ha=>exact .mk hd hb hr (by rw[List.length_take,hl];omega) λi hi'=>by rw[ha i omQ,List.getElem?_take_of_lt hi']
theorem qK2 {hi sz n:Nat} {e:TypeId} {k:IntKind} {v:AV} {xs:List AV} {K:AV→Go.Ae.R} {Q:AV→AH→Prop} (H:HS g h L) (s:Sel L (qy e sz n v xs) R) (hsz:0<sz) (hle:hi≤n)
  (w:∀v',Rd g L sz hi v' (xs.take (hi*sz))→wp (K v') Q):wp (xY h e sz v none (some (.int k (hi:Int))) K) Q:=by
 obtain⟨D,hl,⟨rfl,hn,hD⟩ |⟨b,cp,o,zs,rfl,hD,A,q1,q2,q3⟩⟩:=H.p s
 ·subst hn;obtain rfl:hi=0:=by omega
  exact w .nils λ_ _=>by rw[Nat.zero_mul,List.take_zero];exact .nils
 ·cases o with
  |false=>
   rw[iQ osQ]at q3;refine Un (hi:=hi) (lo:=0) (xD omQ) rfl ?_;have:=w (.slice b 0 hi cp false) λh' H'=>qkO (H'.sl s) hle;have e0:(bif Nat.beq cp 0 then 0 else 0+0*sz)=0:=by cases Nat.beq cp 0<;>simp
   rw[e0];exact this
  |true=>rw[iJ rfl]at q3;subst q3;refine Ua (i0:=0) (hi:=hi) (lo:=0) A hsz omQ omQ (xD hle) rfl (.inr rfl) ?_;have:=w (.slice b 0 hi 0 true) λh' H'=>qkO (H'.sl s) hle;simpa using this
theorem qQs {n m:Nat} {e:TypeId} {v:AV} {xs:List AV} {R2:List SP} (hn:1≤n) (H:HS g h L) (s:Sel L (qy e 5 m v xs) R2) (ha:qp xs=true) (hm:m≤1000000) :
  t_w n 66 [v] h λr h'=>HS g h' (qy 58 5 m r xs::L):=by
 refine t_e1 rfl omQ λk hk=>?_;unfold S66;try simp only[iZ]
 refine JS H s (λh1 h2=>?_) (qJ ?_)
 ·subst h1 h2;obtain rfl:xs=[]:=iA (by simpa using H.sl_len s);exact qZ (qj H.nils)
 ·refine qh (l:=[]) H rfl rfl rfl rfl λv2 h2 H2=>?_;refine jf H2 (H2.sl (.there s)) omQ omQ ha λv3 h3 H3=>?_;rw[Nat.zero_add,List.nil_append]at H3;exact qj H3
theorem qJH {n m:Nat} {e:TypeId} {v:AV} {xs:List AV} {R2:List SP} (hn:1≤n) (H:HS g h L) (s:Sel L (qy e 4 m v xs) R2) (ha:qp xs=true) (hm:m≤1000000) :
  t_w n 79 [v] h λr h'=>HS g h' (qy 53 4 m r xs::L):=by
 refine t_e1 rfl omQ λk hk=>?_;unfold S79;try simp only[iZ]
 refine JS H s (λh1 h2=>?_) (qJ ?_)
 ·subst h1 h2;obtain rfl:xs=[]:=iA (by simpa using H.sl_len s);exact qZ (qj H.nils)
 ·refine qh (l:=[]) H rfl rfl rfl rfl λv2 h2 H2=>?_;refine jf H2 (H2.sl (.there s)) omQ omQ ha λv3 h3 H3=>?_;rw[Nat.zero_add,List.nil_append]at H3;exact qj H3
section
variable {n b:Nat} {t:qo} {q:MS}
theorem Z6 (hn:2≤n) (hr:t.results.length≤1000000) (H:HS g h (ThdC b t::R)):t_w n 39 [.ptr b 0] h λr h'=>HS g h' (qy 53 4 t.results.length r (t.results.flatMap Q9)::ThdC b t::R):=by
 refine t_e1 rfl omQ λk hk=>?_;unfold S39;try simp only[iZ]
 obtain⟨q,H0⟩:=ThdC.E H;refine qW (qQ (qX H0 .here rfl ?_));refine qG (qJH omQ H0 e_5 (XT (λ_=>rfl) _) hr) λv h1 H1=>qj<|HS.unsel e_1 (ThdC.I (H1.pk [1,1,1,1,1,1,1,1,0] 0))
theorem qZ9 {me:Int} {s:zv} {js:List (List qR)} {v:AV} (hn:13≤n) (hme:-1000000≤me∧me≤1000000) (hs:0≤s.start) (hj:∀l∈js,(zb l).2=0∧Quiet l) (hjl:js.length≤1000000) (H:HS g h (JobsC js v::R)) :
  t_w n 31 [.int .i64 me,.agg (xB s),v] h λr h'=>∃b,r=.ptr b 0∧HS g h' (ThdC b (Xq me s js)::JobsC js v::R):=by
 refine t_e3 rfl omQ λk hk=>?_;unfold S31;try simp only[iZ]
 obtain⟨vs,hvl,H⟩:=JobsC.E H;refine qP H rfl λb0 h1 H1=>?_;refine qF H1 .here rfl omQ rfl<|qG (Vn omQ H1) ?_;rintro _ h2 ⟨rfl,H2⟩;have SO:=yi hs;refine qf H2 .here rfl (by simp) rfl λh3 H3=>?_;unfold Xq;generalize jq s=S at*;have h4:=SO.threads;refine qV ?_
 try dsimp only
 refine qQ (qn (qX H3 .here rfl ?_));refine zJ omQ (ju (zD ?_));refine qF H3 .here rfl omQ rfl<|qG (qWM omQ H3) ?_;rintro _ h5 ⟨lb,rfl,H5⟩;have et:max ((0:Nat):Int) (min me (S.threads-((1:Nat):Int)))=max 0 (min me (S.threads-1)):=rfl;rw[et]
 let T:List (List qR)→qo:=λjs=>⟨max 0 (min me (S.threads-1)),S,js,-1,0,false,[],0,0,none,0,false,[],[],[],[],0,0,false,0⟩
 refine qL rfl<|qP H5 rfl λb h6 H6=>?_;refine zn H3 .here rfl H5 e_1 rfl rfl omQ (HS.lt H3 .here)<|qd H3 .here rfl H5 e_1 rfl (HS.lt H3 .here) ?_
 try dsimp only
 have N1:=(H6.nils (e:=201) (sz:=2));have N2:=HS.purI (φ:=AV.nilp=.nilp) rfl N1;have N3:=PastC.I (r:=[]) (v:=.nils) (zs:=[]) rfl ((HS.allI (A:=[]) N2).nils);have N4:=N3.nils (e:=53) (sz:=4);have N5:=N4.nils (e:=22) (sz:=1);have N6:=JobsC.I (js:=[]) (v:=.nils) (vs:=[]) rfl ((HS.allI (A:=[]) N5).nils);have N7:HS g h6 (GG b (T []) ⟨.nils,.nils,.nilp,.nils,.nils,lb,.nils⟩ (qy 51 1 js.length v vs:: .all (List.zipWith zf vs js)::R)) :=
  N6.pk [6,0,4,3,2,1,1,0] 1
 have N8:=ThdC.I N7;refine qm N8 e_1<|ju ?_;rw[show min ((js.length:Nat):Int) ((6:Nat):Int)=((min js.length 6:Nat):Int) by omega];have hm6:min js.length 6≤js.length∧min js.length 6≤6:=by omega
 have etk:js.take (min js.length 6)=js.take 6:=by
  rcases Nat.lt_or_ge js.length 6 with h |h
  ·rw[Nat.min_eq_left omQ,List.take_length,List.take_of_length_le omQ]
  ·rw[Nat.min_eq_right h]
 rw[← etk];generalize min js.length 6=m at*;refine qK2 (hi:=m) N8.drop .here omQ hm6.1 λv' SV=>?_;refine zu (SV.more.sl N8)<|jM (λc s h'=>∃i:Nat,s=(.int .i64 (i:Int),.int .i64 (m:Int),v',.ptr b 0,())∧i≤m∧c=m-i∧HS g h' (ThdC b (T (js.take i))::qy 51 1 js.length v vs:: .all (List.zipWith zf vs js)::R))
  ?_ omQ ⟨0,rfl,Nat.zero_le _,rfl,N8⟩
 rintro c ih s h7 hih ⟨i,rfl,hi,rfl,H⟩;by_cases hlt:i<m
 ·have hil:i<js.length:=by omega
  have hiv:i<vs.length:=by omega
  have hje:js[i]? =some js[i]:=iW hil;have hz:(List.zipWith zf vs js)[i]? =some (zf vs[i] js[i]):=by rw[List.getElem?_zipWith,iW hiv,hje]
  have hchk:=hj _ (List.getElem_mem hil);have hle:=(gu hchk.1).le;have HB0:=(H.sel (P:=.all (List.zipWith zf vs js)) e_2).allE;have o0:One vs[i]:=HB0.one (G3 hz);refine jT omQ (qZ ?_);refine zd (l:=[vs[i]]) (SV.more.sl H) hlt omQ (by rw[Nat.mul_one,Nat.mul_one,List.drop_eq_getElem_cons (by rw[List.length_take];omega)];simp)<|qP H rfl λb2 h8 H8=>?_;refine qf H8 .here rfl (by simp) (by show qp [vs[i]]=true;simp[qp,o0.2]) λh9 H9=>?_;refine qV ?_
  try dsimp only
  obtain⟨q,HA⟩:=ThdC.E (H9.sel e_1);refine qW (qQ (qX HA .here rfl ?_));refine qQ (qX HA e_8 rfl ?_);have HB:=(HA.sel (P:=.all (List.zipWith zf vs js)) e_10).allE;refine qG (qQs omQ HB (G3 hz) (XT (λ_=>rfl) _) omQ) λpv hC HC=>?_;have HD:HS g hC (.all (List.zipWith zf vs js)::zf pv js[i]::qw b (ym (T (js.take i)) q)::_):=HS.allI (HS.unsel qVN HC);have op:=HD.one (e:=58) (sz:=5) (n:=js[i].length) e_1;refine qL (by simp only[yM,op.1];rfl)<|qh HD rfl rfl (by simp only[vE,yM,AV.cells,op.1];rfl) (by simp[qp,op.2]) λv2 hE HE=>?_;obtain⟨ws,hwl,HF⟩:=JobsC.E (HE.sel (P:=JobsC (js.take i) q.jv) e_4);have hti:(js.take i).length=i:=by rw[List.length_take];omega
  refine jf HF (HF.sl e_2) omQ omQ (by simp[qp,op.2]) λv3 hG HG=>?_;have o3:=HG.one .here;refine qW (qQ ?_);refine qA HG e_5 o3 (by simp[ym]) λhH HH=>?_;refine qd HA .here rfl HD e_2 rfl (HS.lt HA .here)<|qc omQ<|hih (m-(i+1)) _ _ omQ ⟨i+1,rfl,by omega,rfl,?_⟩;have et:js.take (i+1)=js.take i++[js[i]]:=by rw[List.take_add_one,hje];rfl
  have ez:List.zipWith zf (ws++[pv]) (js.take i++[js[i]])=List.zipWith zf ws (js.take i)++[zf pv js[i]]:=by rw[List.zipWith_append hwl];rfl
  have HI:=KX (A:=List.zipWith zf ws (js.take i)) (B:=[zf pv js[i]]) (HH.sub (.cons e_2 (.cons e_4 .refl)));have HJ:=JobsC.I (v:=v3) (js:=js.take i++[js[i]]) (vs:=ws++[pv]) (by rw[List.length_append,List.length_append,hwl];rfl) (by rw[ez,List.length_append];exact HI.pk [2,0] 0);rw[et];exact ThdC.I (q:={ q with jv:=v3 }) (HJ.pk [1,0,2,2,2,2,2,2,3,1] 2)
 ·obtain rfl:i=m:=by omega
  refine jD omQ (qJ ?_);refine qG (km omQ ⟨SO,by show 0≤max 0 (min me (S.threads-1))∧max 0 (min me (S.threads-1))<S.threads;omega,λl hl=>hj l (List.mem_of_mem_take hl),by rw[List.length_take];omega,by show(0:Int)≤ -1+1∧(-1:Int)+1≤_;omega,Nat.le_refl _,Nat.zero_le _,by show(0:Int)≤0∧(0:Int)≤(([]:List Uw).length:Int);decide,by show(0:Int)≤0∧(0:Int)≤0;decide,λ_=>rfl⟩ H) λ_ h8 H8=>qk (qj ⟨b,rfl,?_⟩);exact HS.unsel e_1 (JobsC.I hvl (H8.pk [1,1] 0))
end
end
section
variable {g h:AH} {L R:List SP}
def XR (m:wb) (p:Nat) (tv:AV):List AV:=[.int .i64 m.s.words,.int .i64 m.s.stripes,.int .i64 m.s.wide,.int .i64 m.s.threads,.int .u64 m.s.start,.int .i64 m.s.spins,.int .i64 m.s.writes,.int .i64 m.s.fuel,.ptr p 0,tv,.int .i64 m.picks,
 .int .i64 m.last.kind,.int .i64 m.last.at_,.int .u64 m.last.old,.int .u64 m.last.word,.int .u64 m.last.was.1,.bool m.last.was.2.1,.int .i64 m.last.was.2.2,.int .u64 m.last.lk.1,.bool m.last.lk.2.1,.int .i64 m.last.lk.2.2,.bool m.did]
def gB (ps:List Nat) (ts:List qo):List SP:=List.zipWith ThdC ps ts
def Jp (ps:List Nat):List AV:=ps.map λa=>.ptr a 0
abbrev Mb (b:Nat) (m:wb) (p:Nat) (tv:AV) (ps:List Nat) (R:List SP):List SP :=
 qw b (XR m p tv)::qy 86 1 m.t.length tv (Jp ps)::MemC p m.s m.m:: .all (gB ps m.t)::R
def MacC (b:Nat) (m:wb):SP:=.ex λq:Nat×AV×List Nat=>.all (.pur (q.2.2.length=m.t.length)::Mb b m q.1 q.2.1 q.2.2 [])
theorem MacC.E {b:Nat} {m:wb} (H:HS g h (MacC b m::R)):∃p tv ps,ps.length=m.t.length∧HS g h (Mb b m p tv ps R):=by obtain⟨⟨p,tv,ps⟩,H⟩:=H.exE;obtain⟨h1,H⟩:=H.allE.purE;exact⟨p,tv,ps,h1,H⟩
theorem MacC.I {b p:Nat} {m:wb} {tv:AV} {ps:List Nat} (hl:ps.length=m.t.length) (H:HS g h (Mb b m p tv ps R)):HS g h (MacC b m::R) :=
 HS.exI (p,tv,ps) (HS.allI (HS.purI hl H))
theorem MacC.I1 {b p:Nat} {m:wb} {tv:AV} {ps:List Nat} {X:SP} (hl:ps.length=m.t.length) (H:HS g h (X::Mb b m p tv ps R)):HS g h (X::MacC b m::R) :=
 HS.unsel e_1 (MacC.I (tv:=tv) hl (H.pk [1,1,1,1,0] 0))
theorem GA {A:List SP} {P:SP} {i:Nat} (h:A[i]? =some P):Sel A P (A.eraseIdx i):=by
 have:=G3 (R:=[]) h
 rwa [List.append_nil,List.append_nil]at this
theorem qXF {ps:List Nat} {ts:List qo} {i a:Nat} {t:qo} (h1:ps[i]? =some a) (h2:ts[i]? =some t):(gB ps ts)[i]? =some (ThdC a t):=by unfold gB;rw[List.getElem?_zipWith,h1,h2]
theorem qvO {ps:List Nat} {ts:List qo} {i a:Nat} {u:qo} (h1:ps[i]? =some a):gB ps (ts.set i u)=(gB ps ts).set i (ThdC a u):=by
 unfold gB;apply List.ext_getElem?;intro k;rw[List.getElem?_zipWith,List.getElem?_set,List.getElem?_set,List.getElem?_zipWith];by_cases e:i=k
 ·subst e;rw[iJ rfl,iJ rfl,h1,List.length_zipWith];have hi:=(List.getElem?_eq_some_iff.1 h1).1;by_cases c:i<ts.length
  ·rw[iJ c,iJ omQ]
  ·rw[iQ c,iQ omQ]
 ·rw[iQ e,iQ e]
theorem U5 {ps:List Nat} {ts:List qo} {i a:Nat} {t:qo} (h1:ps[i]? =some a) (h2:ts[i]? =some t) (H:HS g h (.all (gB ps ts)::R)):HS g h (ThdC a t:: .all ((gB ps ts).eraseIdx i)::R) :=
 HS.allSel (GA (qXF h1 h2)) H
theorem Zz {ps:List Nat} {ts:List qo} {i a:Nat} {u:qo} (h1:ps[i]? =some a) (h2:i<ts.length) (H:HS g h (ThdC a u:: .all ((gB ps ts).eraseIdx i)::R)):HS g h (.all (gB ps (ts.set i u))::R):=by
 have e:(gB ps ts).eraseIdx i=(gB ps (ts.set i u)).eraseIdx i:=by rw[qvO h1,List.eraseIdx_set_eq]
 rw[e]at H;exact HS.allUn (GA (qXF h1 (List.getElem?_set_self h2))) H
theorem qzd {ps:List Nat} {ts:List qo} {i a:Nat} {t:qo} (h1:ps[i]? =some a) (h2:ts[i]? =some t) (H:HS g h (ThdC a t:: .all ((gB ps ts).eraseIdx i)::R)):HS g h (.all (gB ps ts)::R) :=
 HS.allUn (GA (qXF h1 h2)) H
theorem ZM {ps:List Nat} {i a:Nat} (h:ps[i]? =some a):(Jp ps)[i]? =some (.ptr a 0):=by unfold Jp;rw[List.getElem?_map,h];rfl
section
variable {n b p:Nat} {m:wb} {tv:AV} {ps:List Nat}
theorem qJ3 {i a:Nat} (hn:1≤n) (hl:ps.length=m.t.length) (h1:ps[i]? =some a) (hb:m.t.length≤1000) (H:HS g h (Mb b m p tv ps R)) :
  t_w n 33 [.ptr b 0,.int .i64 (i:Int)] h λr h'=>r=.ptr a 0∧h'=h:=by
 refine t_e2 rfl omQ λk hk=>?_;unfold S33;try simp only[iZ]
 have hi:=(List.getElem?_eq_some_iff.1 h1).1;refine jD omQ<|qV ?_
 try dsimp only
 refine qe (qW (qQ (qX H .here rfl ?_)));refine qm H e_1<|zF omQ ?_
 try dsimp only
 refine qE (qJ ?_);refine qW (qQ (qX H .here rfl ?_));refine jO (H.sl e_1) (ZM h1)<|qj ⟨rfl,rfl⟩
theorem K3 {i:Nat} {t:qo} (hn:2≤n) (ht:m.t[i]? =some t) (hb:m.t.length≤1000) (H:HS g h (MacC b m::R)) :
  t_w n 9 [.ptr b 0,.int .i64 (i:Int)] h λr h'=>r=.int .i64 t.state∧h'=h:=by
 refine t_e2 rfl omQ λk hk=>?_;unfold S9;try simp only[iZ]
 obtain⟨p,tv,ps,hl,H⟩:=MacC.E H;have hi:=(List.getElem?_eq_some_iff.1 ht).1;have h1:ps[i]? =some (ps[i]'omQ):=iW omQ;refine qG (qJ3 omQ hl h1 hb H) ?_;rintro _ _ ⟨rfl,rfl⟩;refine UM (qZ ?_);obtain⟨q,H2⟩:=ThdC.E (U5 h1 ht (H.sel e_3));refine qG (NF omQ H2 .here) ?_;rintro _ _ ⟨rfl,rfl⟩;exact qj ⟨rfl,rfl⟩
theorem MU {i:Nat} {t:qo} (hn:4≤n) (ht:m.t[i]? =some t) (hr:t.results.length≤1000000) (hb:m.t.length≤1000) (H:HS g h (MacC b m::R)) :
  t_w n 11 [.ptr b 0,.int .i64 (i:Int)] h λr h'=>HS g h' (qy 53 4 t.results.length r (t.results.flatMap Q9)::MacC b m::R):=by
 refine t_e2 rfl omQ λk hk=>?_;unfold S11;try simp only[iZ]
 obtain⟨p,tv,ps,hl,H⟩:=MacC.E H;have hi:=(List.getElem?_eq_some_iff.1 ht).1;have h1:ps[i]? =some (ps[i]'omQ):=iW omQ;refine qG (qJ3 omQ hl h1 hb H) ?_;rintro _ _ ⟨rfl,rfl⟩;refine UM (qZ ?_);have H2:=U5 h1 ht (H.sel (P:=.all (gB ps m.t)) e_3);refine qG (Z6 omQ hr H2) λv h3 H3=>?_;refine qj ?_;have H4:=qzd h1 ht (H3.sub (.cons e_1 (.cons e_1 .refl)));exact MacC.I1 hl (H4.pk [1,1,1,1,0] 0)
theorem K8 (hn:4≤n) (hw:m.m.w.length≤1000000) (H:HS g h (MacC b m::R)) :
  t_w n 8 [.ptr b 0] h λr h'=>HS g h' (qy 22 1 m.m.w.length r (m.m.w.map (.int .u64))::MacC b m::R):=by
 refine t_e1 rfl omQ λk hk=>?_;unfold S8;try simp only[iZ]
 obtain⟨p,tv,ps,hl,H⟩:=MacC.E H;refine qW (qQ (qX H .here rfl ?_));refine qG (qYM omQ hw (H.sel e_2)) λv h2 H2=>qj<|MacC.I1 hl (H2.pk [0,1,1,0] 0)
theorem qJs (hn:2≤n) (hb:m.t.length≤1000) (H:HS g h (MacC b m::R)):t_w n 15 [.ptr b 0] h λr h'=>r=.bool (JL m)∧h'=h:=by
 refine t_e1 rfl omQ λk hk=>?_;unfold S15;try simp only[iZ]
 obtain⟨p,tv,ps,hl,H⟩:=MacC.E H;refine qW (qQ (qX H .here rfl ?_));refine qm H e_1<|jM (λc s h'=>∃i:Nat,s=(.int .i64 (i:Int),.int .i64 (m.t.length:Int),tv,())∧i≤m.t.length∧c=m.t.length-i∧(m.t.take i).all (λt=>decide (t.state=6∨t.state=4))=true∧h'=h)
  ?_ omQ ⟨0,rfl,Nat.zero_le _,rfl,rfl,rfl⟩
 rintro c ih s _ hih ⟨i,rfl,hi,rfl,ha,rfl⟩;by_cases hlt:i<m.t.length
 ·refine jT omQ (qZ ?_);have ht:m.t[i]? =some m.t[i]:=iW hlt;have h1:ps[i]? =some (ps[i]'omQ):=iW omQ;refine jO (H.sl e_1) (ZM h1) ?_;obtain⟨q,H2⟩:=ThdC.E (U5 h1 ht (H.sel e_3));refine qG (NF omQ H2 .here) ?_;rintro _ _ ⟨rfl,rfl⟩;have no:¬(m.t[i].state=6∨m.t[i].state=4)→JL m=false:=λc=>by
   unfold JL;rw[Bool.eq_false_iff];intro hh;have:=List.all_eq_true.1 hh _ (List.getElem_mem hlt);exact c (of_decide_eq_true this)
  have on:(m.t[i].state=6∨m.t[i].state=4)→(m.t.take (i+1)).all (λt=>decide (t.state=6∨t.state=4))=true:=λc=>by
   rw[List.take_add_one,ht,List.all_append,ha];show(true&&(decide (m.t[i].state=6∨m.t[i].state=4)&&true))=true;rw[iG c];rfl
  by_cases c6:m.t[i].state=6
  ·refine q9 c6<|qV ?_
   try dsimp only
   refine qT (qE (qJ ?_));refine qc omQ<|hih (m.t.length-(i+1)) _ _ omQ ⟨i+1,rfl,by omega,rfl,on (.inl c6),rfl⟩
  ·refine jX c6<|qV ?_
   try dsimp only
   refine qa ?_;by_cases c4:m.t[i].state=4
   ·refine q9 c4 (qD (qJ ?_));refine qc omQ<|hih (m.t.length-(i+1)) _ _ omQ ⟨i+1,rfl,by omega,rfl,on (.inr c4),rfl⟩
   ·refine jX c4 (qD (qZ ?_));exact qk (qj ⟨by rw[no omQ],rfl⟩)
 ·obtain rfl:i=m.t.length:=by omega
  refine jD omQ (qJ ?_);rw[List.take_length]at ha;exact qk (qj ⟨by unfold JL;rw[ha],rfl⟩)
end
end
section
variable {g h:AH} {L R:List SP}
section
variable {n b p:Nat} {m:wb} {tv:AV} {ps:List Nat}
structure ko (ts:List qo) (i:Nat) (s v:Int) (k:Nat) (us:List qo):Prop where
  len:us.length=ts.length
  lo:∀j,j<k→us[j]? =(yO ts i s v)[j]?
  hi:∀j,k≤j→us[j]? =ts[j]?
theorem ko.done {ts us:List qo} {i:Nat} {s v:Int} (W:ko ts i s v ts.length us):us=yO ts i s v:=by
 have hw:(yO ts i s v).length=ts.length:=by unfold yO;simp
 apply List.ext_getElem?;intro j;by_cases c:j<ts.length
 ·exact W.lo j c
 ·have h1:=W.len;rw[List.getElem?_eq_none omQ,List.getElem?_eq_none omQ]
theorem ko.same {ts us:List qo} {i:Nat} {s v:Int} (W:ko ts i s v i us):ko ts i s v (i+1) us :=
 ⟨W.len,λj hj=>by
  by_cases c:j<i
  ·exact W.lo j c
  ·obtain rfl:j=i:=by omega
   rw[W.hi j (Nat.le_refl _),Xg];cases ts[j]? with
   |none=>rfl
   |some t=>show some t=some (if j=j then t else _);rw[iJ rfl],λj hj=>W.hi j omQ⟩
theorem ko.next {ts us:List qo} {i k:Nat} {s v:Int} {t:qo} (W:ko ts i s v k us) (hk:k≠i) (ht:ts[k]? =some t):ko ts i s v (k+1) (us.set k (xN t s v)):=by
 have h1:=W.len;have h2:=(List.getElem?_eq_some_iff.1 ht).1;refine⟨by rw[List.length_set];exact h1,λj hj=>?_,λj hj=>?_⟩
 ·by_cases c:j=k
  ·subst c;rw[List.getElem?_set_self omQ,Xg,ht];show _=some (if j=i then t else xN t s v);rw[iQ hk]
  ·rw[List.getElem?_set_ne (λh=>c h.symm)];exact W.lo j omQ
 ·rw[List.getElem?_set_ne omQ];exact W.hi j omQ
theorem qKP {i:Nat} {draw:Int} (hn:29≤n) (K:V6 m) (hi:i<m.t.length) (hb:m.t.length≤1000) (hp:m.picks≤900000) (hd:0≤draw∧draw<256) (H:HS g h (MacC b m::R)) :
  t_w n 10 [.ptr b 0,.int .i64 (i:Int),.int .u8 draw] h λr h'=>r=.int .i64 0∧HS g h' (MacC b (gG m i draw)::R):=by
 refine t_e3 rfl omQ λk hk=>?_;unfold S10;try simp only[iZ]
 obtain⟨p,tv,ps,hl,H⟩:=MacC.E H;have ht:m.t[i]? =some m.t[i]:=iW hi;have h1:ps[i]? =some (ps[i]'omQ):=iW omQ;obtain⟨O,W,hpa⟩:=K.t i _ ht;have hct:=K.cnt;have MR:=K.r;have KT:=K.t;unfold gG;rw[ht];generalize(ps[i]'omQ)=a at*;generalize hte:m.t[i]=t at*;refine jD omQ<|qV ?_
 try dsimp only
 refine qe (qW (qQ (qX H .here rfl ?_)));refine qm H e_1<|zF omQ ?_
 try dsimp only
 refine qE (qJ ?_);refine qW (qQ (qX H .here rfl ?_));refine qc omQ<|qW (qQ ?_);refine qA H .here ⟨rfl,rfl⟩ (by simp[XR]) λh2 H2=>?_;refine qW (qQ (qX H2 .here rfl ?_));refine jO (H2.sl e_1) (ZM h1) ?_;have H3:=U5 h1 ht (H2.sel (P:=.all (gB ps m.t)) e_3);refine qG (qxC omQ O H3) ?_;rintro _ h4 ⟨rfl,H4⟩;refine qC rfl (qC rfl ?_);refine qW (qQ ?_);refine qf H4 e_2 rfl (by simp[XR,yN]) rfl λh5 H5=>?_;have H5:HS g h5 (qw b (XR { m with picks:=m.picks+1,last:=(xL t).getD (op0 0 0 0) } p tv)::ThdC a t:: .all ((gB ps m.t).eraseIdx i)::qy 86 1 m.t.length tv (Jp ps)::MemC p m.s m.m::R):=H5;refine qW (qQ ?_);refine qA H5 .here ⟨rfl,rfl⟩ (by simp[XR]) λh6 H6=>?_;refine qW (qQ (qX H6 .here rfl ?_));cases hnx:xL t with
 |none=>rw[hnx]at H6;refine jA (qZ ?_);have H7:HS g h6 (qw b (XR { m with picks:=m.picks+1,last:=op0 0 0 0,did:=false } p tv)::ThdC a t:: .all ((gB ps m.t).eraseIdx i)::qy 86 1 m.t.length tv (Jp ps)::MemC p m.s m.m::R):=H6;refine qG (qYp omQ O (H7.sel e_1)) λ_ h8 H8=>qj ⟨rfl,?_⟩;have H9:=Zz h1 hi (H8.sub (.cons .here (.cons e_1 .refl)));refine MacC.I (p:=p) (tv:=tv) (ps:=ps) (by rw[List.length_set];exact hl) ?_;unfold Mb;rw[show({ m with picks:=m.picks+1,last:=op0 0 0 0,did:=false,t:=m.t.set i (vV t) }:wb).t.length=m.t.length from List.length_set];exact H9.pk [1,1,1,0] 0
 |some o=>
  rw[hnx]at H6;refine jk (qJ ?_);have ho:=M8 O W hnx;have rr:=Zk MR ho;have H7:HS g h6 (qw b (XR { m with picks:=m.picks+1,last:=o,did:=true } p tv)::ThdC a t:: .all ((gB ps m.t).eraseIdx i)::qy 86 1 m.t.length tv (Jp ps)::MemC p m.s m.m::R):=H6;refine qV ?_
  try dsimp only
  refine qW (qQ (qX H7 .here rfl ?_));refine qW (qQ (qF H7 .here rfl (by simp[XR]) rfl ?_));refine qG (qx6 omQ ⟨hct.1,by omega⟩ (H7.sel e_4)) ?_;rintro _ h8 ⟨rfl,H8⟩;refine qW (qQ (qX H8 e_1 rfl ?_));refine qG (qx1 omQ O rr.1 hd omQ (H8.sel e_2)) λ_ h9 H9=>?_;refine qd H7 .here rfl H8 e_1 rfl (HS.lt H7 .here) ?_
  try dsimp only
  have HA:=Zz h1 hi (H9.sub (.cons .here (.cons e_2 .refl)));have O':=Nu O rr.1 hd.1 (pick:=m.picks+1);have hOall:∀k v,(m.t.set i (zB t (jw m.m o).1 draw (m.picks+1)))[k]? =some v→ya v:=λk v hv=>by
   by_cases e:k=i
   ·subst e;rw[List.getElem?_set_self hi]at hv;cases hv;exact O'
   ·rw[List.getElem?_set_ne (λh=>e h.symm)]at hv;exact(KT k v hv).1
  generalize hts:m.t.set i (zB t (jw m.m o).1 draw (m.picks+1))=ts at*;have htl:ts.length=m.t.length:=by rw[← hts,List.length_set]
  have HB:HS g h9 (qw b (XR { m with picks:=m.picks+1,last:=o,did:=true } p tv)::qy 86 1 ts.length tv (Jp ps)::MemC p m.s (jw m.m o).2:: .all (gB ps ts)::R):=by rw[htl];exact HA.pk [2,2,1,0] 0
  generalize jw m.m o=r at*;refine qW (qQ (qn (qX HB .here rfl ?_)));by_cases c5:o.kind=5
  ·rw[iJ c5];refine q9 c5 (qJ ?_);refine qW (qQ (qX HB .here rfl ?_));refine qm HB e_1 ?_
   refine jM (λc s h'=>∃(k:Nat) (us:List qo),s=(.int .i64 (k:Int),.int .i64 (ts.length:Int),tv,.int .i64 (i:Int),.ptr b 0,())∧k≤ts.length∧c=ts.length-k∧ko ts i o.at_ o.lk.1 k us∧
     HS g h' (qw b (XR { m with picks:=m.picks+1,last:=o,did:=true } p tv)::qy 86 1 ts.length tv (Jp ps)::MemC p m.s r.2:: .all (gB ps us)::R))
    ?_ omQ ⟨0,ts,rfl,Nat.zero_le _,rfl,⟨rfl,λj hj=>absurd hj omQ,λj _=>rfl⟩,HB⟩
   rintro c ih s h8 hih ⟨k,us,rfl,hk,rfl,WK,H⟩;by_cases hlt:k<ts.length
   ·refine jT omQ (qZ ?_);have hk1:ps[k]? =some (ps[k]'omQ):=iW omQ;refine qV ?_
    try dsimp only
    refine jO (H.sl e_1) (ZM hk1) ?_;by_cases ck:k=i
    ·subst ck;refine q9 rfl (qJ ?_);refine qc omQ<|hih (ts.length-(k+1)) _ _ omQ ⟨k+1,us,rfl,by omega,rfl,WK.same,H⟩
    ·refine jX omQ (qZ ?_);have htk:ts[k]? =some ts[k]:=iW hlt;have huk:us[k]? =some ts[k]:=by rw[WK.hi k (Nat.le_refl _)];exact htk
     have hul:=WK.len;refine qW (qQ (qn (qX H .here rfl ?_)));refine qW (qQ (qn (qn (qX H .here rfl ?_))));have H2:=U5 hk1 huk (H.sel (P:=.all (gB ps us)) e_3);refine qG (qgF omQ (hOall k _ htk) H2) λ_ h3 H3=>?_;have H4:=Zz hk1 omQ H3;refine qc omQ<|hih (ts.length-(k+1)) _ _ omQ ⟨k+1,_,rfl,by omega,rfl,WK.next ck htk,H4.pk [1,1,1,0] 0⟩
   ·obtain rfl:k=ts.length:=by omega
    refine jD omQ (qJ ?_);refine qk (qj ⟨rfl,?_⟩);have e:=WK.done;subst e;have hwl:(yO ts i o.at_ o.lk.1).length=ts.length:=by unfold yO;simp
    refine MacC.I (p:=p) (tv:=tv) (ps:=ps) (by show ps.length=(yO ts i o.at_ o.lk.1).length;omega) ?_;unfold Mb;rw[hwl];exact H
  ·rw[iQ c5];refine jX c5 (qZ (qj ⟨rfl,?_⟩));exact MacC.I (tv:=tv) (ps:=ps) (by show ps.length=ts.length;omega) HB
end
end
section
variable {g h:AH} {L R:List SP}
def TsC (jss:List (List (List qR))) (v:AV):SP:=.ex λvs:List AV=>.all [.pur (vs.length=jss.length),qy 43 1 jss.length v vs,.all (List.zipWith (λv js=>JobsC js v) vs jss)]
theorem TsC.E {jss:List (List (List qR))} {v:AV} (H:HS g h (TsC jss v::R)):∃vs:List AV,vs.length=jss.length∧HS g h (qy 43 1 jss.length v vs:: .all (List.zipWith (λv js=>JobsC js v) vs jss)::R):=by obtain⟨vs,H⟩:=H.exE;exact⟨vs,H.allE.purE⟩
theorem TsC.I {jss:List (List (List qR))} {v:AV} {vs:List AV} (hl:vs.length=jss.length) (H:HS g h (qy 43 1 jss.length v vs:: .all (List.zipWith (λv js=>JobsC js v) vs jss)::R)):HS g h (TsC jss v::R) :=
 HS.exI vs (HS.allI (HS.purI hl H))
end
section
variable {g h:AH} {L R:List SP}
def Nj (S:zv) (k:Nat):jC:=if k≤5 then wk S else(jw (wk S) (op0 2 5 14)).2
theorem qz6 {S:zv} (O:yX S) {k:Nat} (hk:k<S.words.toNat):(VK S.words)[k]? =some (if k=5 then 14 else 0):=by
 have h1:=O.words;have e:szZ S.words=S.words.toNat:=by unfold szZ;omega
 unfold VK;rw[e,List.getElem?_set,List.getElem?_replicate];by_cases c:k=5
 ·subst c;rw[iJ rfl,iJ rfl,List.length_replicate,iJ hk]
 ·rw[iQ (λh=>c h.symm),iQ c,iJ hk]
theorem YF {jss:List (List (List qR))} {i:Nat}:(((jss.take 4)[i]?).getD []:List (List qR))=if i<4 then(jss[i]?).getD []else[]:=by
 rw[List.getElem?_take]
 split<;>rfl
section
variable {n:Nat}
theorem qYs {s:zv} {jss:List (List (List qR))} {v:AV} (hn:16≤n) (hs:0≤s.start) (hj:∀js∈jss,js.length≤1000000∧∀l∈js,(zb l).2=0∧Quiet l) (hjl:jss.length≤1000) (H:HS g h (TsC jss v::R)) :
  t_w n 7 [.agg (xB s),v] h λr h'=>∃b,r=.ptr b 0∧HS g h' (MacC b (JG s jss)::TsC jss v::R):=by
 refine t_e2 rfl omQ λk hk=>?_;unfold S7;try simp only[iZ]
 obtain⟨vs,hvl,H⟩:=TsC.E H;refine qP H rfl λb0 h1 H1=>?_;refine qm H1 e_1<|ju ?_;rw[show min ((jss.length:Nat):Int) ((4:Nat):Int)=((min jss.length 4:Nat):Int) by omega];have hm4:min jss.length 4≤jss.length∧min jss.length 4≤4:=by omega
 have etk:(jss.take 4).length=min jss.length 4:=by rw[List.length_take];omega
 generalize hm:min jss.length 4=m at*;refine qK2 (hi:=m) H1.drop .here omQ hm4.1 λv' SV=>?_;refine zu (SV.more.sl H1)<|qQ (qn ?_);refine qA H1 .here ⟨rfl,rfl⟩ (by simp) λh2 H2=>?_;have H2:HS g h2 (qw b0 (xB { s with threads:=((jss.take 4).length:Int) })::qy 43 1 jss.length v vs:: .all (List.zipWith (λv js=>JobsC js v) vs jss)::R):=by rw[etk];exact H2
 unfold JG;have so:yX (jq { s with threads:=((jss.take 4).length:Int) }):=yi hs;have hid:=Qx so;refine qF H2 .here rfl omQ rfl<|qG (Vn omQ H2) ?_;rintro _ h3 ⟨rfl,H3⟩;refine qf H3 .here rfl (by simp) rfl λh4 H4=>?_;generalize jq { s with threads:=((jss.take 4).length:Int) }=S at*;have q1:=so.words;have q3:=so.threads;refine qV ?_
 try dsimp only
 refine qF H4 .here rfl omQ rfl<|qQ (qF H4 .here rfl omQ rfl ?_);refine qG (qg9 omQ so.start.1 H4) ?_;rw[hid];rintro _ h5 ⟨p,rfl,H5⟩
 let M0:wb:=⟨S,wk S,[],0,op0 0 0 0,false⟩
 refine qL rfl<|qP H5 rfl λb h6 H6=>?_;have H7:HS g h6 (qw b (XR M0 p .nils)::MemC p S (wk S)::qw b0 (xB S)::qy 43 1 jss.length v vs:: .all (List.zipWith (λv js=>JobsC js v) vs jss)::R):=H6;refine zn H4 .here rfl H5 e_1 rfl rfl omQ (HS.lt H4 .here) ?_
 try dsimp only
 refine qQ (qn (qX H7 e_2 rfl ?_));refine qG (qGf omQ H7) ?_;rintro wv h8 ⟨e,H8⟩;have ez:szZ S.words=S.words.toNat:=by unfold szZ;omega
 rw[ez]at H8;refine qm H8 .here<|jM (λc q h'=>∃i:Nat,q=(.int .i64 (i:Int),.int .i64 ((S.words.toNat:Nat):Int),wv,.ptr b 0,.ptr b0 0,v',())∧i≤S.words.toNat∧c=S.words.toNat-i∧HS g h' (qy e 1 S.words.toNat wv ((VK S.words).map (.int .u64))::qw b (XR M0 p .nils)::MemC p S (Nj S i)::qw b0 (xB S)::qy 43 1 jss.length v vs:: .all (List.zipWith (λv js=>JobsC js v) vs jss)::R))
  ?_ omQ ⟨0,rfl,Nat.zero_le _,rfl,H8⟩
 rintro c ih q h9 hih ⟨i,rfl,hi,rfl,H⟩;by_cases hlt:i<S.words.toNat
 ·refine jT omQ (qZ ?_);refine qV ?_
  try dsimp only
  have hf:=qz6 so hlt;refine jO (H.sl .here) (by rw[List.getElem?_map,hf];rfl) ?_;by_cases c5:i=5
  ·subst c5;refine jX od (qZ ?_);refine qW (qQ (qX H e_1 rfl ?_));refine qL rfl<|qG (qx6 (o:=op0 2 5 14) omQ ⟨Int.le_refl _,by show(0:Int)<1000000000;decide⟩ (H.sel e_2)) ?_;rintro _ h10 ⟨rfl,HA⟩;refine qc omQ<|hih (S.words.toNat-(5+1)) _ _ omQ ⟨5+1,rfl,by omega,rfl,HA.pk [1,1,0] 0⟩
  ·rw[iQ c5];refine q9 rfl (qJ ?_);refine qc omQ ?_;have em:Nj S (i+1)=Nj S i:=by
    unfold Nj;by_cases h5:i<5
    ·rw[iJ omQ,iJ omQ]
    ·rw[iQ omQ,iQ omQ]
   exact hih (S.words.toNat-(i+1)) _ _ omQ ⟨i+1,rfl,by omega,rfl,by rw[em];exact H⟩
 ·obtain rfl:i=S.words.toNat:=by omega
  refine jD omQ (qJ ?_);have em:Nj S S.words.toNat=(jw (wk S) (op0 2 5 14)).2:=by unfold Nj;rw[iQ omQ]
  rw[em]at H
  replace H:=H.drop
  generalize(jw (wk S) (op0 2 5 14)).2=M5 at*
  let T:Nat→List qo:=λk=>(List.range k).map λi:Nat=>Xq i S (((jss.take 4)[i]?).getD [])
  have hTl:∀k,(T k).length=k:=λk=>by rw[List.length_map,List.length_range]
  refine qQ (qn (qX H e_2 rfl ?_));rw[show S.threads=((S.threads.toNat:Nat):Int) by omega];have q0:HS g h9 (MacC b ⟨S,M5,T 0,0,op0 0 0 0,false⟩::qw b0 (xB S)::qy 43 1 jss.length v vs:: .all (List.zipWith (λv js=>JobsC js v) vs jss)::R):=by have N1:=HS.allI (A:=[]) H;have N2:=N1.nils (e:=86) (sz:=1);exact MacC.I (tv:=.nils) (ps:=[]) rfl (N2.pk [2,0,1,0] 0)
  refine jM (λc q h'=>∃i:Nat,q=(.int .i64 (i:Int),.int .i64 ((S.threads.toNat:Nat):Int),.ptr b 0,.ptr b0 0,v',())∧i≤S.threads.toNat∧c=S.threads.toNat-i∧HS g h' (MacC b ⟨S,M5,T i,0,op0 0 0 0,false⟩::qw b0 (xB S)::qy 43 1 jss.length v vs:: .all (List.zipWith (λv js=>JobsC js v) vs jss)::R))
   ?_ omQ ⟨0,rfl,Nat.zero_le _,rfl,q0⟩
  rintro c ih q h10 hih ⟨i,rfl,hi,rfl,H⟩;by_cases hlt:i<S.threads.toNat
  ·refine jT omQ (qZ ?_)
   refine ji [] (λz h'=>∃(jv:AV) (B:List SP),z=(.int .i64 (i:Int),.int .i64 ((S.threads.toNat:Nat):Int),jv,.int .i64 (i:Int),.ptr b 0,.ptr b0 0,v',())∧
     HS g h' (JobsC (((jss.take 4)[i]?).getD []) jv::MacC b ⟨S,M5,T i,0,op0 0 0 0,false⟩::qw b0 (xB S)::qy 43 1 jss.length v vs:: .all B::R)∧
     (∀{h'':AH} {L:List SP},HS g h'' (JobsC (((jss.take 4)[i]?).getD []) jv:: .all B::L)→HS g h'' (.all (List.zipWith (λv js=>JobsC js v) vs jss)::L))) (λj hj=>?_) ?_
   ·refine zu (SV.more.more.sl H) ?_;by_cases him:i<m
    ·have hij:i<jss.length:=by omega
     have hiv:i<vs.length:=by omega
     have ej:((jss.take 4)[i]?).getD []=jss[i]:=by rw[YF,iJ omQ,iW hij];rfl
     have hz:(List.zipWith (λv js=>JobsC js v) vs jss)[i]? =some (JobsC jss[i] vs[i]):=by rw[List.getElem?_zipWith,iW hiv,iW hij]
     refine jT omQ (qZ ?_);refine jO (SV.more.more.sl H) (by rw[Nat.mul_one,List.getElem?_take_of_lt him,iW hiv]) ?_;rw[ej]at hj;refine hj _ _ ⟨vs[i],(List.zipWith (λv js=>JobsC js v) vs jss).eraseIdx i,rfl,?_,λH=>HS.allUn (GA hz) H⟩;have H1:=HS.allSel (GA hz) (H.sel (P:=.all (List.zipWith (λv js=>JobsC js v) vs jss)) e_3);exact H1.pk [0,1,1,1,0] 0
    ·have ej:((jss.take 4)[i]?).getD []=[]:=by
      rw[YF]
      split
      ·rw[List.getElem?_eq_none omQ];rfl
      ·rfl
     refine jD omQ (qJ ?_);rw[ej]at hj;refine hj _ _ ⟨.nils,List.zipWith (λv js=>JobsC js v) vs jss,rfl,?_,λH=>H.drop⟩;exact JobsC.I rfl ((HS.allI H).nils)
   ·rintro _ h11 ⟨jv,B,rfl,H,back⟩;refine qV ?_
    try dsimp only
    have hjj:∀l∈(((jss.take 4)[i]?).getD []),(zb l).2=0∧Quiet l:=λl hl=>by
     rw[YF]at hl
     split at hl
     ·cases hx:jss[i]? with
      |none=>rw[hx]at hl;cases hl
      |some js=>rw[hx]at hl;exact(hj js (List.mem_of_getElem? hx)).2 l hl
     ·cases hl
    have hjl':(((jss.take 4)[i]?).getD []).length≤1000000:=by
     rw[YF]
     split
     ·cases hx:jss[i]? with
      |none=>exact Nat.zero_le _
      |some js=>exact(hj js (List.mem_of_getElem? hx)).1
     ·exact Nat.zero_le _
    have eT:T (i+1)=T i++[Xq i S (((jss.take 4)[i]?).getD [])]:=by show(List.range (i+1)).map _=(List.range i).map _++_;rw[List.range_succ,List.map_append];rfl
    generalize((jss.take 4)[i]?).getD []=js at*;obtain⟨p',tv,ps,hpl,HU⟩:=MacC.E (H.sel e_1);have hpl:ps.length=i:=by rw[hpl];exact hTl i
    have HU:HS g h11 (qw b (XR ⟨S,M5,T i,0,op0 0 0 0,false⟩ p' tv)::qy 86 1 i tv (Jp ps)::MemC p' S M5:: .all (gB ps (T i))::JobsC js jv::qw b0 (xB S)::qy 43 1 jss.length v vs:: .all B::R):=by have:=HU;unfold Mb at this;rw[show(⟨S,M5,T i,0,op0 0 0 0,false⟩:wb).t.length=i from hTl i]at this;exact this
    refine qW (qQ (qX HU .here rfl ?_));refine qF HU e_5 rfl omQ rfl ?_;have HV:HS g h11 (JobsC js jv::qw b (XR ⟨S,M5,T i,0,op0 0 0 0,false⟩ p' tv)::qy 86 1 i tv (Jp ps)::MemC p' S M5:: .all (gB ps (T i))::qw b0 (xB S)::qy 43 1 jss.length v vs:: .all B::R):=HU.sel e_4;refine qG (qZ9 omQ omQ so.start.1 hjj hjl' HV) ?_;rintro _ h12 ⟨tb,rfl,HW⟩;refine qh HW rfl rfl rfl rfl λv2 h13 HX=>?_;refine jf (HX.sel e_4) (HX.sl .here) omQ omQ rfl λv3 h14 HY=>?_;have o3:=HY.one .here;refine qW (qQ ?_);refine qA HY e_4 o3 (by simp[XR]) λh15 HZ=>?_;refine qd HU .here rfl HW e_2 rfl (HS.lt HU .here) ?_
    try dsimp only
    refine qc omQ<|hih (S.threads.toNat-(i+1)) _ _ omQ ⟨i+1,rfl,by omega,rfl,?_⟩;have eb:gB (ps++[tb]) (T (i+1))=gB ps (T i)++[ThdC tb (Xq i S js)]:=by unfold gB;rw[eT,List.zipWith_append (by rw[hpl];exact(hTl i).symm)];rfl
    have ep:Jp (ps++[tb])=Jp ps++[.ptr tb 0]:=by unfold Jp;rw[List.map_append];rfl
    have B1:=KX (B:=[ThdC tb (Xq i S js)]) (HZ.pk [6,3] 0)
    have B2:=MacC.I (b:=b) (p:=p') (tv:=v3) (m:=⟨S,M5,T (i+1),0,op0 0 0 0,false⟩) (ps:=ps++[tb]) (by rw[List.length_append,hpl];exact(hTl (i+1)).symm) (by
     unfold Mb;rw[show(⟨S,M5,T (i+1),0,op0 0 0 0,false⟩:wb).t=T (i+1)from rfl,eb,ep,hTl (i+1)]
     exact B1.pk [1,1,3,0] 0)
    exact HS.sub (back (B2.pk [2,4] 0)) (.cons e_1 (.cons e_2 (.cons e_2 (.cons .here (.drop .refl)))))
  ·obtain rfl:i=S.threads.toNat:=by omega
   refine jD omQ (qJ ?_);refine qk (qj ⟨b,rfl,?_⟩);refine HS.unsel e_1 (TsC.I hvl (H.pk [2,2,0] 1))
end
end
section
theorem qwd {h:AH} {d:Nat} {v:AV} (H:WT Tryz.prog h (d+3) 70 [v]):∃ks:List qR,Sl (λb=>b<h.nx) h 5 ks.length v (ks.flatMap jg)∧∀x∈ks,0≤x.2.2.2.2∧x.2.2.2.2<18446744073709551616:=by
 obtain⟨q,xs,S,_,H2⟩:=Ui (sz:=5) Tryz.underlying70 (by kernel_rfl) omQ H
 obtain⟨ks,g1,g3,rfl⟩:=qz7 (Pr:=λx=>0≤x.2.2.2.2∧x.2.2.2.2<18446744073709551616) jg S.len (λi hi=>by
  have:=H2 i hi;generalize(xs.drop (i*5)).take 5=row at this;unfold WT at this;simp only[Tryz.underlying108]at this;obtain⟨g1,g2⟩:=this;rw[show Tryz.prog.cellsOf 108=5 by kernel_rfl]at g1
  match row,g1 with
  |[x,y,z,u,t],_=>
   have f1:=g2 _ (iK ..);have f2:=g2 _ (iX _ (iK ..));have f3:=g2 _ (iX _ (iX _ (iK ..)));have f4:=g2 _ (iX _ (iX _ (iX _ (iK ..))));have f5:=g2 _ (iX _ (iX _ (iX _ (iX _ (iK ..)))));rw[show Tryz.prog.cellsOf 3=1 by kernel_rfl]at f1 f2 f3 f4;rw[show Tryz.prog.cellsOf 22=1 by kernel_rfl]at f5;unfold WT at f1 f2 f3 f4 f5;simp only[Tryz.underlying3,List.drop_zero,List.take_succ_cons,List.take_zero,List.drop_succ_cons]at f1 f2 f3 f4;simp only[Tryz.underlying22,List.drop_succ_cons,List.drop_zero,List.take_succ_cons,List.take_zero]at f5;obtain⟨a,ha,_⟩:=f1;obtain⟨b,hb,_⟩:=f2;obtain⟨c,hc,_⟩:=f3;obtain⟨d,hd,_⟩:=f4;obtain⟨e,he,c5⟩:=f5;cases ha;cases hb;cases hc;cases hd;cases he
   exact⟨(a,b,c,d,e),⟨c5.1,Int.lt_of_le_of_lt c5.2 od⟩,rfl⟩)
 exact⟨ks,g1▸S,g3⟩
end
section
def Xk (k:Nat) (x:qR):qR:=if x.1=12∨x.1=13 then(x.1,x.2.1,x.2.2.1,x.2.2.2.1+k,x.2.2.2.2)else x
theorem JY {k:Nat} {x:qR}:(Xk k x).1=x.1:=by unfold Xk;split<;>rfl
theorem qkp (x:qR):Xk 0 x=x:=by unfold Xk;split<;>simp
structure Emb (l L:List qR) (k:Nat) (st0:List Int):Prop where
  le:k+l.length≤L.length
  ins:∀i:Nat,i<l.length→qS L ((k+i:Nat):Int)=Xk k (qS l i)
  st:qI L k=st0
theorem qZS {st0 s:List Int} {k i:Nat} {op:Int} (h:0<zX op→s≠[]):jz (st0++s.map (· +(k:Int))) ((k+i:Nat):Int) op=st0++(jz s i op).map (· +(k:Int)):=by
 have hd:0<zX op→(st0++s.map (· +(k:Int))).dropLast=st0++s.dropLast.map (· +(k:Int)):=by intro h0;rw[List.dropLast_append_of_ne_nil (by simpa using h h0),List.map_dropLast]
 have e:[((k+i:Nat):Int)]=[(i:Int)].map (· +(k:Int)):=by simp;omega
 unfold jz;by_cases c1:xj op=true∨op=18
 ·rw[iJ c1,iJ c1];by_cases c2:0<zX op
  ·rw[iJ c2,iJ c2,hd c2,List.map_append,e,List.append_assoc]
  ·rw[iQ c2,iQ c2,List.map_append,e,List.append_assoc]
 ·rw[iQ c1,iQ c1];by_cases c2:0<zX op
  ·rw[iJ c2,iJ c2,hd c2]
  ·rw[iQ c2,iQ c2]
section
variable {l L:List qR} {k:Nat} {st0:List Int}
theorem Emb.stack (E:Emb l L k st0) (hw:∀j,j<l.length→zo l (qI l j) (qS l j)=0):∀i,i≤l.length→qI L (k+i)=st0++(qI l i).map (· +(k:Int)):=by
 intro i
 induction i with
 |zero=>intro _;rw[Nat.add_zero,E.st];simp[qI]
 |succ i ih=>intro hi;rw[← Nat.add_assoc,jH,ih omQ,E.ins i omQ,JY,qZS λh=>(xH (hw i omQ)).2.1 (.inl h),jH]
theorem qXL {s:List Int} (h:s≠[]):jJ (st0++s.map (· +(k:Int)))=jJ s+k:=by unfold jJ;rw[List.getLast?_append,List.getLast?_map,List.getLast?_eq_some_getLast h];rfl
theorem qjM (F:Fit l) {p e:Nat} (hp:p<l.length) (ho:(qS l p).1=14∨(qS l p).1=17∨(qS l p).1=18) (he:e<l.length) (h1:0<zX (qS l e).1) (h2:jJ (qI l e)=p):qM (qO l) (p:Int)=e:=by
 obtain⟨e0,_,_,_,_,_,hu⟩:=Ub F hp ho;obtain⟨e1,g1,g2,g3,g4,g5⟩:=gM F hp ho;have hin:jJ (qI l (p+1))=p:=by rw[jH];unfold jz;rw[iJ (by unfold xj;simp;omega)];unfold jJ;rw[List.getLast?_concat];rfl
 have a:=hu e he h1 h2;have b:=hu e1 g3 (by rw[g4];omega) (by rw[g5,hin]);rw[g1,a,b]
theorem qyE (F:Fit l) {u e:Nat} (hu:u<l.length) (ho:(qS l u).1=16) (he:e<l.length) (h1:0<zX (qS l e).1) (h2:jJ (qI l e)=jJ (qI l u)):qM (qO l) (u:Int)=e:=by obtain⟨e1,g1,g2,g3,g4,g5⟩:=QA F hu ho;obtain⟨q,q1,q2,_,q3⟩:=vD g5;have hq:=(yF (F.ok u hu)).2.2.1 ho;rw[Mv g5 q1]at hq;obtain⟨e0,_,_,_,_,_,hU⟩:=Ub F omQ (.inl hq);have a:=hU e he h1 (h2.trans q1);have b:=hU e1 g2 (by rw[g3];decide) (by rw[g4,q1]);rw[g1,a,b]
theorem Emb.mt (E:Emb l L k st0) (F:Fit l) (FL:Fit L) {i:Nat} (hi:i<l.length) (ho:(qS l i).1=14∨(qS l i).1=17∨(qS l i).1=18∨(qS l i).1=16):qM (qO L) ((k+i:Nat):Int)=qM (qO l) (i:Int)+k:=by
 have hle:=E.le;by_cases h:(qS l i).1=16
 ·obtain⟨e1,g1,g2,g3,g4,g5⟩:=QA F hi h;rw[g1,qyE FL (e:=k+e1) omQ (by rw[E.ins i hi,JY];exact h) omQ (by rw[E.ins e1 g2,JY,g3];decide) (by rw[E.stack F.ok _ omQ,E.stack F.ok _ omQ,g4])];omega
 ·obtain⟨e1,g1,g2,g3,g4,g5⟩:=gM F hi omQ;have hin:jJ (qI l (i+1))=i:=by
   rw[jH];unfold jz;rw[iJ (by unfold xj;simp;omega)];unfold jJ;rw[List.getLast?_concat];rfl
  have hne:qI l e1≠[]:=by intro h0;rw[← g5,h0,Y5]at hin;omega
  rw[g1,qjM FL (e:=k+e1) omQ (by rw[E.ins i hi,JY];omega) omQ (by rw[E.ins e1 g3,JY,g4];omega) (by rw[E.stack F.ok _ omQ,qXL hne,g5,hin];omega)];omega
end
def Yr (k:Nat) (p:PtM):PtM:={ p with pc:=p.pc+k }
structure Sim (k:Nat) (o0:List PtM) (s S:IM):Prop where
  regs:S.regs=s.regs
  out:S.out=s.out
  pc:S.pc=s.pc+k
  opn:S.opn=s.opn.map (Yr k)++o0
structure SimS (k:Nat) (o0:List PtM) (d D:SM):Prop where
  e:D.e=d.e
  blk:D.blk=d.blk
  v:D.v=d.v
  nx:D.nx=d.nx+k
  regs:D.s.regs=d.s.regs
  out:D.s.out=d.s.out
  opn:D.s.opn=d.s.opn.map (Yr k)++o0
section
variable {l L:List qR} {k:Nat} {st0:List Int} {o0:List PtM} {s S:IM} {V:VM}
theorem qWf {x:qR} (h:Sim k o0 s S):(jh S V x).1=(jh s V x).1∧(jh S V x).2.2=(jh s V x).2.2∧(jh S V x).2.1.regs=(jh s V x).2.1.regs∧(jh S V x).2.1.out=(jh s V x).2.1.out∧(jh S V x).2.1.opn=(jh s V x).2.1.opn.map (Yr k)++o0:=by
 unfold jh setR;rw[h.regs];by_cases c1:x.1=8
 ·rw[iJ c1,iJ c1]
  split
  ·split
   ·exact⟨rfl,rfl,rfl,h.out,h.opn⟩
   ·exact⟨rfl,rfl,h.regs,h.out,h.opn⟩
  ·exact⟨rfl,rfl,h.regs,h.out,h.opn⟩
 rw[iQ c1,iQ c1];by_cases c2:x.1=9
 ·rw[iJ c2,iJ c2]
  split
  ·exact⟨rfl,rfl,h.regs,h.out,h.opn⟩
  ·exact⟨rfl,rfl,h.regs,h.out,h.opn⟩
 rw[iQ c2,iQ c2];by_cases c3:x.1=10
 ·rw[iJ c3,iJ c3]
  split
  ·exact⟨rfl,rfl,h.regs,h.out,h.opn⟩
  ·split
   ·exact⟨rfl,rfl,rfl,h.out,h.opn⟩
   ·exact⟨rfl,rfl,h.regs,h.out,h.opn⟩
 rw[iQ c3,iQ c3]
 split
 ·exact⟨rfl,rfl,h.regs,h.out,h.opn⟩
 ·exact⟨rfl,rfl,h.regs,h.out,h.opn⟩
theorem qGr {op:Int} (h:Sim k o0 s S):SimS k o0 (zM op s.pc (s.pc+1) s V) (zM op S.pc (S.pc+1) S V):=by
 unfold zM;have hp:=h.pc
 split
 ·refine⟨rfl,rfl,rfl,by show S.pc+1=s.pc+1+k;omega,h.regs,h.out,?_⟩;show _::S.opn=_::(s.opn.map (Yr k))++o0;rw[h.opn,List.cons_append];unfold Yr;rw[h.regs,h.out,hp]
 ·exact⟨rfl,rfl,rfl,by show S.pc+1=s.pc+1+k;omega,h.regs,h.out,h.opn⟩
theorem jQA {mt MT:List Int} {x:qR} (h:Sim k o0 s S) (hx:1≤x.1∧x.1≤22) (h20:x.1≠20) (hm:x.1=16∨x.1=18→qM MT S.pc=qM mt s.pc+k) (ho:x.1=15∨x.1=16∨x.1=18∨x.1=19→s.opn≠[]) :
  SimS k o0 (doM mt s V x) (doM MT S V (Xk k x)):=by
 have hp:=h.pc;have hr:=h.regs;have hnx:S.pc+1=s.pc+1+k:=by omega
 by_cases cj:x.1=12∨x.1=13
 ·have ex:Xk k x=(x.1,x.2.1,x.2.2.1,x.2.2.2.1+k,x.2.2.2.2):=iJ cj;rw[ex];unfold doM;rcases cj with cj |cj
  ·simp only[cj];exact⟨rfl,rfl,rfl,rfl,h.regs,h.out,h.opn⟩
  ·simp only[cj];refine⟨rfl,rfl,rfl,?_,h.regs,h.out,h.opn⟩;show(if qM S.regs x.2.1=0 then x.2.2.2.1+(k:Int)else S.pc+1)=(if qM s.regs x.2.1=0 then x.2.2.2.1 else s.pc+1)+k;rw[hr]
   split
   ·rfl
   ·exact hnx
 have ex:Xk k x=x:=iQ cj;rw[ex];unfold doM;by_cases c1:x.1=1
 ·rw[iJ c1,iJ c1];unfold setR;rw[hr];exact⟨rfl,rfl,rfl,hnx,rfl,h.out,h.opn⟩
 rw[iQ c1,iQ c1];by_cases c2:x.1=2
 ·rw[iJ c2,iJ c2];unfold setR;rw[hr];exact⟨rfl,rfl,rfl,hnx,rfl,h.out,h.opn⟩
 rw[iQ c2,iQ c2];by_cases c3:x.1=3
 ·rw[iJ c3,iJ c3];unfold setR;rw[hr];exact⟨rfl,rfl,rfl,hnx,rfl,h.out,h.opn⟩
 rw[iQ c3,iQ c3];by_cases c4:x.1=4
 ·rw[iJ c4,iJ c4];unfold setR;rw[hr];exact⟨rfl,rfl,rfl,hnx,rfl,h.out,h.opn⟩
 rw[iQ c4,iQ c4];by_cases c5:x.1=5
 ·rw[iJ c5,iJ c5];unfold setR;rw[hr];exact⟨rfl,rfl,rfl,hnx,rfl,h.out,h.opn⟩
 rw[iQ c5,iQ c5];by_cases c6:x.1=6
 ·rw[iJ c6,iJ c6];unfold setR;rw[hr];exact⟨rfl,rfl,rfl,hnx,rfl,h.out,h.opn⟩
 rw[iQ c6,iQ c6];by_cases c7:x.1=7
 ·rw[iJ c7,iJ c7];unfold setR;rw[hr];exact⟨rfl,rfl,rfl,hnx,rfl,h.out,h.opn⟩
 rw[iQ c7,iQ c7,iQ (λh=>cj (.inl h)),iQ (λh=>cj (.inl h)),iQ (λh=>cj (.inr h)),iQ (λh=>cj (.inr h))];by_cases c21:x.1=21
 ·rw[iJ c21,iJ c21,h.out,hr]
  split
  ·exact⟨rfl,rfl,rfl,hnx,h.regs,h.out,h.opn⟩
  ·exact⟨rfl,rfl,rfl,hnx,rfl,rfl,h.opn⟩
 rw[iQ c21,iQ c21];by_cases c22:x.1=22
 ·rw[iJ c22,iJ c22];exact⟨rfl,rfl,rfl,hnx,h.regs,h.out,h.opn⟩
 rw[iQ c22,iQ c22];by_cases c8:x.1=8∨x.1=9∨x.1=10∨x.1=11
 ·rw[iJ c8,iJ c8];obtain⟨a,b,c,d,e⟩:=qWf h;exact⟨a,rfl,b,hnx,c,d,e⟩
 rw[iQ c8,iQ c8];unfold wB;by_cases t1:x.1=14∨x.1=17
 ·rw[iJ t1,iJ t1];exact qGr h
 rw[iQ t1,iQ t1];have tl:x.1=15∨x.1=16∨x.1=18∨x.1=19→S.opn.tail=s.opn.tail.map (Yr k)++o0:=by
  intro hh;have:=ho hh;rw[h.opn];cases hs:s.opn with
  |nil=>exact absurd hs this
  |cons p o=>rfl
 by_cases t2:x.1=15∨x.1=19
 ·rw[iJ t2,iJ t2];exact⟨rfl,rfl,rfl,hnx,h.regs,h.out,tl omQ⟩
 rw[iQ t2,iQ t2];by_cases t3:x.1=18
 ·rw[iJ t3,iJ t3];have:=hm (.inr t3);exact⟨rfl,rfl,rfl,by show qM MT S.pc+1=qM mt s.pc+1+k;omega,h.regs,h.out,tl omQ⟩
 rw[iQ t3,iQ t3];by_cases t4:x.1=16
 ·rw[iJ t4,iJ t4];have:=hm (.inl t4);have hh:VS S.opn=Yr k (VS s.opn):=by
   have:=ho (.inr (.inl t4));rw[h.opn];cases hs:s.opn with
   |nil=>exact absurd hs this
   |cons p o=>rfl
  refine⟨rfl,rfl,rfl,by show qM MT S.pc+1=qM mt s.pc+1+k;omega,?_,?_,tl omQ⟩
  ·rw[hh];rfl
  ·show S.out.take (VS S.opn).told=s.out.take (VS s.opn).told;rw[hh,h.out];rfl
 omega
end
end
section
theorem do_nx {l:List qR} (F:Fit l) {s:IM} {V:VM} {i:Nat} (hi:s.pc=i) (hlt:i<l.length) (h20:(qS l i).1≠20) (h23:(qS l i).1≠23):∃j:Nat,(doM (qO l) s V (qS l i)).nx=j∧j≤l.length:=by
 have hm:=qVB (yF (F.ok i hlt)).1 h23;have hj:=F.jump i hlt;have h1:∃j:Nat,s.pc+1=j∧j≤l.length:=⟨i+1,by omega,by omega⟩;have hmt:(qS l i).1=16∨(qS l i).1=18→∃j:Nat,qM (qO l) s.pc+1=j∧j≤l.length:=by
  intro h;rw[hi];rcases h with h |h
  ·obtain⟨e,e1,e2,_⟩:=QA F hlt h;exact⟨e+1,by omega,by omega⟩
  ·obtain⟨e,e1,_,e2,_⟩:=gM F hlt (.inr (.inr h));exact⟨e+1,by omega,by omega⟩
 have hc:(qS l i).1=12∨(qS l i).1=13→∃j:Nat,(qS l i).2.2.2.1=j∧j≤l.length:=by
  intro h;refine⟨(qS l i).2.2.2.1.toNat,by omega,?_⟩;by_cases hc:(l.length:Int)<(qS l i).2.2.2.1
  ·exact absurd ⟨h,.inl hc⟩ hj
  ·omega
 generalize qS l i=x at*;unfold doM;by_cases c1:x.1=1
 ·rw[iJ c1];exact h1
 rw[iQ c1];by_cases c2:x.1=2
 ·rw[iJ c2];exact h1
 rw[iQ c2];by_cases c3:x.1=3
 ·rw[iJ c3];exact h1
 rw[iQ c3];by_cases c4:x.1=4
 ·rw[iJ c4];exact h1
 rw[iQ c4];by_cases c5:x.1=5
 ·rw[iJ c5];exact h1
 rw[iQ c5];by_cases c6:x.1=6
 ·rw[iJ c6];exact h1
 rw[iQ c6];by_cases c7:x.1=7
 ·rw[iJ c7];exact h1
 rw[iQ c7];by_cases c12:x.1=12
 ·rw[iJ c12];exact hc (.inl c12)
 rw[iQ c12];by_cases c13:x.1=13
 ·rw[iJ c13];show∃j:Nat,(if qM s.regs x.2.1=0 then x.2.2.2.1 else s.pc+1)=j∧j≤l.length
  split
  ·exact hc (.inr c13)
  ·exact h1
 rw[iQ c13];by_cases c21:x.1=21
 ·rw[iJ c21];split<;>exact h1
 rw[iQ c21];by_cases c22:x.1=22
 ·rw[iJ c22];exact h1
 rw[iQ c22];by_cases c8:x.1=8∨x.1=9∨x.1=10∨x.1=11
 ·rw[iJ c8];exact h1
 rw[iQ c8];unfold wB;by_cases t1:x.1=14∨x.1=17
 ·rw[iJ t1];unfold zM;split<;>exact h1
 rw[iQ t1];by_cases t2:x.1=15∨x.1=19
 ·rw[iJ t2];exact h1
 rw[iQ t2];by_cases t3:x.1=18
 ·rw[iJ t3];exact hmt (.inr t3)
 rw[iQ t3];by_cases t4:x.1=16
 ·rw[iJ t4];exact hmt (.inl t4)
 clear h1 hmt hc;omega
section
variable {l L:List qR} {k:Nat} {st0:List Int} {o0:List PtM}
theorem qga (E:Emb l L k st0) (F:Fit l) {s S:IM} {V:VM} (h:Sim k o0 s S) (G:GI L S V) {i:Nat} (hi:s.pc=i) (hil:i≤l.length) (h0:o0.length=st0.length):s.opn.length=(qI l i).length:=by have e:=congrArg List.length G.stk;rw[h.pc,hi,show((i:Int)+(k:Int)).toNat=k+i by omega,E.stack F.ok i hil,h.opn]at e;simp at e;omega
theorem qxd (E:Emb l L k st0) (F:Fit l) (FL:Fit L) (QL:Quiet L) (Cl:qX3 l) (h0:o0.length=st0.length) {s S:IM} {V:VM} (h:Sim k o0 s S) (G:GI L S V) {i:Nat} (hi:s.pc=i) (hlt:i<l.length) :
  SimS k o0 (doM (qO l) s V (qS l i)) (doM (qO L) S V (qS L ((k+i:Nat):Int)))∧(doM (qO l) s V (qS l i)).blk=false∧∃j:Nat,(doM (qO l) s V (qS l i)).nx=j∧j≤l.length:=by
 have hle:=E.le;have hq:(qS l i).1≠23:=by
  have:=(QL.at (i:=k+i) omQ).1
  rwa [E.ins i hlt,JY]at this
 have h20:(qS l i).1≠20:=by rw[yQ hlt];exact Cl _ (List.getElem_mem hlt)
 have hw:=F.ok i hlt;have hb:=qVB (yF hw).1 hq;have hlen:=qga E F h G hi omQ h0;have hso:S.pc=((k+i:Nat):Int):=by have:=h.pc;omega
 rw[E.ins i hlt];refine⟨jQA h omQ h20 (λho=>?_) (λho hn=>?_),qJ0 omQ h20 hq,do_nx F hi hlt h20 hq⟩
 ·rw[hso,hi,E.mt F FL hlt omQ]
 ·rw[hn]at hlen
  have:qI l i≠[]:=(xH hw).2.1 (by
   rcases ho with ho |ho |ho |ho
   ·exact .inl (by rw[ho];decide)
   ·exact .inr ho
   ·exact .inl (by rw[ho];decide)
   ·exact .inl (by rw[ho];decide))
  exact this (iA hlen.symm)
theorem qwp (E:Emb l L k st0) (F:Fit l) (FL:Fit L) (QL:Quiet L) (Cl:qX3 l) (h0:o0.length=st0.length):∀(n:Nat) {s S:IM} {V:VM},Sim k o0 s S→GI L S V→(∃i:Nat,s.pc=i∧i≤l.length)→frS V.lv+n<9000→
  ((jL l (qO l) n s V).kind=2→∃S',jL L (qO L) n S V=jL L (qO L) (jL l (qO l) n s V).left S' (jL l (qO l) n s V).v∧Sim k o0 (jL l (qO l) n s V).s S'∧GI L S' (jL l (qO l) n s V).v∧
   frS (jL l (qO l) n s V).v.lv+(jL l (qO l) n s V).left<9000∧(jL l (qO l) n s V).s.pc=l.length∧(jL l (qO l) n s V).left≤n)∧
  ((jL l (qO l) n s V).kind≠2→(jL L (qO L) n S V).kind=(jL l (qO l) n s V).kind∧(jL L (qO L) n S V).err=(jL l (qO l) n s V).err):=by
 have hle:=E.le;intro n
 induction n with
 |zero=>
  rintro s S V h G ⟨i,hi,hil⟩ hf;have hp:=h.pc;rw[gc];by_cases c:s.pc=l.length
  ·rw[iJ c];exact⟨λ_=>⟨S,rfl,h,G,hf,c,Nat.le_refl _⟩,λhk=>absurd rfl hk⟩
  ·rw[iQ c,gc,iQ omQ];exact⟨λhk=>(by cases hk),λ_=>⟨rfl,rfl⟩⟩
 |succ n ih=>
  rintro s S V h G ⟨i,hi,hil⟩ hf;have hp:=h.pc;rw[ww];by_cases c:s.pc=l.length
  ·rw[iJ c];exact⟨λ_=>⟨S,rfl,h,G,hf,c,Nat.le_refl _⟩,λhk=>absurd rfl hk⟩
  ·have hlt:i<l.length:=by omega
   have hSp:S.pc=((k+i:Nat):Int):=by omega
   obtain⟨D,hb,j,hj,hjl⟩:=qxd E F FL QL Cl h0 h G hi hlt;have St:=Jt FL G hSp omQ omQ (QL.at (i:=k+i) omQ).2 (QL.at (i:=k+i) omQ).1;have e1:=ww (l:=L) (mt:=qO L) (n:=n) (s:=S) (V:=V);rw[iQ (show¬S.pc=L.length by omega),hSp]at e1;rw[iQ c,e1,hi];generalize doM (qO l) s V (qS l i)=d at*;generalize doM (qO L) S V (qS L ((k+i:Nat):Int))=D' at*;have hB:D'.blk=false:=D.blk.trans hb;by_cases c0:d.e=0
   ·rw[iJ c0,iQ (by rw[hb];simp),iJ (D.e.trans c0),iQ (by rw[hB];simp)];have hfr:=St.fr;have G2:=St.next (D.e.trans c0) hB;have S2:Sim k o0 { d.s with pc:=d.nx } { D'.s with pc:=D'.nx }:=⟨D.regs,D.out,D.nx,D.opn⟩;rw[D.v]at hfr G2 ⊢;obtain⟨a,b⟩:=ih S2 G2 ⟨j,hj,hjl⟩ omQ;refine⟨λhk=>?_,b⟩;obtain⟨S',x1,x2,x3,x4,x5,x6⟩:=a hk;exact⟨S',x1,x2,x3,x4,x5,by omega⟩
   ·have c0':¬D'.e=0:=by rw[D.e];exact c0
    rw[iQ c0,iQ c0'];by_cases c11:d.e=11
    ·rw[iJ c11,iJ (D.e.trans c11)];exact⟨λhk=>(by cases hk),λ_=>⟨rfl,rfl⟩⟩
    ·have c11':¬D'.e=11:=by rw[D.e];exact c11
     rw[iQ c11,iQ c11'];exact⟨λhk=>(by cases hk),λ_=>⟨rfl,D.e⟩⟩
end
end
section
variable {g h:AH} {L R:List SP}
end
section
theorem Bld.weak {l:List qR} {st:List Int} (B:Bld true l st):Bld false l st :=
 ⟨λx hx=>⟨(B.ok x hx).may,(B.ok x hx).no,(B.ok x hx).n,λh=>(by cases h)⟩,B.wr,B.top,λj hj ho=>(by
  obtain⟨c,c1,c2,c3,_⟩:=B.jp j hj ho
  exact⟨c,c1,c2,c3,nofun⟩),B.five⟩
theorem qwH (p t:List qR):Emb p (p++t) 0 []:=⟨by simp,λi hi=>by rw[qkp,Nat.zero_add,X5 hi],rfl⟩
section
variable {p:List qR} {op:Int}
theorem qzO (B:Bld true p []) (h:op=20∨op=22):Bld false (p++[one op]) [] :=
 B.weak.flat ⟨by rcases h with rfl |rfl<;>decide,by rcases h with rfl |rfl<;>decide,by rcases h with rfl |rfl<;>decide,λh=>(by cases h)⟩ (by rcases h with rfl |rfl<;>(unfold Flat;decide)) (by rcases h with rfl |rfl<;>decide)
theorem KE {calm:Bool} {l:List qR} (B:Bld calm l []):Quiet l:=λx hx=>⟨(B.ok x hx).no,(B.ok x hx).n⟩
theorem qQD {l:List qR} (B:Bld true l []):qX3 l:=λx hx=>((B.ok x hx).cal rfl).1
theorem fails (B:Bld true p []) (h0:0<p.length) (h39:p.length≤39) (h:op=20∨op=22) {zs:List Int} (hz:OkN zs) :
  (ze (p++[one op]) 400 zs 96).kind≠2∧
  ((ze p 400 zs 96).kind≠2→(ze p 400 zs 96).kind=4∧(ze (p++[one op]) 400 zs 96).kind=4∧(ze (p++[one op]) 400 zs 96).err=(ze p 400 zs 96).err)∧
  ((ze p 400 zs 96).kind=2→op=20∧(ze (p++[one op]) 400 zs 96).kind=3∧(ze (p++[one op]) 400 zs 96).err=0∨op=22∧(ze (p++[one op]) 400 zs 96).kind=4∧(ze (p++[one op]) 400 zs 96).err=13∨
   (ze (p++[one op]) 400 zs 96).kind=4∧(ze (p++[one op]) 400 zs 96).err=6):=by
 have BL:=qzO B h;have F:Fit p:=gu (by rw[B.fit h0 omQ]);have FL:Fit (p++[one op]):=gu (by rw[BL.fit osQ (by simp;omega)]);have Q:=KE B;have QL:=KE BL;have C:=qQD B;have G:=Yj (l:=p) (m:=96) hz;have GL:=Yj (l:=p++[one op]) (m:=96) hz;have f0:=w6 zs 96;have n3:=qZM F Q C 400 G omQ;have n1:=qG5 F Q (n:=400) (zs:=zs) (m:=96) G rfl rfl omQ;have rk:=(Yu F Q 400 G omQ).2.2.2.2;obtain⟨a,b⟩:=qwp (qwH p [one op]) F FL QL C (o0:=[]) rfl 400 ⟨rfl,rfl,rfl,rfl⟩ GL ⟨0,rfl,Nat.zero_le _⟩ omQ;unfold ze;generalize jL p (qO p) 400 J7 (jV zs 96)=A at*;by_cases k2:A.kind=2
 ·obtain⟨S',x1,x2,x3,x4,x5,x6⟩:=a k2;have hp:S'.pc=((p.length:Nat):Int):=by have:=x2.pc;omega
  have hne:¬S'.pc=(p++[one op]).length:=by rw[hp];simp;omega
  have hins:qS (p++[one op]) S'.pc=one op:=by have e:=JO (l:=p) (t:=[one op]) (k:=0) (x:=one op) rfl;rw[hp];exact e
  have ho:S'.opn=[]:=by have e:=x3.stk;rw[hp,Int.toNat_natCast,wR _ (Nat.le_refl _),F.nil]at e;simpa using e
  have key:op=20∧(jL (p++[one op]) (qO (p++[one op])) A.left S' A.v).kind=3∧(jL (p++[one op]) (qO (p++[one op])) A.left S' A.v).err=0∨op=22∧(jL (p++[one op]) (qO (p++[one op])) A.left S' A.v).kind=4∧(jL (p++[one op]) (qO (p++[one op])) A.left S' A.v).err=13∨
    (jL (p++[one op]) (qO (p++[one op])) A.left S' A.v).kind=4∧(jL (p++[one op]) (qO (p++[one op])) A.left S' A.v).err=6:=by
   cases A.left with
   |zero=>rw[gc,iQ hne];exact .inr (.inr ⟨rfl,rfl⟩)
   |succ m=>
    rw[ww,iQ hne,hins];rcases h with rfl |rfl
    ·have e:doM (qO (p++[one 20])) S' A.v (one 20)=⟨0,S'.pc,true,{ S' with opn:=[] },A.v⟩:=by
      show vG _ S'.opn S' A.v=_;rw[ho];rfl
     rw[e];exact .inl ⟨rfl,rfl,rfl⟩
    ·exact .inr (.inl ⟨rfl,rfl,rfl⟩)
  rw[x1];exact⟨by omega,λh=>absurd k2 h,λ_=>key⟩
 ·obtain⟨y1,y2⟩:=b k2;have k4:A.kind=4:=by omega
  exact⟨by rw[y1];exact k2,λ_=>⟨k4,by rw[y1];exact k4,y2⟩,λh=>absurd h k2⟩
end
end
section
variable {g h:AH} {L R:List SP}
structure ArgP (h:AH) (x:AV) (kss:List (List qR)) (vs:List AV):Prop where
  len:vs.length=kss.length
  s:Sl (λb=>b<h.nx) h 1 vs.length x vs
  i:∀(i:Nat) (y:AV) (ks:List qR),vs[i]? =some y→kss[i]? =some ks→Sl (λb=>b<h.nx) h 5 ks.length y (ks.flatMap jg)
  n:∀ks∈kss,∀x∈ks,0≤x.2.2.2.2∧x.2.2.2.2<18446744073709551616
structure ArgT (h:AH) (x:AV) (T:List (List (List qR)×List AV)) (vs:List AV):Prop where
  len:vs.length=T.length
  s:Sl (λb=>b<h.nx) h 1 vs.length x vs
  i:∀(i:Nat) (y:AV) (p:List (List qR)×List AV),vs[i]? =some y→T[i]? =some p→ArgP h y p.1 p.2
structure qjN (calm:Bool) (most:Int) (l:List qR):Prop where
  b:Bld calm l []
  pos:0<l.length
  le:(l.length:Int)≤most
theorem qjN.chk {calm:Bool} {most:Int} {l:List qR} (J:qjN calm most l) (h:most≤40):(zb l).2=0∧Quiet l:=by have h1:=J.le;exact⟨by rw[J.b.fit J.pos omQ],KE J.b⟩
theorem qQf {n:Nat} {calm:Bool} {most:Int} {a0:AV} {T:List (List (List qR)×List AV)} {vs:List AV} (hn:6≤n) (hm:1≤most∧most≤40) (A:ArgT g a0 T vs) (H:HS g h R) :
  t_w n 6 [a0,.int .i64 most,.bool calm] h λr h'=>∃jss:List (List (List qR)),jss.length≤3∧(vs=[]→jss=[])∧(∀js∈jss,js.length≤2∧∀l∈js,qjN calm most l)∧HS g h' (TsC jss r::R):=by
 refine t_e3 rfl omQ λk hk=>?_;unfold S6;try simp only[iZ]
 have q0:HS g h (TsC [] .nils::R):=TsC.I (jss:=[]) rfl ((HS.allI H).nils)
 refine jM (λc q h'=>∃(jss:List (List (List qR))) (lv:AV),q=(.int .i64 (jss.length:Int),lv,.bool calm,.int .i64 most,a0,())∧jss.length≤vs.length∧jss.length≤3∧c=3-jss.length∧(∀js∈jss,js.length≤2∧∀l∈js,qjN calm most l)∧
   HS g h' (TsC jss lv::R))
  ?_ od ⟨[],.nils,rfl,Nat.zero_le _,Nat.zero_le _,rfl,λ_ h=>(by cases h),q0⟩
 rintro c ih q h6 hih ⟨jss,lv,rfl,hjl,hj5,rfl,hjk,H⟩;have S0:=A.s;refine zu (S0.old H.old)<|Q2 (Kk (λz g'=>g'=h6∧∃u:AV,z=(u,.bool (decide ((jss.length:Int)<(vs.length:Int))),.int .i64 (jss.length:Int),lv,.bool calm,.int .i64 most,a0,())∧(jss.length<vs.length→u=.bool (decide (jss.length<3)))) (λj hj=>?_) ?_)
 ·refine On (λc1=>?_) (λc1=>?_)
  ·refine Q2 (hj _ _ ⟨rfl,_,rfl,λ_=>?_⟩)
   congr 1
   exact decide_eq_decide.2 omQ
  ·exact hj _ _ ⟨rfl,_,rfl,λh=>absurd h omQ⟩
 rintro _ _ ⟨rfl,u,rfl,hu⟩;have hp:∀{K:AV→Go.Ae.R} {Q:AV→AH→Prop},(∀b:Bool,(b=true↔(jss.length<vs.length∧jss.length<3))→wp (K (.bool b)) Q)→wp (ky (.bool (decide ((jss.length:Int)<(vs.length:Int)))) u (.bool false) K) Q:=λ{K Q} hw=>by
  by_cases c1:jss.length<vs.length
  ·rw[iG (show(jss.length:Int)<(vs.length:Int) by omega),hu c1];exact qD (hw _ ⟨λh=>⟨c1,of_decide_eq_true h⟩,λh=>iG h.2⟩)
  ·rw[iV (show¬(jss.length:Int)<(vs.length:Int) by omega)];exact qE (hw _ ⟨λh=>(by cases h),λh=>absurd h.1 c1⟩)
 refine hp λbb hbb=>?_;cases bb with
 |false=>refine qJ (qk (qj ⟨jss,hj5,λhv=>?_,hjk,H⟩));subst hv;exact iA (by simpa using hjl)
 |true=>
  obtain⟨c1,c2⟩:=hbb.1 rfl;have hTl:=A.len;have hv1:vs[jss.length]? =some vs[jss.length]:=iW c1;obtain⟨p,hp⟩:∃p,T[jss.length]? =some p:=⟨T[jss.length]'omQ,iW omQ⟩;have P:=A.i _ _ _ hv1 hp;obtain⟨kss,ws⟩:=p;dsimp only at P;refine qZ ?_;have q1:HS g _ (JobsC [] .nils::TsC jss lv::R):=JobsC.I rfl ((HS.allI H).nils);generalize hx:vs[jss.length]=x at*
  refine jM (λc q h'=>∃(js:List (List qR)) (jv:AV),q=(.int .i64 (js.length:Int),jv,.int .i64 (jss.length:Int),lv,.bool calm,.int .i64 most,a0,())∧js.length≤ws.length∧js.length≤2∧c=2-js.length∧(∀l∈js,qjN calm most l)∧
    HS g h' (JobsC js jv::TsC jss lv::R))
   ?_ od ⟨[],.nils,rfl,Nat.zero_le _,Nat.zero_le _,rfl,λ_ h=>(by cases h),q1⟩
  rintro c ih2 q h6 hih2 ⟨js,jv,rfl,hil,hi2,rfl,hik,H⟩;refine jO (S0.old H.old) hv1 ?_;have S1:=P.s;refine zu (S1.old H.old)<|Q2 (Kk (λz g'=>g'=h6∧∃u:AV,z=(u,.bool (decide ((js.length:Int)<(ws.length:Int))),.int .i64 (js.length:Int),jv,.int .i64 (jss.length:Int),lv,.bool calm,.int .i64 most,a0,())∧(js.length<ws.length→u=.bool (decide (js.length<2)))) (λj hj=>?_) ?_)
  ·refine On (λc1=>?_) (λc1=>?_)
   ·refine Q2 (hj _ _ ⟨rfl,_,rfl,λ_=>?_⟩)
    congr 1
    exact decide_eq_decide.2 omQ
   ·exact hj _ _ ⟨rfl,_,rfl,λh=>absurd h omQ⟩
  rintro _ _ ⟨rfl,u,rfl,hu⟩;have hp:∀{K:AV→Go.Ae.R} {Q:AV→AH→Prop},(∀b:Bool,(b=true↔(js.length<ws.length∧js.length<2))→wp (K (.bool b)) Q)→wp (ky (.bool (decide ((js.length:Int)<(ws.length:Int)))) u (.bool false) K) Q:=λ{K Q} hw=>by
   by_cases c1:js.length<ws.length
   ·rw[iG (show(js.length:Int)<(ws.length:Int) by omega),hu c1];exact qD (hw _ ⟨λh=>⟨c1,of_decide_eq_true h⟩,λh=>iG h.2⟩)
   ·rw[iV (show¬(js.length:Int)<(ws.length:Int) by omega)];exact qE (hw _ ⟨λh=>(by cases h),λh=>absurd h.1 c1⟩)
  refine hp λbb hbb=>?_;cases bb with
  |false=>
   refine qJ ?_;obtain⟨us,hul,H8⟩:=JobsC.E H;have oj:=H8.one .here;have H7:=JobsC.I hul H8;refine qh H7 rfl rfl (by simp only[vE,yM,oj.1];rfl) (by simp[qp,oj.2]) λv2 h8 H9=>?_;obtain⟨zs,hzl,HA⟩:=TsC.E (H9.sel e_2);refine jf HA (HA.sl e_2) omQ omQ (by simp[qp,oj.2]) λv3 h9 HB=>?_;refine qc omQ ?_;have ez:List.zipWith (λv js=>JobsC js v) (zs++[jv]) (jss++[js])=List.zipWith (λv js=>JobsC js v) zs jss++[JobsC js jv]:=by rw[List.zipWith_append hzl];rfl
   have HC:=KX (A:=List.zipWith (λv js=>JobsC js v) zs jss) (B:=[JobsC js jv]) (HB.sub (.cons e_1 (.cons e_2 .refl)));have HD:=TsC.I (v:=v3) (jss:=jss++[js]) (vs:=zs++[jv]) (by rw[List.length_append,List.length_append,hzl];rfl) (by rw[ez,List.length_append];exact HC.pk [1,0] 0);have hl1:(jss++[js]).length=jss.length+1:=by simp
   refine hih (3-(jss.length+1)) _ _ omQ ⟨jss++[js],v3,?_,by omega,by omega,by rw[hl1],λy hy=>?_,HD.pk [0] 1⟩
   ·rw[hl1];rfl
   ·rcases List.mem_append.1 hy with hy |hy
    ·exact hjk y hy
    ·rcases List.mem_cons.1 hy with rfl |hy
     ·exact⟨hi2,hik⟩
     ·cases hy
  |true=>
   obtain⟨d1,d2⟩:=hbb.1 rfl;have hwl:=P.len;have hw1:ws[js.length]? =some ws[js.length]:=iW d1;have hk1:kss[js.length]? =some (kss[js.length]'omQ):=iW omQ;refine qZ (jO (S0.old H.old) hv1 ?_);refine jO (S1.old H.old) hw1<|qG (qjt omQ (P.n _ (List.getElem_mem _)) hm H (Rd.arg (P.i _ _ _ hw1 hk1))) ?_;rintro _ h7 ⟨pv,l,rfl,B,hl0,hl40,H7⟩;have op:=H7.one (e:=58) (sz:=5) (n:=l.length) .here;refine qh H7 rfl rfl (by simp only[vE,yM,AV.cells,op.1];rfl) (by simp[qp,op.2]) λv2 h8 H8=>?_;obtain⟨us,hul,H9⟩:=JobsC.E (H8.sel e_2);refine jf H9 (H9.sl e_2) omQ omQ (by simp[qp,op.2]) λv3 h9 HA=>?_;refine qc omQ ?_;have ez:List.zipWith zf (us++[pv]) (js++[l])=List.zipWith zf us js++[zf pv l]:=by rw[List.zipWith_append hul];rfl
   have HB:=KX (A:=List.zipWith zf us js) (B:=[zf pv l]) (HA.sub (.cons e_1 (.cons e_2 .refl)));have HC:=JobsC.I (v:=v3) (js:=js++[l]) (vs:=us++[pv]) (by rw[List.length_append,List.length_append,hul];rfl) (by rw[ez,List.length_append];exact HB.pk [1,0] 0);have hl1:(js++[l]).length=js.length+1:=by simp
   refine hih2 (2-(js.length+1)) _ _ omQ ⟨js++[l],v3,?_,by omega,by omega,by rw[hl1],λy hy=>?_,HC.pk [0] 1⟩
   ·rw[hl1];rfl
   ·rcases List.mem_append.1 hy with hy |hy
    ·exact hik y hy
    ·rcases List.mem_cons.1 hy with rfl |hy
     ·exact⟨B,hl0,hl40⟩
     ·cases hy
theorem qKh {α β:Type} {P:α→β→Prop}:∀{xs:List α},(∀x∈xs,∃k,P x k)→∃ks:List β,xs.length=ks.length∧(∀(i:Nat) (x:α) (k:β),xs[i]? =some x→ks[i]? =some k→P x k)∧∀k∈ks,∃x∈xs,P x k:=by
 intro xs
 induction xs with
 |nil=>intro _;exact⟨[],rfl,λi x k h=>(by cases h),λk h=>(by cases h)⟩
 |cons y r ih=>
  intro H;obtain⟨k,hk⟩:=H y (iK ..);obtain⟨ks,h1,h2,h3⟩:=ih λx hx=>H x (iX _ hx);refine⟨k::ks,by simp[h1],λi x z hx hz=>?_,λz hz=>?_⟩
  ·cases i with
   |zero=>cases hx;cases hz;exact hk
   |succ i=>exact h2 i x z hx hz
  ·rcases List.mem_cons.1 hz with rfl |hz
   ·exact⟨y,iK ..,hk⟩
   ·obtain⟨x,hx,hp⟩:=h3 z hz;exact⟨x,iX _ hx,hp⟩
theorem jJE {h:AH} {d:Nat} {v:AV} (H:WT Tryz.prog h (d+4) 68 [v]):∃p:List (List qR)×List AV,ArgP h v p.1 p.2:=by
 obtain⟨q,xs,S1,_,H1⟩:=Ui (sz:=1) Tryz.underlying68 (by kernel_rfl) omQ H;have hl:=S1.len;obtain rfl:q=xs.length:=by omega
 obtain⟨kss,h1,h2,h3⟩:=qKh (P:=λ(x:AV) (ks:List qR)=>Sl (λb=>b<h.nx) h 5 ks.length x (ks.flatMap jg)∧∀y∈ks,0≤y.2.2.2.2∧y.2.2.2.2<18446744073709551616) λx hx=>by
  obtain⟨i,hi,rfl⟩:=List.mem_iff_getElem.1 hx;have:=H1 i omQ;rw[Nat.mul_one,List.drop_eq_getElem_cons hi]at this;obtain⟨ks,a,b⟩:=qwd (show WT Tryz.prog h (d+3) 70 [xs[i]]from this);exact⟨ks,a,b⟩
 exact⟨(kss,xs),h1,S1,λi x ks hx hk=>(h2 i x ks hx hk).1,λks hk=>(h3 ks hk).elim λ_ z=>z.2.2⟩
theorem qKT {h:AH} {d:Nat} {v:AV} (H:WT Tryz.prog h (d+5) 25 [v]):∃(T:List (List (List qR)×List AV)) (vs:List AV),ArgT h v T vs:=by
 obtain⟨q,xs,S1,_,H1⟩:=Ui (sz:=1) Tryz.underlying25 (by kernel_rfl) omQ H;have hl:=S1.len;obtain rfl:q=xs.length:=by omega
 obtain⟨T,h1,h2,_⟩:=qKh (P:=λ(x:AV) (p:List (List qR)×List AV)=>ArgP h x p.1 p.2) λx hx=>by
  obtain⟨i,hi,rfl⟩:=List.mem_iff_getElem.1 hx;have:=H1 i omQ;rw[Nat.mul_one,List.drop_eq_getElem_cons hi]at this;exact jJE (show WT Tryz.prog h (d+4) 68 [xs[i]]from this)
 exact⟨T,xs,h1,S1,h2⟩
end
section
theorem Mg {S:zv} {M N:jC} {me fin:Int} {V:RM} {l:List qR} {y:jG} (E:Na S M me ((V.kind,V.err),.prog ⟨l,V.s,fin,V.err,V.left⟩,V.v) y N) (herr:V.kind≠4→V.err=0) :
  jS y=V.kind∧xp y=V.err∧zP y=je V∧zR y=QY V:=by
 have Eerr:y.err=if V.kind=4 then V.err else 0:=E.err
 have hE:jS y=V.kind:=by unfold jS;rw[iQ (λh=>h E.st)];exact E.fin
 have hWr:zh y=false:=by unfold zh;rw[iV (λh=>h E.st)];rfl
 have hCm:xM y=decide (V.kind=2):=by unfold xM;rw[hE,hWr,Bool.or_false]
 refine⟨hE,?_,?_,?_⟩
 ·unfold xp;rw[iQ (λh=>h E.st),Eerr];by_cases h4:V.kind=4
  ·rw[iJ h4]
  ·rw[iQ h4,herr h4]
 ·unfold zP je;rw[hCm,E.lv,E.job];by_cases k2:V.kind=2
  ·rw[iG k2,iJ rfl,iJ k2]
  ·rw[iV k2,iQ od,iQ k2]
 ·unfold zR QY;rw[hCm,E.job];by_cases k2:V.kind=2
  ·rw[iG k2,iJ rfl,iJ k2]
  ·rw[iV k2,iQ od,iQ k2]
theorem qVP:∀(bs:List Int) (V:VM) (k:Nat),(jR V bs k).1.2=(xV V bs).1∧(jR V bs k).2=(xV V bs).2:=by
 intro bs
 induction bs with
 |nil=>intro V k;exact⟨rfl,rfl⟩
 |cons b r ih=>
  intro V k;unfold jR xV;by_cases h:(zj V b).1=0
  ·rw[iJ h,iJ h];exact ih _ _
  ·rw[iQ h,iQ h];exact⟨rfl,rfl⟩
structure TJ (S:zv) (js:List (List qR)) (k:Nat) (t:qo) (M:jC):Prop where
  set:t.set=S
  me:t.me=0
  jobs:t.jobs=js
  job:t.job=k
  sweep:t.sweep=false
  giving:t.giving=[]
  rests:t.rests=[]
  alarm:t.alarm=false
  now:(k=js.length∧t.state=6)∨(k<js.length∧t.state=1∧t.now=some (yY 0 S ((js[k]?).getD [])))
  res:t.results.length=k
  calm:xv S M 0
  sl:M.s=[0]
  w0:M.w[0]? =some 0
  n:M.n≤S.start+2*k
theorem GT {S:zv} {js:List (List qR)} {k:Nat} {t:qo} {M:jC} (h1:t.set=S) (h2:t.me=0) (h3:t.jobs=js) (h4:t.job=k) (hk:k<js.length) (h5:t.rests=[]) (h6:t.results.length=k+1) (C:xv S M 0) (hs:M.s=[0]) (hw:M.w[0]? =some 0) (hn:M.n≤S.start+2*(k+1:Nat)) :
  TJ S js (k+1) (jc t) M:=by
 subst h1 h3;have e:(t.job+1=(t.jobs.length:Int))↔k+1=t.jobs.length:=by rw[h4];omega
 unfold jc zV;dsimp only;by_cases c:k+1=t.jobs.length
 ·rw[iJ (e.2 c)];exact⟨rfl,h2,rfl,by rw[h4];rfl,rfl,rfl,h5,rfl,.inl ⟨c,rfl⟩,h6,C,hs,hw,hn⟩
 ·rw[iQ (λh=>c (e.1 h)),iQ od];refine⟨rfl,h2,rfl,by rw[h4];rfl,rfl,rfl,h5,rfl,.inr ⟨by omega,rfl,?_⟩,h6,C,hs,hw,hn⟩;rw[h2,h4,show((k:Int)+1).toNat=k+1 by omega]
theorem qK8 {m:Nat} {x y:jG} {M N:jC} (s:Stp m x M y N):zm x→XQ x→Zi M→zm y∧XQ y∧Zi N:=by
 induction s with
 |nil=>exact λa b c=>⟨a,b,c⟩
 |cons hn _ ih=>intro O W Q;have r:=Zk Q (Ox O W hn);exact ih (Kh O r.1) (OQ O W r.1) r.2
theorem jJD {S:zv} {M:jC} (C:xv S M 0) (hs:M.s=[0]):Zi M:=by
 have hn:=C.n;refine⟨C.wd,⟨by omega,by omega⟩,λz hz=>?_⟩;rw[hs]at hz;rcases List.mem_cons.1 hz with rfl |h
 ·exact⟨Int.le_refl _,by decide⟩
 ·cases h
theorem qyc:∀(cs:List Cl) (w:List Int),w[0]? =some 0→(∀c∈cs,1≤c.1)→(cs.foldl (λw c=>w.set c.1.toNat c.2) w)[0]? =some 0:=by
 intro cs
 induction cs with
 |nil=>intro w h _;exact h
 |cons c r ih=>intro w h hc;have h1:=hc c (iK ..);rw[List.foldl_cons];exact ih _ (by rw[List.getElem?_set_ne omQ];exact h) λd hd=>hc d (iX _ hd)
theorem qZp {S:zv} {js:List (List qR)} {k i:Nat} {t:qo} {M:jC} (O:yX S) (hSS:jq S=S) (hb:S.start≤1000) (hj:∀l∈js,(zb l).2=0∧Quiet l) (T:TJ S js k t M) (hk:k<js.length) (hk6:js.length≤6) :
  ∃(m:Nat) (y:jG) (N:jC) (b:Int),m≤3*(w7 S.words S.writes).sz+431∧UA i (m+1) t M (zk { t with now:=some y,born:=b } y 0 ((i+m:Nat)+1)) N∧zm y∧qWi y.job=false∧
   Na S M 0 (((ze js[k] (jj S.fuel) M.w S.writes).kind,(ze js[k] (jj S.fuel) M.w S.writes).err),.prog ⟨js[k],(ze js[k] (jj S.fuel) M.w S.writes).s,if(ze js[k] (jj S.fuel) M.w S.writes).kind=1 then 0 else(ze js[k] (jj S.fuel) M.w S.writes).kind,(ze js[k] (jj S.fuel) M.w S.writes).err,(ze js[k] (jj S.fuel) M.w S.writes).left⟩,(ze js[k] (jj S.fuel) M.w S.writes).v) y N:=by
 have hl:=hj _ (List.getElem_mem hk);have C:=T.calm;have hTn:=T.n;have hf:jj S.fuel≤400:=by unfold jj;omega
 have hj0:JobOk True (w7 S.words S.writes) (.prog ⟨js[k],J7,0,0,jj S.fuel⟩):=by have G:=YA S.words S.writes;exact⟨gu hl.1,hl.2,(wY (l:=js[k]) rfl G).gb,λ_=>⟨wY rfl G,rfl,rfl,by show(0:Nat)+jj S.fuel<9000;omega⟩,hf⟩
 have hjW:JobOk True (jV M.w S.writes) (.prog ⟨js[k],J7,0,0,jj S.fuel⟩):=by have G:=gL (m:=S.writes) C.wd;exact⟨gu hl.1,hl.2,(wY (l:=js[k]) rfl G).gb,λ_=>⟨wY rfl G,rfl,rfl,by show frS (jV M.w S.writes).lv+jj S.fuel<9000;rw[w6];omega⟩,hf⟩
 obtain⟨m,y,N,hm,st,E,_⟩:=Qd O C omQ hj0 hjW;have eA:yY 0 S js[k]=GK 0 S (.prog ⟨js[k],J7,0,0,jj S.fuel⟩):=by unfold yY;rw[hSS]
 have hOy:=(qK8 st (by rw[← eA];exact GY O.start.1 hl.1 hl.2) ZN (jJD C T.sl)).1;have hkd:=E.kind;have hE:jS y≠0:=by unfold jS;rw[iQ (λh=>h E.st),E.fin];omega
 obtain⟨m,rfl⟩:∃m',m=m'+1:=by
  cases m with
  |zero=>cases st;exact absurd E.st (show¬(0:Int)=8 by decide)
  |succ m=>exact⟨m,rfl⟩
 have hnow:t.state=1∧t.now=some (yY 0 S js[k]):=by
  rcases T.now with⟨h,_⟩ |⟨_,h1,h2⟩
  ·omega
  ·rw[iW hk]at h2;exact⟨h1,h2⟩
 obtain⟨b,q⟩:=qJ7 m st hE hnow.1 (by rw[hnow.2,eA]);refine⟨m,y,N,b,by omega,q,hOy,by rw[E.job];rfl,E⟩
end
section
def J3 (S:zv) (l:List qR) (w:List Int):List Int :=
 jF (jF w (zC (ze l (jj S.fuel) w S.writes))) (jZ (xV (jV (jF w (zC (ze l (jj S.fuel) w S.writes))) S.writes) (je (ze l (jj S.fuel) w S.writes))).2.lv)
theorem qkI (l:List GN):(l.filter λr=>q8 [0] r.2)=l∧(l.filter λr=>!q8 [0] r.2)=[]:=by
 have h:∀z:Int,q8 [0] z=true:=λz=>by unfold q8;simp
 constructor
 ·exact List.filter_eq_self.2 λr _=>h r.2
 ·exact List.filter_eq_nil_iff.2 λr _=>by rw[h];decide
theorem qVe {S:zv} {M N:jC} {R:(Int×Int)×Jw×VM} {y:jG} (O:yX S) (C:xv S M 0) (hs:M.s=[0]) (h0:M.w[0]? =some 0) (E:Na S M 0 R y N) (I:InV R.2.2) (hsz:R.2.2.sz=szZ M.w.length) :
  N.w=jF M.w (if R.1.1=2 then jZ R.2.2.lv else[])∧N.s=[0]∧N.w[0]? =some 0∧N.n≤M.n+1:=by
 have hl:=C.w;have hw:=O.words;have hcin:∀c∈jZ R.2.2.lv,1≤c.1∧c.1<M.w.length:=λc hc=>by
  obtain⟨x,hx,h1⟩:=J2 hc;have:=I x hx c h1;rw[hsz]at this;unfold szZ at this;omega
 refine⟨?_,by rw[E.s,hs];rfl,?_,?_⟩
 ·rw[E.w];by_cases k2:R.1.1=2
  ·rw[iJ k2,iJ k2,QS h0 omQ omQ hcin]
  ·rw[iQ k2,iQ k2,QS h0 omQ omQ (λc h=>by cases h)];rfl
 ·rw[E.w]
  split
  ·exact qyc _ _ h0 λc hc=>(hcin c hc).1
  ·exact h0
 ·rw[E.n]
  split<;>omega
theorem Ni {w:List Int} (h0:w[0]? =some 0) (h1:32≤w.length) (h2:w.length≤256):jF w []=w:=by rw[QS h0 h1 h2 (λc h=>by cases h)];rfl
theorem qq0 {S:zv} {js:List (List qR)} {k i:Nat} {t:qo} {M:jC} (O:yX S) (hSS:jq S=S) (hth:S.threads=1) (hb:S.start≤1000) (hj:∀l∈js,(zb l).2=0∧Quiet l) (T:TJ S js k t M) (hk:k<js.length) (hk6:js.length≤6)
  {V:RM} (hV:ze js[k] (jj S.fuel) M.w S.writes=V) :
  ∃(m:Nat) (t':qo) (M':jC),m≤6*(w7 S.words S.writes).sz+864∧UA i m t M t' M'∧(V.kind=3→t'.state=4∧t'.results=t.results)∧
   (V.kind≠3→(∃z,t'.results=t.results++[⟨V.kind,V.err,QY V,z⟩])∧((xV (jV (jF M.w (zC V)) S.writes) (je V)).1=0→TJ S js (k+1) t' M'∧M'.w=J3 S js[k] M.w))∧(∀z∈jF M.w (zC V),0≤z∧z<18446744073709551616)∧(je V).length≤9000:=by
 have hl:=hj _ (List.getElem_mem hk);have C:=T.calm;have hTn:=T.n;have hww:=O.words;obtain⟨m,y,N,b,hm,q,Oy,hsw,E⟩:=qZp O hSS hb hj T hk hk6;have herr:(ze js[k] (jj S.fuel) M.w S.writes).kind≠4→(ze js[k] (jj S.fuel) M.w S.writes).err=0:=qJF _
 have hins:InV (ze js[k] (jj S.fuel) M.w S.writes).v:=InV.run _ (λx hx c hc=>by
  rcases List.mem_cons.1 hx with rfl |hx
  ·cases hc
  ·cases hx)
 have hvsz:(ze js[k] (jj S.fuel) M.w S.writes).v.sz=szZ M.w.length:=(Yu (gu hl.1) hl.2 (jj S.fuel) (Yj C.wd) (by rw[w6];unfold jj;omega)).1.sz;have hA:J3 S js[k] M.w=jF (jF M.w (zC V)) (jZ (xV (jV (jF M.w (zC V)) S.writes) (je V)).2.lv):=by unfold J3;rw[hV]
 rw[hA];rw[hV]at E herr hins hvsz;obtain⟨hE,hErr,hF,hS⟩:=Mg E herr;obtain⟨w1,w2,w3,w4⟩:=qVe O C T.sl T.w0 E hins hvsz;have w1:N.w=jF M.w (zC V):=w1;have hkd:V.kind=2∨V.kind=3∨V.kind=4:=E.kind;have hlN:=E.calm.w;have hzz:∀z∈jF M.w (zC V),0≤z∧z<18446744073709551616:=by rw[← w1];exact E.calm.wd
 have hf9:(je V).length≤9000:=by rw[← hF];exact wK Oy hsw
 by_cases k3:V.kind=3
 ·refine⟨m+1,_,N,by omega,q,λ_=>?_,λh=>absurd k3 h,hzz,hf9⟩;unfold zk;rw[iQ omQ,iJ omQ,iQ (by rw[T.alarm];decide)];exact⟨rfl,rfl⟩
 ·let u:qo:={ t with now:=some y,born:=b,past:=t.past++[jb { t with now:=some y,born:=b } y ((i+m:Nat)+1)],tries:=t.tries+1,results:=t.results++[⟨V.kind,V.err,QY V,y.stamp⟩],rests:=(je V).map λb=>(b,y.stamp) }
  have e1:zk { t with now:=some y,born:=b } y 0 ((i+m:Nat)+1)=yj u:=by unfold zk;rw[iQ omQ,iQ omQ,iQ (by rw[T.sweep];decide),hE,hErr,hF,hS,T.rests,List.nil_append];rfl
  rw[e1]at q;have hres:u.results.length=k+1:=by rw[List.length_append,T.res];rfl
  by_cases hfr:je V=[]
  ·have e2:yj u=jc u:=by
    unfold yj;rw[iJ (by show(je V).map _=[];rw[hfr];rfl)]
   rw[e2]at q;have tj:=GT (t:=u) T.set T.me T.jobs T.job hk (by show(je V).map _=[];rw[hfr];rfl) hres E.calm w2 w3 omQ;refine⟨m+1,_,N,by omega,q,λh=>absurd h k3,λ_=>⟨⟨y.stamp,(xq u).res⟩,λ_=>⟨tj,?_⟩⟩,hzz,hf9⟩;rw[hfr,w1];rw[w1]at hlN w3;exact(Ni w3 omQ omQ).symm
  ·have hfl:(je V).length≤9000:=by rw[← hF];exact wK Oy hsw
   have hpf:=qkI ((je V).map λb=>(b,y.stamp));have hne:(je V).map (λb=>(b,y.stamp))≠[]:=λh=>hfr (List.map_eq_nil_iff.1 h);have hfst:((je V).map λb=>(b,y.stamp)).map (·.1)=je V:=by rw[List.map_map];exact List.map_id _
   let v:qo:={ u with me:=0,set:=S,slots:=[0],rests:=[],sweep:=true,giving:=(je V).map (λb=>(b,y.stamp)),tries:=0,conf:=0,born:=0,alarm:=false,state:=1,now:=some (yr 0 S (je V)) }
   have e2:yj u=v:=by unfold yj;rw[iQ hne];unfold xT;rw[iJ (by show(0:Int)=t.me;rw[T.me])];unfold xJ;rw[iQ (by show¬(1:Int)<t.set.threads;rw[T.set,hth];decide)];rw[show u.rests=(je V).map (λb=>(b,y.stamp))from rfl,show([]:List Int)++[0]=[0]from rfl,hpf.1,hpf.2,iQ hne];unfold zV;rw[iQ (by rw[T.job,T.jobs];omega)];rw[iJ rfl,hfst,show u.me=0 from T.me,show u.set=S from T.set]
   rw[e2]at q;have hwd:=E.calm.wd;have GW:=gL (m:=S.writes) hwd;obtain⟨m2,y2,N2,hm2,st2,E2,_⟩:=Qd O E.calm omQ (j:=.sweep (je V) 0) ⟨Nat.zero_le _,by omega⟩ ⟨Nat.zero_le _,by omega⟩
   have hI2:InV (jE (.sweep (je V) 0) (jV N.w S.writes)).2.2:=U3 (λx hx c hc=>by
    rcases List.mem_cons.1 hx with rfl |hx
    ·cases hc
    ·cases hx)
   have hg:=qVP (je V) (jV N.w S.writes) 0;have hk2:=Kv (je V) 0 GW;have hsz2:(jE (.sweep (je V) 0) (jV N.w S.writes)).2.2.sz=szZ N.w.length:=hk2.2.1.sz;obtain⟨x1,x2,x3,x4⟩:=qVe O E.calm w2 w3 E2 hI2 hsz2;have hkd2:=E2.kind;have hR:jE (.sweep (je V) 0) (jV N.w S.writes)=(if(xV (jV N.w S.writes) (je V)).1=11 then(1,0)else if(xV (jV N.w S.writes) (je V)).1=0 then(2,0)else(4,(xV (jV N.w S.writes) (je V)).1),.sweep (je V) (jR (jV N.w S.writes) (je V) 0).1.1,(xV (jV N.w S.writes) (je V)).2):=by rw[← hg.1,← hg.2];rfl
   have hE2:jS y2=(jE (.sweep (je V) 0) (jV N.w S.writes)).1.1:=by unfold jS;rw[iQ (λh=>h E2.st)];exact E2.fin
   have hk24:jS y2=(if(xV (jV N.w S.writes) (je V)).1=0 then 2 else 4):=by
    rw[hE2];rw[hR]at hkd2 ⊢;dsimp only at hkd2 ⊢
    split at hkd2
    ·omega
    ·rename_i h11;rw[iQ h11]
     split<;>rfl
   obtain⟨m2,rfl⟩:∃m',m2=m'+1:=by
    cases m2 with
    |zero=>cases st2;exact absurd E2.st (show¬(0:Int)=8 by decide)
    |succ m=>exact⟨m,rfl⟩
   obtain⟨b2,q2⟩:=qJ7 m2 (t:=v) st2 (by rw[hk24];split<;>decide) rfl (by show some (yr 0 S (je V))=_;unfold yr;rw[hSS]);have qq:=q.trans q2;have e3:zk { v with now:=some y2,born:=b2 } y2 0 ((i+(m+1)+m2:Nat)+1)=vZ { v with now:=some y2,born:=b2,past:=v.past++[jb { v with now:=some y2,born:=b2 } y2 ((i+(m+1)+m2:Nat)+1)],tries:=0+1 } (jS y2):=by unfold zk;rw[iQ (by rw[hk24];split<;>decide),iQ (by rw[hk24];split<;>decide),iJ rfl]
   rw[e3]at qq;refine⟨_,_,N2,by omega,qq,λh=>absurd h k3,λ_=>⟨⟨y.stamp,(V8 _ _).res⟩,λh0=>?_⟩,hzz,hf9⟩;rw[← w1]at h0;rw[hk24,iJ h0];unfold vZ;rw[iQ od];refine⟨GT rfl rfl T.jobs T.job hk rfl hres E2.calm x2 x3 omQ,?_⟩;rw[x1,hR,w1];rw[← w1,h0];rfl
end
section
inductive KW (d p:Nat→Int):Nat→Nat→qo→jC→qo→jC→Prop
  |nil {i:Nat} {t:qo} {M:jC}:KW d p i 0 t M t M
  |cons {i m:Nat} {t u:qo} {M N:jC} {o:OpM} (hn:xL t=some o) (r:KW d p (i+1) m (zB t (jw M o).1 (d i) (p i)) (jw M o).2 u N):KW d p i (m+1) t M u N
variable {d p:Nat→Int}
theorem KW.trans {i m k:Nat} {t u v:qo} {M N P:jC} (s:KW d p i m t M u N):KW d p (i+m) k u N v P→KW d p i (m+k) t M v P:=by
 induction s with
 |nil=>intro r;rw[Nat.zero_add];exact r
 |cons hn r ih=>rename_i i m t u M N o;intro q;rw[show m+1+k=(m+k)+1 by omega];exact .cons hn (ih (by rw[show i+1+m=i+(m+1) by omega];exact q))
theorem Nk:∀(m:Nat) {i:Nat} {x y:jG} {M N:jC} {t:qo},Stp (m+1) x M y N→jS y≠0→t.state=1→t.now=some x→
  ∃b,KW d p i (m+1) t M (zk { t with now:=some y,born:=b } y (d (i+m)) (p (i+m))) N:=by
 intro m
 induction m with
 |zero=>
  intro i x y M N t s hy h1 hx;cases s with
  |cons hn r=>rename_i o;cases r;refine⟨if(jU x (jw M o).1).begun=true∧x.begun=false then p i else t.born,.cons ((YY h1 hx).trans hn) ?_⟩;rw[YE h1 hx];unfold gr;rw[iQ hy];exact .nil
 |succ m ih=>
  intro i x y M N t s hy h1 hx;cases s with
  |cons hn r=>
   rename_i o;have r0:=r;cases r with
   |cons hn2 r2=>
    have hg:=Vw hn2;have e:zB t (jw M o).1 (d i) (p i)={ t with now:=some (jU x (jw M o).1),born:=if(jU x (jw M o).1).begun=true∧x.begun=false then p i else t.born }:=by rw[YE h1 hx];unfold gr;rw[iJ hg]
    obtain⟨b,q⟩:=ih (t:={ t with now:=some (jU x (jw M o).1),born:=if(jU x (jw M o).1).begun=true∧x.begun=false then p i else t.born }) r0 hy h1 rfl;refine⟨b,.cons ((YY h1 hx).trans hn) ?_⟩;rw[e];rw[show i+1+m=i+(m+1) by omega]at q;exact q
def Zeros (l:List Int):Prop:=∀z∈l,z=0
theorem Zeros.num {l:List Int} (h:Zeros l) (i:Int):qM l i=0:=by
 unfold qM;cases hx:l[i.toNat]? with
 |none=>rfl
 |some z=>exact h z (List.mem_of_getElem? hx)
theorem Zeros.set {l:List Int} (h:Zeros l) {i:Nat}:Zeros (l.set i 0):=λz hz=>by
 rcases List.mem_or_eq_of_mem_set hz with h1 |h1
 ·exact h z h1
 ·exact h1
theorem Zeros.app {l:List Int} (h:Zeros l):Zeros (l++[0]):=λz hz=>by
 rcases List.mem_append.1 hz with h1 |h1
 ·exact h z h1
 ·exact List.mem_singleton.1 h1
structure TQ (S:zv) (js:List (List qR)) (me B:Int) (k:Nat) (t:qo) (M:jC):Prop where
  set:t.set=S
  mine:t.me=me
  jobs:t.jobs=js
  job:t.job=k
  sweep:t.sweep=false
  giving:t.giving=[]
  rests:t.rests.length≤9000*k
  now:(k=js.length∧t.state=6∧t.now=none)∨(k<js.length∧t.state=1∧t.now=some (yY me S ((js[k]?).getD [])))
  res:t.results.length=k
  calm:xv S M me
  sl:Zeros M.s
  w0:M.w[0]? =some 0
  n:M.n≤B+2*k
theorem JN {S:zv} {js:List (List qR)} {me B:Int} {k:Nat} {t:qo} {M:jC} (h1:t.set=S) (h2:t.me=me) (h3:t.jobs=js) (h4:t.job=k) (hk:k<js.length) (h5:t.rests.length≤9000*(k+1)) (h6:t.results.length=k+1) (C:xv S M me) (hs:Zeros M.s) (hw:M.w[0]? =some 0) (hn:M.n≤B+2*(k+1:Nat)) :
  TQ S js me B (k+1) (jc t) M∧(jc t).rests=t.rests:=by
 subst h1 h2 h3;have e:(t.job+1=(t.jobs.length:Int))↔k+1=t.jobs.length:=by rw[h4];omega
 unfold jc zV;dsimp only;by_cases c:k+1=t.jobs.length
 ·rw[iJ (e.2 c)];exact⟨⟨rfl,rfl,rfl,by rw[h4];rfl,rfl,rfl,h5,.inl ⟨c,rfl,rfl⟩,h6,C,hs,hw,hn⟩,rfl⟩
 ·rw[iQ (λh=>c (e.1 h)),iQ od];refine⟨⟨rfl,rfl,rfl,by rw[h4];rfl,rfl,rfl,h5,.inr ⟨by omega,rfl,?_⟩,h6,C,hs,hw,hn⟩,rfl⟩;rw[h4,show((k:Int)+1).toNat=k+1 by omega]
theorem qvE {S:zv} {M:jC} {me:Int} (C:xv S M me) (hs:Zeros M.s):Zi M:=by have hn:=C.n;refine⟨C.wd,⟨by omega,by omega⟩,λz hz=>?_⟩;rw[hs z hz];exact⟨Int.le_refl _,by decide⟩
theorem qQM {S:zv} {js:List (List qR)} {me B:Int} {k i:Nat} {t:qo} {M:jC} (O:yX S) (hSS:jq S=S) (hb:B≤1000000) (hj:∀l∈js,(zb l).2=0∧Quiet l) (T:TQ S js me B k t M) (hk:k<js.length) (hk6:js.length≤6) :
  ∃(m:Nat) (y:jG) (N:jC) (b:Int),m≤3*(w7 S.words S.writes).sz+431∧KW d p i (m+1) t M (zk { t with now:=some y,born:=b } y (d (i+m)) (p (i+m))) N∧zm y∧qWi y.job=false∧
   Na S M me (((ze js[k] (jj S.fuel) M.w S.writes).kind,(ze js[k] (jj S.fuel) M.w S.writes).err),.prog ⟨js[k],(ze js[k] (jj S.fuel) M.w S.writes).s,if(ze js[k] (jj S.fuel) M.w S.writes).kind=1 then 0 else(ze js[k] (jj S.fuel) M.w S.writes).kind,(ze js[k] (jj S.fuel) M.w S.writes).err,(ze js[k] (jj S.fuel) M.w S.writes).left⟩,(ze js[k] (jj S.fuel) M.w S.writes).v) y N:=by
 have hl:=hj _ (List.getElem_mem hk);have C:=T.calm;have hTn:=T.n;have hf:jj S.fuel≤400:=by unfold jj;omega
 have hj0:JobOk True (w7 S.words S.writes) (.prog ⟨js[k],J7,0,0,jj S.fuel⟩):=by have G:=YA S.words S.writes;exact⟨gu hl.1,hl.2,(wY (l:=js[k]) rfl G).gb,λ_=>⟨wY rfl G,rfl,rfl,by show(0:Nat)+jj S.fuel<9000;omega⟩,hf⟩
 have hjW:JobOk True (jV M.w S.writes) (.prog ⟨js[k],J7,0,0,jj S.fuel⟩):=by have G:=gL (m:=S.writes) C.wd;exact⟨gu hl.1,hl.2,(wY (l:=js[k]) rfl G).gb,λ_=>⟨wY rfl G,rfl,rfl,by show frS (jV M.w S.writes).lv+jj S.fuel<9000;rw[w6];omega⟩,hf⟩
 obtain⟨m,y,N,hm,st,E,_⟩:=Qd O C omQ hj0 hjW;have eA:yY me S js[k]=GK me S (.prog ⟨js[k],J7,0,0,jj S.fuel⟩):=by unfold yY;rw[hSS]
 have hOy:=(qK8 st (by rw[← eA];exact GY O.start.1 hl.1 hl.2) ZN (qvE C T.sl)).1;have hkd:=E.kind;have hE:jS y≠0:=by unfold jS;rw[iQ (λh=>h E.st),E.fin];omega
 obtain⟨m,rfl⟩:∃m',m=m'+1:=by
  cases m with
  |zero=>cases st;exact absurd E.st (show¬(0:Int)=8 by decide)
  |succ m=>exact⟨m,rfl⟩
 have hnow:t.state=1∧t.now=some (yY me S js[k]):=by
  rcases T.now with⟨h,_⟩ |⟨_,h1,h2⟩
  ·omega
  ·rw[iW hk]at h2;exact⟨h1,h2⟩
 obtain⟨b,q⟩:=Nk m st hE hnow.1 (by rw[hnow.2,eA]);refine⟨m,y,N,b,by omega,q,hOy,by rw[E.job];rfl,E⟩
theorem qkd {sl:List Int} (h:Zeros sl) (l:List GN):(l.filter λr=>q8 sl r.2)=l∧(l.filter λr=>!q8 sl r.2)=[]:=by
 have h:∀z:Int,q8 sl z=true:=λz=>by
  unfold q8;rw[List.all_eq_true];intro x hx;rw[h x hx];simp
 constructor
 ·exact List.filter_eq_self.2 λr _=>h r.2
 ·exact List.filter_eq_nil_iff.2 λr _=>by rw[h];decide
theorem jQh {S:zv} {me:Int}:∀(n:Nat) {u:qo} {M:jC} {i:Nat},u.set=S→u.me=me→u.state=5→Zeros u.slots→S.threads≤u.slots.length+n→xv S M me→Zeros M.s→
  ∃(m:Nat) (sl:List Int),m≤n∧KW d p i m (xT u) M (xJ { u with slots:=sl }) (bump M m)∧Zeros sl∧S.threads≤sl.length:=by
 intro n
 induction n with
 |zero=>
  intro u M i h1 h2 h5 hz hn C hs;have hm:=C.me;refine⟨0,u.slots,Nat.le_refl _,?_,hz,by omega⟩;have e:xT u=xJ u:=by unfold xT;rw[iQ (by rw[h2];omega)]
  have e2:bump M ((0:Nat):Int)=M:=by unfold bump;show({ M with cnt:=M.cnt+0 }:jC)=M;rw[Int.add_zero]
  rw[e,e2];exact .nil
 |succ n ih=>
  intro u M i h1 h2 h5 hz hn C hs;have key:∀v:qo,v.set=S→v.me=me→v.state=5→Zeros v.slots→S.threads≤v.slots.length+(n+1)→(∀sl,({ v with slots:=sl }:qo)={ u with slots:=sl })→
    ∃(m:Nat) (sl:List Int),m≤n+1∧KW d p i m (xJ v) M (xJ { u with slots:=sl }) (bump M m)∧Zeros sl∧S.threads≤sl.length:=λv v1 v2 v5 vz vn ve=>by
   by_cases hd:S.threads≤v.slots.length
   ·refine⟨0,v.slots,Nat.zero_le _,?_,vz,hd⟩;have e2:bump M ((0:Nat):Int)=M:=by unfold bump;show({ M with cnt:=M.cnt+0 }:jC)=M;rw[Int.add_zero]
    rw[e2,← ve];exact .nil
   ·have e:xJ v=v:=by unfold xJ;rw[iJ (by rw[v1];omega)]
    have hnx:xL v=some (op0 8 v.slots.length 0):=by unfold xL;rw[iQ omQ,iQ omQ,iJ v5]
    have hdo:jw M (op0 8 v.slots.length 0)=(⟨0,lk0,false,0⟩,bump M 1):=by
     have hl:=C.s;have e:Q6 M (op0 8 v.slots.length 0)=(⟨0,lk0,false,0⟩,M):=by unfold Q6;rw[iQ (by show¬((v.slots.length:Int)<0∨(M.s.length:Int)≤(v.slots.length:Int));omega),iJ (show(op0 8 (v.slots.length:Int) 0).kind=8 from rfl),show qM M.s (op0 8 (v.slots.length:Int) 0).at_=0 from hs.num _]
     have e0:jw M (op0 8 v.slots.length 0)=if(Q6 M (op0 8 v.slots.length 0)).1.err=0 then((Q6 M (op0 8 v.slots.length 0)).1,{ (Q6 M (op0 8 v.slots.length 0)).2 with cnt:=(Q6 M (op0 8 v.slots.length 0)).2.cnt+1 })else Q6 M (op0 8 v.slots.length 0):=rfl
     rw[e0,e];rfl
    have htl:zB v (⟨0,lk0,false,0⟩:AnM) (d i) (p i)=xT { v with slots:=v.slots++[0] }:=by unfold zB;rw[iQ omQ,iQ omQ,iJ v5];rfl
    obtain⟨m,sl,hml,q,qz,ql⟩:=ih (u:={ v with slots:=v.slots++[0] }) v1 v2 v5 vz.app (by rw[List.length_append,List.length_singleton];omega) (C.bump 1) hs;refine⟨m+1,sl,by omega,?_,qz,ql⟩;rw[e,← ve];refine .cons hnx ?_;rw[hdo];rw[htl];rw[wP,show(1:Int)+(m:Int)=((m+1:Nat):Int) by omega]at q;exact q
  unfold xT
  split
  ·exact key { u with slots:=u.slots++[0] } h1 h2 h5 hz.app (by rw[List.length_append,List.length_singleton];omega) λ_=>rfl
  ·exact key u h1 h2 h5 hz omQ λ_=>rfl
theorem qQo {S:zv} {M N:jC} {me:Int} {R:(Int×Int)×Jw×VM} {y:jG} (O:yX S) (C:xv S M me) (hs:Zeros M.s) (h0:M.w[0]? =some 0) (E:Na S M me R y N) (I:InV R.2.2) (hsz:R.2.2.sz=szZ M.w.length) :
  N.w=jF M.w (if R.1.1=2 then jZ R.2.2.lv else[])∧Zeros N.s∧N.w[0]? =some 0∧N.n≤M.n+1:=by
 have hl:=C.w;have hw:=O.words;have hcin:∀c∈jZ R.2.2.lv,1≤c.1∧c.1<M.w.length:=λc hc=>by
  obtain⟨x,hx,h1⟩:=J2 hc;have:=I x hx c h1;rw[hsz]at this;unfold szZ at this;omega
 refine⟨?_,by rw[E.s];exact hs.set,?_,?_⟩
 ·rw[E.w];by_cases k2:R.1.1=2
  ·rw[iJ k2,iJ k2,QS h0 omQ omQ hcin]
  ·rw[iQ k2,iQ k2,QS h0 omQ omQ (λc h=>by cases h)];rfl
 ·rw[E.w]
  split
  ·exact qyc _ _ h0 λc hc=>(hcin c hc).1
  ·exact h0
 ·rw[E.n]
  split<;>omega
theorem qGt {S:zv} {js:List (List qR)} {me B:Int} {k i:Nat} {t:qo} {M:jC} (O:yX S) (hSS:jq S=S) (hb:B≤1000000) (hj:∀l∈js,(zb l).2=0∧Quiet l) (T:TQ S js me B k t M) (hk:k<js.length) (hk6:js.length≤6)
  {V:RM} (hV:ze js[k] (jj S.fuel) M.w S.writes=V) (k3:V.kind≠3) :
  ∃(m:Nat) (t':qo) (M':jC),m≤6*(w7 S.words S.writes).sz+868∧KW d p i m t M t' M'∧TQ S js me B (k+1) t' M'∧(∃z,t'.results=t.results++[⟨V.kind,V.err,QY V,z⟩])∧
   (t.rests=[]→(xV (jV (jF M.w (zC V)) S.writes) (je V)).1=0→t'.rests=[]∧M'.w=J3 S js[k] M.w)∧(∀z∈jF M.w (zC V),0≤z∧z<18446744073709551616)∧(je V).length≤9000:=by
 have hl:=hj _ (List.getElem_mem hk);have C:=T.calm;have hTn:=T.n;have hww:=O.words;have h4:=O.threads;have hrl:=T.rests;obtain⟨m,y,N,b,hm,q,Oy,hsw,E⟩:=qQM O hSS hb hj T hk hk6;have herr:(ze js[k] (jj S.fuel) M.w S.writes).kind≠4→(ze js[k] (jj S.fuel) M.w S.writes).err=0:=qJF _
 have hins:InV (ze js[k] (jj S.fuel) M.w S.writes).v:=InV.run _ (λx hx c hc=>by
  rcases List.mem_cons.1 hx with rfl |hx
  ·cases hc
  ·cases hx)
 have hvsz:(ze js[k] (jj S.fuel) M.w S.writes).v.sz=szZ M.w.length:=(Yu (gu hl.1) hl.2 (jj S.fuel) (Yj C.wd) (by rw[w6];unfold jj;omega)).1.sz;have hA:J3 S js[k] M.w=jF (jF M.w (zC V)) (jZ (xV (jV (jF M.w (zC V)) S.writes) (je V)).2.lv):=by unfold J3;rw[hV]
 rw[hA];rw[hV]at E herr hins hvsz;obtain⟨hE,hErr,hF,hS⟩:=Mg E herr;obtain⟨w1,w2,w3,w4⟩:=qQo O C T.sl T.w0 E hins hvsz;have w1:N.w=jF M.w (zC V):=w1;have hkd:V.kind=2∨V.kind=3∨V.kind=4:=E.kind;have hlN:=E.calm.w;have hzz:∀z∈jF M.w (zC V),0≤z∧z<18446744073709551616:=by rw[← w1];exact E.calm.wd
 have hf9:(je V).length≤9000:=by rw[← hF];exact wK Oy hsw
 let u:qo:={ t with now:=some y,born:=b,past:=t.past++[jb { t with now:=some y,born:=b } y (p (i+m))],tries:=t.tries+1,results:=t.results++[⟨V.kind,V.err,QY V,y.stamp⟩],rests:=t.rests++(je V).map λb=>(b,y.stamp) }
 have e1:zk { t with now:=some y,born:=b } y (d (i+m)) (p (i+m))=yj u:=by unfold zk;rw[iQ omQ,iQ omQ,iQ (by rw[T.sweep];decide),hE,hErr,hF,hS]
 rw[e1]at q;have hres:u.results.length=k+1:=by rw[List.length_append,T.res];rfl
 have hur:u.rests.length≤9000*(k+1):=by rw[List.length_append,List.length_map];omega
 by_cases hfr:u.rests=[]
 ·have e2:yj u=jc u:=by
   unfold yj;rw[iJ hfr]
  rw[e2]at q;obtain⟨tq,hr⟩:=JN (B:=B) (t:=u) T.set T.mine T.jobs T.job hk hur hres E.calm w2 w3 omQ;refine⟨m+1,_,N,by omega,q,tq,⟨y.stamp,(xq u).res⟩,λ_ _=>⟨hr.trans hfr,?_⟩,hzz,hf9⟩;have hfn:je V=[]:=List.map_eq_nil_iff.1 (List.append_eq_nil_iff.1 hfr).2;rw[hfn,w1];rw[w1]at hlN w3;exact(Ni w3 omQ omQ).symm
 ·--it looks,then sweeps
  have e2:yj u=xT { u with state:=5,slots:=[] }:=by unfold yj;rw[iQ hfr]
  rw[e2]at q;obtain⟨m1,sl,hm1,q1,qz,ql⟩:=jQh S.threads.toNat (u:={ u with state:=5,slots:=[] }) T.set T.mine rfl (λz hz=>by cases hz) (by simp;omega) E.calm w2;have q01:=q.trans q1;have hpf:=qkd qz u.rests
  let v:qo:={ u with me:=me,set:=S,slots:=sl,rests:=[],sweep:=true,giving:=u.rests,tries:=0,conf:=0,born:=0,alarm:=false,state:=1,now:=some (yr me S (u.rests.map (·.1))) }
  have e3:xJ { u with state:=5,slots:=sl }=v:=by unfold xJ;rw[iQ (by show¬((sl.length:Int)<t.set.threads);rw[T.set];omega)];rw[hpf.1,hpf.2,iQ hfr];unfold zV;rw[iQ (by rw[T.job,T.jobs];omega)];rw[iJ rfl,show u.me=me from T.mine,show u.set=S from T.set]
  have e3':(xJ { ({ u with state:=5,slots:=[] }:qo)with slots:=sl })=v:=e3;rw[e3']at q01;have Cb:xv S (bump N m1) me:=E.calm.bump _;have hwd:=Cb.wd;have GW:=gL (m:=S.writes) hwd;have hbl:(u.rests.map (·.1)).length≤100000:=by rw[List.length_map];omega
  obtain⟨m2,y2,N2,hm2,st2,E2,_⟩:=Qd O Cb (by show N.n+1<_;omega) (j:=.sweep (u.rests.map (·.1)) 0) ⟨Nat.zero_le _,hbl⟩ ⟨Nat.zero_le _,hbl⟩
  have hI2:InV (jE (.sweep (u.rests.map (·.1)) 0) (jV N.w S.writes)).2.2:=U3 (λx hx c hc=>by
   rcases List.mem_cons.1 hx with rfl |hx
   ·cases hc
   ·cases hx)
  have hg:=qVP (u.rests.map (·.1)) (jV N.w S.writes) 0;have hk2:=Kv (u.rests.map (·.1)) 0 GW;have hsz2:(jE (.sweep (u.rests.map (·.1)) 0) (jV N.w S.writes)).2.2.sz=szZ N.w.length:=hk2.2.1.sz;obtain⟨x1,x2,x3,x4⟩:=qQo O Cb w2 w3 E2 hI2 hsz2;have x4:N2.n≤N.n+1:=x4;have hkd2:=E2.kind;have hR:jE (.sweep (u.rests.map (·.1)) 0) (jV N.w S.writes)=(if(xV (jV N.w S.writes) (u.rests.map (·.1))).1=11 then(1,0)else if(xV (jV N.w S.writes) (u.rests.map (·.1))).1=0 then(2,0)else(4,(xV (jV N.w S.writes) (u.rests.map (·.1))).1),.sweep (u.rests.map (·.1)) (jR (jV N.w S.writes) (u.rests.map (·.1)) 0).1.1,(xV (jV N.w S.writes) (u.rests.map (·.1))).2):=by rw[← hg.1,← hg.2];rfl
  have hE2:jS y2=(jE (.sweep (u.rests.map (·.1)) 0) (jV N.w S.writes)).1.1:=by unfold jS;rw[iQ (λh=>h E2.st)];exact E2.fin
  have hk24:jS y2=(if(xV (jV N.w S.writes) (u.rests.map (·.1))).1=0 then 2 else 4):=by
   rw[hE2];have hkd2:(jE (.sweep (u.rests.map (·.1)) 0) (jV N.w S.writes)).1.1=2∨(jE (.sweep (u.rests.map (·.1)) 0) (jV N.w S.writes)).1.1=3∨(jE (.sweep (u.rests.map (·.1)) 0) (jV N.w S.writes)).1.1=4:=hkd2;rw[hR]at hkd2 ⊢;dsimp only at hkd2 ⊢
   split at hkd2
   ·omega
   ·rename_i h11;rw[iQ h11]
    split<;>rfl
  obtain⟨m2,rfl⟩:∃m',m2=m'+1:=by
   cases m2 with
   |zero=>cases st2;exact absurd E2.st (show¬(0:Int)=8 by decide)
   |succ m=>exact⟨m,rfl⟩
  obtain⟨b2,q2⟩:=Nk m2 (t:=v) st2 (by rw[hk24];split<;>decide) rfl (by show some (yr me S _)=_;unfold yr;rw[hSS]);have qq:=q01.trans q2;have e4:zk { v with now:=some y2,born:=b2 } y2 (d (i+(m+1+m1)+m2)) (p (i+(m+1+m1)+m2))=vZ { v with now:=some y2,born:=b2,past:=v.past++[jb { v with now:=some y2,born:=b2 } y2 (p (i+(m+1+m1)+m2))],tries:=0+1 } (jS y2):=by unfold zk;rw[iQ (by rw[hk24];split<;>decide),iQ (by rw[hk24];split<;>decide),iJ rfl]
  rw[e4]at qq;have hm1:m1≤4:=by omega
  have hn2:N2.n≤B+2*(k+1:Nat):=by omega
  unfold vZ at qq;by_cases hg0:(xV (jV N.w S.writes) (u.rests.map (·.1))).1=0
  ·rw[hk24,iJ hg0,iQ od]at qq;obtain⟨tq,hr⟩:=JN (t:={ v with now:=some y2,born:=b2,past:=v.past++[jb { v with now:=some y2,born:=b2 } y2 (p (i+(m+1+m1)+m2))],tries:=0+1 }) rfl rfl T.jobs T.job hk (Nat.zero_le _) hres E2.calm x2 x3 hn2;refine⟨_,_,N2,by omega,qq,tq,⟨y.stamp,(xq _).res⟩,λh0 hok=>⟨hr,?_⟩,hzz,hf9⟩;have hub:u.rests.map (·.1)=je V:=by
    show(t.rests++(je V).map λb=>(b,y.stamp)).map (·.1)=_;rw[h0,List.nil_append,List.map_map];exact List.map_id _
   have x1:N2.w=jF N.w (if(jE (.sweep (u.rests.map (·.1)) 0) (jV N.w S.writes)).1.1=2 then jZ (jE (.sweep (u.rests.map (·.1)) 0) (jV N.w S.writes)).2.2.lv else[]):=x1;rw[x1,hR,hub,w1];rw[hok];rfl
  ·rw[hk24,iQ hg0,iJ rfl]at qq;obtain⟨tq,hr⟩:=JN (t:={ v with now:=some y2,born:=b2,past:=v.past++[jb { v with now:=some y2,born:=b2 } y2 (p (i+(m+1+m1)+m2))],tries:=0+1,rests:=[]++u.rests }) rfl rfl T.jobs T.job hk (by rw[List.nil_append];exact hur) hres E2.calm x2 x3 hn2;refine⟨_,_,N2,by omega,qq,tq,⟨y.stamp,(xq _).res⟩,λh0 hok=>absurd ?_ hg0,hzz,hf9⟩;have hub:u.rests.map (·.1)=je V:=by
    show(t.rests++(je V).map λb=>(b,y.stamp)).map (·.1)=_;rw[h0,List.nil_append,List.map_map];exact List.map_id _
   rw[hub,w1];exact hok
end
section
variable {d p:Nat→Int}
structure FactQ (S:zv) (l:List qR) (w:List Int):Prop where
  wd:∀z∈w,0≤z∧z<18446744073709551616
  len:(w.length:Int)=S.words
  w0:w[0]? =some 0
  az:∀z∈jF w (zC (ze l (jj S.fuel) w S.writes)),0≤z∧z<18446744073709551616
  fs:(je (ze l (jj S.fuel) w S.writes)).length≤9000
def qKi (S:zv) (wE:List Int):List (List qR)→List Int→List YR→Prop
 |[],w,rs=>rs=[]∧w=wE
 |l::js,w,rs=>FactQ S l w∧∃z r,rs=⟨(ze l (jj S.fuel) w S.writes).kind,(ze l (jj S.fuel) w S.writes).err,QY (ze l (jj S.fuel) w S.writes),z⟩::r∧
   ((xV (jV (jF w (zC (ze l (jj S.fuel) w S.writes))) S.writes) (je (ze l (jj S.fuel) w S.writes))).1=0→qKi S wE js (J3 S l w) r)
theorem run_q {S:zv} {js:List (List qR)} {me B:Int} (O:yX S) (hSS:jq S=S) (hb:B≤1000000) (hj:∀l∈js,(zb l).2=0∧Quiet l) (hc:∀l∈js,qX3 l) (hk6:js.length≤6) :
  ∀(n k i:Nat) {t:qo} {M:jC},js.length=k+n→TQ S js me B k t M→
  ∃(m:Nat) (t':qo) (M':jC) (rs:List YR),m≤n*(6*(w7 S.words S.writes).sz+868)∧KW d p i m t M t' M'∧TQ S js me B js.length t' M'∧t'.results=t.results++rs∧rs.length=n∧(t.rests=[]→qKi S M'.w (js.drop k) M.w rs):=by
 intro n
 induction n with
 |zero=>
  intro k i t M hn T;obtain rfl:k=js.length:=by omega
  exact⟨0,t,M,[],Nat.zero_le _,.nil,T,(List.append_nil _).symm,rfl,λ_=>by rw[List.drop_length];exact⟨rfl,rfl⟩⟩
 |succ n ih=>
  intro k i t M hn T;have hk:k<js.length:=by omega
  have hl:=hj _ (List.getElem_mem hk);have C:=T.calm;have k3:(ze js[k] (jj S.fuel) M.w S.writes).kind≠3:=by
   have hf:jj S.fuel≤400:=by unfold jj;omega
   exact qZM (gu hl.1) hl.2 (hc _ (List.getElem_mem hk)) _ (Yj C.wd) (by rw[w6];omega)
  obtain⟨m,t',M',hm,q,T',⟨z,hz⟩,hr,ha,hf⟩:=qGt O hSS hb hj T hk hk6 rfl k3;obtain⟨m2,t2,M2,rs,hm2,q2,T2,hr2,hl2,ht2⟩:=ih (k+1) (i+m) omQ T';refine⟨m+m2,t2,M2,_::rs,?_,q.trans q2,T2,by rw[hr2,hz,List.append_assoc];rfl,by rw[List.length_cons,hl2],λh0=>?_⟩
  ·rw[Nat.succ_mul];omega
  ·rw[List.drop_eq_getElem_cons hk];refine⟨⟨C.wd,C.w,T.w0,ha,hf⟩,z,rs,rfl,λhg=>?_⟩;obtain⟨a,b⟩:=hr h0 hg;have:=ht2 a;rw[b]at this;exact this
theorem qv5 {S:zv} {js:List (List qR)} {k:Nat} {B:Int} {M:jC} (O:yX S) (hk:(k:Int)<S.threads) (h6:js.length≤6) (C:xv S M k) (hsl:Zeros M.s) (hw:M.w[0]? =some 0) (hn:M.n≤B):TQ S js k B 0 (Xq k S js) M∧(Xq k S js).rests=[]∧(Xq k S js).results=[]:=by
 have ht:js.take 6=js:=List.take_of_length_le h6;have hh:=Qx O;have hm:max 0 (min (k:Int) (S.threads-1))=(k:Int):=by omega
 unfold Xq;rw[hh,hm,ht];unfold jc zV;dsimp only;by_cases c:js=[]
 ·subst c;rw[iJ (show(-1:Int)+1=(([]:List (List qR)).length:Int)from rfl)];exact⟨⟨rfl,rfl,rfl,rfl,rfl,rfl,Nat.zero_le _,.inl ⟨rfl,rfl,rfl⟩,rfl,C,hsl,hw,by omega⟩,rfl,rfl⟩
 ·have hl:0<js.length:=List.length_pos_iff.2 c;rw[iQ omQ,iQ od];exact⟨⟨rfl,rfl,rfl,rfl,rfl,rfl,Nat.zero_le _,.inr ⟨hl,rfl,rfl⟩,rfl,C,hsl,hw,by omega⟩,rfl,rfl⟩
def XO (m:wb) (t:Nat):Int:=match m.t[t]? with |some u=>u.state |none=>0
def Yi (t:Nat):Nat→Nat→wb→wb
 | 0,_,m=>m
 |n+1,i,m=>if XO m t=6 then m else Yi t n (i+1) (gG m t ((i%256:Nat):Int))
def qxU (u:qo):Prop:=∀s v,xN u s v=u
theorem Zj {ts:List qo} {i:Nat} {s v:Int} (h:∀(k:Nat) (u:qo),k≠i→ts[k]? =some u→qxU u):yO ts i s v=ts:=by
 unfold yO;refine List.ext_getElem? λk=>?_;rw[List.getElem?_mapIdx];cases hk:ts[k]? with
 |none=>rfl
 |some u=>
  show some (if k=i then u else xN u s v)=some u;by_cases e:k=i
  ·rw[iJ e]
  ·rw[iQ e,h k u e hk]
theorem qW0 {t:Nat}:∀(m i:Nat) {th th':qo} {M M':jC} {P:Int} (_:KW (λj=>((j%256:Nat):Int)) (λj=>P+j+1) i m th M th' M') (n:Nat) {mm:wb},mm.t[t]? =some th→mm.m=M→mm.picks=P+i→(∀(k:Nat) (u:qo),k≠t→mm.t[k]? =some u→qxU u)→
  ∃mm':wb,Yi t (m+n) i mm=Yi t n (i+m) mm'∧mm'.t=mm.t.set t th'∧mm'.m=M'∧mm'.s=mm.s∧mm'.picks=mm.picks+m:=by
 intro m
 induction m with
 |zero=>
  intro i th th' M M' P q n mm ht hm hp hd;cases q;refine⟨mm,by rw[Nat.zero_add];rfl,?_,hm,rfl,by omega⟩;refine List.ext_getElem? λk=>?_;by_cases e:t=k
  ·subst e;rw[List.getElem?_set_self (List.getElem?_eq_some_iff.1 ht).1,ht]
  ·rw[List.getElem?_set_ne e]
 |succ m ih=>
  intro i th th' M M' P q n mm ht hm hp hd;cases q with
  |cons hn r=>
   rename_i o;have htl:=(List.getElem?_eq_some_iff.1 ht).1;have h6:¬XO mm t=6:=by
    unfold XO;rw[ht];intro h;have h:th.state=6:=h;have:xL th=none:=by unfold xL;rw[iQ omQ,iQ omQ,iQ omQ]
    rw[this]at hn;cases hn
   have e1:gG mm t ((i%256:Nat):Int)={ mm with picks:=mm.picks+1,last:=o,did:=true,m:=(jw M o).2,t:=mm.t.set t (zB th (jw M o).1 ((i%256:Nat):Int) (P+i+1)) }:=by
    unfold gG;rw[ht];dsimp only;rw[hn];dsimp only;rw[hm,hp];have ew:∀s v,yO (mm.t.set t (zB th (jw M o).1 ((i%256:Nat):Int) (P+i+1))) t s v=mm.t.set t (zB th (jw M o).1 ((i%256:Nat):Int) (P+i+1)):=λs v=>
     Zj λk u hk hu=>by
      rw[List.getElem?_set_ne (λh=>hk h.symm)]at hu;exact hd k u hk hu
    rw[ew]
    split<;>rfl
   obtain⟨mm',g1,g2,g3,g4,g5⟩:=ih (i+1) r n (mm:=gG mm t ((i%256:Nat):Int)) (by rw[e1];exact List.getElem?_set_self htl) (by rw[e1]) (by rw[e1];show mm.picks+1=P+((i+1:Nat):Int);omega) (λk u hk hu=>by
    rw[e1]at hu;rw[List.getElem?_set_ne (λh=>hk h.symm)]at hu
    exact hd k u hk hu)
   refine⟨mm',?_,?_,g3,?_,?_⟩
   ·rw[show m+1+n=(m+n)+1 by omega];show(if XO mm t=6 then mm else Yi t (m+n) (i+1) (gG mm t ((i%256:Nat):Int)))=_;rw[iQ h6,g1,show i+1+m=i+(m+1) by omega]
   ·rw[g2,e1];rw[List.set_set]
   ·rw[g4,e1]
   ·rw[g5,e1];show mm.picks+1+(m:Int)=mm.picks+((m+1:Nat):Int);omega
structure MacQ (S:zv) (jss:List (List (List qR))) (t:Nat) (m:wb):Prop where
  s:m.s=S
  len:(m.t.length:Int)=S.threads
  past:∀(k:Nat) (u:qo),k<t→m.t[k]? =some u→u.state=6∧u.now=none
  fut:∀(k:Nat) (u:qo),t≤k→m.t[k]? =some u→u=Xq k S ((jss[k]?).getD [])
  calm:∀k:Nat,(k:Int)<S.threads→xv S m.m k
  sl:Zeros m.m.s
  w0:m.m.w[0]? =some 0
  n:m.m.n≤S.start+4*t
theorem qWE {S:zv} {k:Int} {js:List (List qR)}:qxU (Xq k S js):=λs v=>by
 have hk:∀t:qo,t.sweep=false→qxU (zV t):=λt ht s v=>by
  unfold zV
  split
  ·unfold xN;rfl
  ·unfold xN;simp[ht,yY,GK,vN]
 exact hk _ rfl s v
theorem xv.me' {S:zv} {M:jC} {a b:Int} (C:xv S M a) (h:0≤b∧b<S.threads):xv S M b:=⟨C.w,C.l,C.s,h,C.lk,C.n,C.wd⟩
theorem qZl {S:zv} {jss:List (List (List qR))} {t:Nat} {m:wb} {js:List (List qR)} (O:yX S) (hw80:S.words≤80) (hst:S.start≤1000) (Q:MacQ S jss t m) (ht:(t:Int)<S.threads) (hjs:(jss[t]?).getD []=js) (h2:js.length≤2) (hj:∀l∈js,(zb l).2=0∧Quiet l) (hc:∀l∈js,qX3 l) :
  MacQ S jss (t+1) (Yi t 9000 0 m)∧∃u,(Yi t 9000 0 m).t[t]? =some u∧u.state=6∧u.results.length=js.length∧qKi S (Yi t 9000 0 m).m.w js m.m.w u.results:=by
 have htl:t<m.t.length:=by have:=Q.len;omega
 have h4:=O.threads;obtain⟨T,hr0,hs0⟩:=qv5 (js:=js) O ht omQ (Q.calm t ht) Q.sl Q.w0 Q.n;have hth:m.t[t]? =some (Xq t S js):=by have:=Q.fut t _ (Nat.le_refl _) (iW htl);rw[hjs]at this;rw[iW htl,this]
 obtain⟨k,t',M',rs,hk,q,T',hr,hl,hq⟩:=run_q (p:=λj=>m.picks+j+1) O (Qx O) omQ hj hc omQ js.length 0 0 omQ T;rw[hs0,List.nil_append]at hr;have h6:t'.state=6∧t'.now=none:=by
  rcases T'.now with⟨_,a,b⟩ |⟨h,_⟩
  ·exact⟨a,b⟩
  ·omega
 have hsz:(w7 S.words S.writes).sz≤80:=by have:=O.words;show szZ S.words≤80;unfold szZ;omega
 have hk9:k≤9000:=by have:js.length*(6*(w7 S.words S.writes).sz+868)≤2*1348:=Nat.mul_le_mul h2 omQ;omega
 have deaf:∀(k:Nat) (u:qo),k≠t→m.t[k]? =some u→qxU u:=λk u hk hu=>by
  by_cases hkt:k<t
  ·obtain⟨_,hn⟩:=Q.past k u hkt hu;intro s v;unfold xN;rw[hn]
  ·rw[Q.fut k u omQ hu];exact qWE
 obtain⟨mm,e,g2,g3,g4,g5⟩:=qW0 k 0 q (9000-k) (mm:=m) hth rfl omQ deaf;have hget:mm.t[t]? =some t':=by rw[g2];exact List.getElem?_set_self htl
 have e2:Yi t 9000 0 m=mm:=by
  rw[show k+(9000-k)=9000 by omega]at e;rw[e];have hs:XO mm t=6:=by unfold XO;rw[hget];exact h6.1
  cases 9000-k with
  |zero=>rfl
  |succ n=>show(if XO mm t=6 then mm else _)=mm;rw[iJ hs]
 rw[e2];have hn':=T'.n;refine⟨⟨g4.trans Q.s,by rw[g2,List.length_set];exact Q.len,λk u hk hu=>?_,λk u hk hu=>?_,λk hk=>?_,by rw[g3];exact T'.sl,by rw[g3];exact T'.w0,by rw[g3];omega⟩,t',hget,h6.1,by rw[hr,hl],by rw[hr,g3];exact hq hr0⟩
 ·rw[g2]at hu;by_cases e:k=t
  ·subst e;rw[List.getElem?_set_self htl]at hu;cases hu;exact h6
  ·rw[List.getElem?_set_ne (λh=>e h.symm)]at hu;exact Q.past k u omQ hu
 ·rw[g2,List.getElem?_set_ne omQ]at hu;exact Q.fut k u omQ hu
 ·rw[g3];exact T'.calm.me' ⟨by omega,hk⟩
end
section
variable {g h:AH} {L R:List SP}
structure KSet (s:zv):Prop where
  words:32≤s.words∧s.words≤80
  stripes:1≤s.stripes∧s.stripes≤16
  wide:1≤s.wide∧s.wide≤4
  threads:s.threads=0
  start:0≤s.start∧s.start<1000
  spins:0≤s.spins∧s.spins≤4
  writes:4≤s.writes∧s.writes≤40
  fuel:20≤s.fuel∧s.fuel≤120
theorem KSet.held {s:zv} (K:KSet s):jq s={ s with threads:=1 }:=by obtain⟨a,b,c,d,e,f,g,i⟩:=K;obtain⟨w,st,wi,t,sta,sp,wr,fu⟩:=s;dsimp only at*;unfold jq;subst d;rw[xn (n:=w) omQ,xn omQ,xn (n:=wi) omQ,xn (n:=sp) omQ,xn (n:=wr) omQ,xn (n:=fu) omQ,show min sta 4611686018427387903=sta by omega,show wI 0 1 4=1 by decide]
theorem qgE {n:Nat} (hn:2≤n) {w st wi sp wr fu t:Int} (ht:0≤t∧t<18446744073709551616) (H:HS g h R) :
  t_w n 5 [.agg [.int .i64 w,.int .i64 st,.int .i64 wi,.int .i64 sp,.int .i64 wr,.int .i64 fu,.int .u64 t]] h λr h'=>∃s,r=.agg (xB s)∧KSet s∧HS g h' R:=by
 refine t_e1 rfl omQ λk hk=>?_;unfold S5;try simp only[iZ]
 refine qP H rfl λb0 h1 H1=>?_;refine qP H1 rfl λb1 h2 H2=>?_;have e1:=JF (x:=sp) (lo:=((0:Nat):Int)) (hi:=((4:Nat):Int)) omQ;have e2:=JF (x:=wr) (lo:=((4:Nat):Int)) (hi:=((40:Nat):Int)) omQ;have e3:=JF (x:=fu) (lo:=((20:Nat):Int)) (hi:=((120:Nat):Int)) omQ;have e4:=JF (x:=w) (lo:=((32:Nat):Int)) (hi:=((80:Nat):Int)) omQ;have e5:=JF (x:=st) (lo:=((1:Nat):Int)) (hi:=((16:Nat):Int)) omQ;have e6:=JF (x:=wi) (lo:=((1:Nat):Int)) (hi:=((4:Nat):Int)) omQ;refine qV ?_
 try dsimp only
 refine qQ (qX H2 e_1 rfl ?_);refine qG (x8 omQ omQ omQ omQ) ?_;rintro _ _ ⟨rfl,rfl⟩;refine qQ (qX H2 e_1 rfl ?_);refine qG (x8 omQ omQ omQ omQ) ?_;rintro _ _ ⟨rfl,rfl⟩;refine qQ (qX H2 e_1 rfl ?_);refine qG (x8 omQ omQ omQ omQ) ?_;rintro _ _ ⟨rfl,rfl⟩;generalize zZ sp ((0:Nat):Int) ((4:Nat):Int)=sp' at*;generalize zZ wr ((4:Nat):Int) ((40:Nat):Int)=wr' at*;generalize zZ fu ((20:Nat):Int) ((120:Nat):Int)=fu' at*;refine qL rfl<|qP H2 rfl λb2 h3 H3=>?_;refine qf H3 .here rfl (by simp) rfl λh4 H4=>?_
 have H4:HS g h4 (qw b2 [.int .i64 0,.int .i64 0,.int .i64 0,.int .i64 0,.int .u64 0,.int .i64 sp',.int .i64 wr',.int .i64 fu']::qw b1 [.int .i64 0,.int .i64 0,.int .i64 0,.int .i64 0,.int .u64 0,.int .i64 0,.int .i64 0,.int .i64 0]::
  qw b0 [.int .i64 w,.int .i64 st,.int .i64 wi,.int .i64 sp,.int .i64 wr,.int .i64 fu,.int .u64 t]::R):=H4
 refine qd H2 e_1 rfl H2 e_1 rfl (HS.lt H2 e_1)<|qd H2 e_1 rfl H2 e_1 rfl (HS.lt H2 e_1)<|qd H2 e_1 rfl H2 e_1 rfl (HS.lt H2 e_1)<|qV ?_
 try dsimp only
 refine qQ (qX H4 e_2 rfl ?_);refine qG (x8 omQ omQ omQ omQ) ?_;rintro _ _ ⟨rfl,rfl⟩;refine qQ (qX H4 e_2 rfl ?_);refine qG (x8 omQ omQ omQ omQ) ?_;rintro _ _ ⟨rfl,rfl⟩;refine qQ (qX H4 e_2 rfl ?_);refine qG (x8 omQ omQ omQ omQ) ?_;rintro _ _ ⟨rfl,rfl⟩;refine qQ (qX H4 e_2 rfl ?_);refine JT od ?_;generalize zZ w ((32:Nat):Int) ((80:Nat):Int)=w' at*;generalize zZ st ((1:Nat):Int) ((16:Nat):Int)=st' at*;generalize zZ wi ((1:Nat):Int) ((4:Nat):Int)=wi' at*;have ht2:0≤t.tmod ((1000:Nat):Int)∧t.tmod ((1000:Nat):Int)<1000:=by rw[Int.tmod_eq_emod_of_nonneg ht.1];omega
 generalize t.tmod ((1000:Nat):Int)=t' at*;refine qL rfl<|qQ (qf H4 .here rfl (by simp) rfl λh5 H5=>?_)
 have H5:HS g h5 (qw b2 (xB ⟨w',st',wi',0,t',sp',wr',fu'⟩)::qw b1 [.int .i64 0,.int .i64 0,.int .i64 0,.int .i64 0,.int .u64 0,.int .i64 0,.int .i64 0,.int .i64 0]::
  qw b0 [.int .i64 w,.int .i64 st,.int .i64 wi,.int .i64 sp,.int .i64 wr,.int .i64 fu,.int .u64 t]::R):=H5
 refine qd H4 e_2 rfl H4 e_2 rfl (HS.lt H4 e_2)<|qd H4 e_2 rfl H4 e_2 rfl (HS.lt H4 e_2)<|qd H4 e_2 rfl H4 e_2 rfl (HS.lt H4 e_2)<|qd H4 e_2 rfl H4 e_2 rfl (HS.lt H4 e_2)<|qd H4 e_2 rfl H4 e_2 rfl (HS.lt H4 e_2)<|qd H4 e_2 rfl H4 e_2 rfl (HS.lt H4 e_2)<|qF H5 .here rfl omQ rfl<|qf H5 e_1 rfl (by simp) rfl λh6 H6=>?_;refine qF H6 .here rfl omQ rfl<|qj ⟨_,rfl,⟨by omega,by omega,by omega,rfl,ht2,by omega,by omega,by omega⟩,H6.drop.drop.drop⟩
end
section
theorem qYc:∀(n i:Nat) (t:qo) (M:jC),∃r,(Km n i t M).1.results=t.results++r:=by
 intro n
 induction n with
 |zero=>intro i t M;exact⟨[],(List.append_nil _).symm⟩
 |succ n ih=>
  intro i t M;unfold Km
  split
  ·exact⟨[],(List.append_nil _).symm⟩
  ·rename_i o _;obtain⟨r,hr⟩:=ih (i+1) (zB t (jw M o).1 0 ((i:Int)+1)) (jw M o).2;obtain⟨r2,h2⟩:=(OA t (jw M o).1 0 ((i:Int)+1)).res;exact⟨r2++r,by rw[hr,h2,List.append_assoc]⟩
theorem NL {n i:Nat} {t:qo} {M:jC} (h:xL t=none):Km n i t M=(t,M):=by
 cases n with
 |zero=>rfl
 |succ n=>unfold Km;rw[h]
theorem OB {t:qo} (h:t.state=4∨t.state=6):xL t=none:=by unfold xL;rw[iQ omQ,iQ omQ,iQ omQ]
def ByJ (S:zv) (js:List (List qR)) (F:qo×jC) (k:Nat) (w:List Int):Prop :=
 ∃(n i:Nat) (t:qo) (M:jC),9000≤n+(6*(w7 S.words S.writes).sz+864)*k∧Km n i t M=F∧TJ S js k t M∧M.w=w
theorem ByJ.done {S:zv} {js:List (List qR)} {F:qo×jC} {w:List Int} (B:ByJ S js F js.length w):F.1.state=6∧F.2.w=w:=by
 obtain⟨n,i,t,M,_,hr,T,hw⟩:=B;rcases T.now with⟨_,h6⟩ |⟨h,_⟩
 ·rw[NL (OB (.inr h6))]at hr;subst hr;exact⟨h6,hw⟩
 ·omega
theorem ByJ.step {S:zv} {js:List (List qR)} {F:qo×jC} {k:Nat} {w:List Int} (O:yX S) (hSS:jq S=S) (hth:S.threads=1) (hw80:S.words≤80) (hb:S.start≤1000) (hj:∀l∈js,(zb l).2=0∧Quiet l) (hk:k<js.length) (hk5:js.length≤5) (B:ByJ S js F k w)
  {V:RM} (hV:ze js[k] (jj S.fuel) w S.writes=V) :
  (V.kind=3→F.1.state=4∧F.1.results.length=k)∧
  (V.kind≠3→(∃(p:List YR) (z:Int) (r:List YR),p.length=k∧F.1.results=p++⟨V.kind,V.err,QY V,z⟩::r)∧
   ((xV (jV (jF w (zC V)) S.writes) (je V)).1=0→ByJ S js F (k+1) (J3 S js[k] w)))∧(∀z∈jF w (zC V),0≤z∧z<18446744073709551616)∧(je V).length≤9000:=by
 obtain⟨n,i,t,M,hn,hr,T,rfl⟩:=B;obtain⟨m,t',M',hm,q,h3,h4,h5',h6'⟩:=qq0 (i:=i) O hSS hth hb hj T hk omQ hV;have hsz:(w7 S.words S.writes).sz≤80:=by have:=O.words;show szZ S.words≤80;unfold szZ;omega
 have hmn:m≤n:=by have:(6*(w7 S.words S.writes).sz+864)*k≤1344*4:=Nat.mul_le_mul omQ omQ;omega
 have e:=q.run (n-m);rw[show m+(n-m)=n by omega,hr]at e;refine⟨λh=>?_,λh=>⟨?_,λh0=>?_⟩,h5',h6'⟩
 ·obtain⟨h5,h6⟩:=h3 h;rw[NL (OB (.inl h5))]at e;rw[e];exact⟨h5,by rw[h6];exact T.res⟩
 ·obtain⟨⟨z,hz⟩,_⟩:=h4 h;obtain⟨r,hr2⟩:=qYc (n-m) (i+m) t' M';rw[← e,hz,List.append_assoc]at hr2;exact⟨t.results,z,r,T.res,hr2⟩
 ·obtain⟨_,h5⟩:=h4 h;obtain⟨T',hw⟩:=h5 h0;refine⟨n-m,i+m,t',M',?_,e.symm,T',hw⟩;rw[Nat.mul_add,Nat.mul_one];omega
theorem Qs (t:qo):(zV t).jobs=t.jobs:=by unfold zV;split<;>rfl
theorem kN (t:qo):(jc t).jobs=t.jobs:=Qs _
theorem UQ (t:qo) (d:Int):(xl t d).jobs=t.jobs:=by
 unfold xl
 split
 ·exact Qs _
 ·rfl
theorem My (t:qo):(xT t).jobs=t.jobs:=by
 have key:∀u:qo,(xJ u).jobs=u.jobs:=λu=>by
  unfold xJ
  split
  ·rfl
  ·split
   ·exact kN _
   ·exact Qs _
 unfold xT
 split
 ·exact key _
 ·exact key _
theorem qJ1 (t:qo) (x:jG) (d p:Int):(zk t x d p).jobs=t.jobs:=by
 unfold zk;dsimp only
 split
 ·split
  ·rfl
  ·exact UQ _ _
 ·split
  ·split
   ·exact Qs _
   ·rfl
  ·split
   ·unfold vZ;rw[kN]
    split<;>rfl
   ·unfold yj
    split
    ·exact kN _
    ·exact My _
theorem qXp (t:qo) (a:AnM) (d p:Int):(zB t a d p).jobs=t.jobs:=by
 unfold zB
 split
 ·split
  ·rfl
  ·unfold gr;dsimp only
   split
   ·rfl
   ·exact qJ1 _ _ _ _
 ·split
  ·split
   ·rfl
   ·exact UQ _ _
  ·split
   ·exact My _
   ·rfl
theorem qwn:∀(n i:Nat) (t:qo) (M:jC),(Km n i t M).1.jobs=t.jobs:=by
 intro n
 induction n with
 |zero=>intro i t M;rfl
 |succ n ih=>
  intro i t M;unfold Km
  split
  ·rfl
  ·rw[ih,qXp]
theorem ByJ.w {S:zv} {js:List (List qR)} {F:qo×jC} {k:Nat} {w:List Int} (B:ByJ S js F k w):(∀z∈w,0≤z∧z<18446744073709551616)∧(w.length:Int)=S.words∧w[0]? =some 0∧F.1.jobs=js:=by obtain⟨n,i,t,M,_,hr,T,rfl⟩:=B;exact⟨T.calm.wd,T.calm.w,T.w0,by rw[← hr,qwn,T.jobs]⟩
theorem Vj {A L R:List SP} {P:SP} (s:Sel L P R):Sel (A++L) P (A++R):=by
 induction A with
 |nil=>exact s
 |cons x r ih=>exact .there ih
theorem Vi {A R:List SP} {P:SP}:Sel (A++P::R) P (A++R):=by
 induction A with
 |nil=>exact .here
 |cons x r ih=>exact .there ih
theorem qWn {g h:AH} {A R:List SP} {P Q T:SP} (H:HS g h (P::Q::T::(A++R))):HS g h (.all A::P::Q::T::R) :=
 HS.allI (HS.unsel Vi (HS.unsel (.there Vi) ((HS.unsel (.there (.there Vi)) (H.sel e_2)).sel e_1) |>.sel .here))
end
namespace machineOne
variable {g h:AH} {L R:List SP}
theorem qxT {s:List UInt8} {K:AV→Go.Ae.R} {Q:AV→AH→Prop} (w:wp (K (.bool false)) Q):wp (MN .neq (.str s) (.str s) K) Q:=by show wp (K (.bool (!seq? s s))) Q;rw[qJr];exact w
theorem qzC {s:zv} {jss:List (List (List qR))} (hs:0≤s.start) (hst:s.start<1000):MacQ (JG s jss).s jss 0 (JG s jss):=by
 have so:yX (jq { s with threads:=((jss.take 4).length:Int) }):=yi hs;have q3:=so.threads;have eS:(JG s jss).s=jq { s with threads:=((jss.take 4).length:Int) }:=rfl;have est:(jq { s with threads:=((jss.take 4).length:Int) }).start=s.start:=by show min s.start 4611686018427387903=s.start;omega
 have Q0:=Md (qVI so) (at_:=5) (w:=14) od ⟨by decide,by decide⟩;have hsl:=Q0.s;refine⟨rfl,?_,λk u hk _=>absurd hk (Nat.not_lt_zero _),λk u _ hu=>?_,λk hk=>qjo so Q0 (by rw[eS,est];omega) ⟨by omega,by rw[eS]at hk;exact hk⟩,?_,Q0.w0,?_⟩
 ·show((((List.range (JG s jss).s.threads.toNat).map _).length:Nat):Int)=_;rw[List.length_map,List.length_range,eS];omega
 ·have hu:((List.range (JG s jss).s.threads.toNat).map λi:Nat=>Xq i (JG s jss).s (((jss.take 4)[i]?).getD []))[k]? =some u:=hu;rw[List.getElem?_map]at hu;obtain⟨i,hi,rfl⟩:=Option.map_eq_some_iff.1 hu;have hk:k<(JG s jss).s.threads.toNat:=by
   have:=(List.getElem?_eq_some_iff.1 hi).1;simpa using this
  rw[List.getElem?_range hk]at hi;cases hi;have hk4:k<4:=by rw[eS]at hk;omega
  rw[List.getElem?_take,iJ hk4]
 ·intro z hz;have hz:z∈(jw (wk (jq { s with threads:=((jss.take 4).length:Int) })) (op0 2 5 14)).2.s:=hz;rw[hsl]at hz;exact List.eq_of_mem_replicate hz
 ·show(jw (wk _) (op0 2 5 14)).2.n≤_;rw[Q0.n];have:(jq { s with threads:=((jss.take 4).length:Int) }).start≤(jq { s with threads:=((jss.take 4).length:Int) }).start+4*0:=by omega
  exact this
theorem jQM {vs:List AV} {jss:List (List (List qR))} {t:Nat} (hl:vs.length=jss.length) (h:t<jss.length):∃v,vs[t]? =some v∧(List.zipWith (λv js=>JobsC js v) vs jss)[t]? =some (JobsC jss[t] v):=by
 have hv:t<vs.length:=by omega
 exact⟨vs[t],iW hv,by rw[List.getElem?_zipWith,iW hv,iW h]⟩
theorem OT {l:List YR} {i f:Nat} {x:YR} (h:l[i]? =some x) (hf:f<4):(l.flatMap Q9)[i*4+f]? =(Q9 x)[f]?:=by rw[← vI (sz:=4) (enc:=Q9) (λ_=>rfl) h,List.getElem?_take_of_lt hf,List.getElem?_drop]
theorem law {k0:Nat} (hk:60≤k0) {w st wi sp wr fu t:Int} {a1:AV} {T:List (List (List qR)×List AV)} {vs:List AV} (ht:0≤t∧t<18446744073709551616) (A:ArgT h a1 T vs) :
  wp ((tD2 S3) (kK 4 (callT tab qx k0)) [.agg [.int .i64 w,.int .i64 st,.int .i64 wi,.int .i64 sp,.int .i64 wr,.int .i64 fu,.int .u64 t],a1] h) λv _=>v=.bool true:=by
 show wp (S3 (kK _ (callT tab qx _)) _ _ _).1 _;unfold S3
 try simp only[ iZ]
 refine qP (HS.nil h) rfl λb0 h1 H1=>?_;refine jQH (jk (qJ ?_));refine qF H1 .here rfl omQ rfl<|ye od (qgE omQ ht H1) ?_;rintro _ h2 ⟨s,rfl,K,H2⟩;refine ye od (qQf omQ omQ A H2) ?_;rintro lv h3 ⟨jss,hj3,hj0,hjk,H3⟩;have hjq:∀js∈jss,∀l∈js,(zb l).2=0∧Quiet l:=λjs hjs l hl=>((hjk js hjs).2 l hl).chk omQ;have hjc:∀js∈jss,∀l∈js,qX3 l:=λjs hjs l hl=>qQD ((hjk js hjs).2 l hl).b;refine qP H3 rfl λb1 h4 H4=>?_;refine qf H4 .here rfl (by simp) rfl λh5 H5=>?_;have H5:HS h h5 (qw b1 (xB s)::TsC jss lv::[]):=H5.pk [0,0] 1;refine qF H5 .here rfl omQ rfl<|ye od (qYs (jss:=jss) omQ K.start.1 (λjs hjs=>⟨by have:=(hjk js hjs).1;omega,hjq js hjs⟩) omQ (H5.sel e_1)) ?_;rintro _ h6 ⟨mb,rfl,H6⟩;have MO:=qw9 (s:=s) (jobs:=jss) K.start.1 hjq;have MQ:=qzC (s:=s) (jss:=jss) K.start.1 K.start.2;have hp0:(JG s jss).picks=0:=rfl;have O:yX (JG s jss).s:=yi K.start.1;have hT:=O.threads;have eT:(JG s jss).s.threads=max 1 (jss.length:Int):=by show wI ((jss.take 4).length:Int) 1 4=_;rw[List.length_take];unfold wI;omega
 have hSw:(JG s jss).s.words=s.words:=by show wI s.words 32 256=_;exact xn (by have:=K.words;omega)
 have hSf:(JG s jss).s.fuel=s.fuel:=by show wI s.fuel 0 400=_;exact xn (by have:=K.fuel;omega)
 have hSwr:(JG s jss).s.writes=s.writes:=by show wI s.writes 0 96=_;exact xn (by have:=K.writes;omega)
 have hSs:(JG s jss).s.start=s.start:=by show min s.start 4611686018427387903=_;have:=K.start;omega
 generalize hS:(JG s jss).s=S at*;generalize JG s jss=m0 at*;have hkw:=K.words;have hks:=K.start;refine UC (qJ ?_);refine ye od (K8 omQ (by have:=MO.w;rw[hS]at this;omega) H6) ?_;intro wv h7 H7;have H8:HS h h7 (qy 22 1 m0.m.w.length wv (m0.m.w.map (.int .u64))::MacC mb m0::TsC jss lv::qw b1 (xB s)::[]):=H7.pk [0,0,0,0] 0;clear H5 H6 H7
 refine jM (λc q h'=>∃(t:Nat) (m:wb) (cv:AV) (e:TypeId),((shut cv=true∧Uz cv)∨e=22)∧q=(.int .i64 (t:Int),cv,.ptr mb 0,lv,.ptr b1 0,())∧t≤jss.length∧c=jss.length-t∧MacQ S jss t m∧V6 m∧m.picks≤9000*t∧
   HS h h' (qy e 1 m.m.w.length cv (m.m.w.map (.int .u64))::MacC mb m::TsC jss lv::qw b1 (xB s)::[]))
  ?_ omQ ⟨0,m0,wv,22,.inr rfl,rfl,Nat.zero_le _,rfl,MQ,MO,by omega,H8⟩
 rintro c ih q h6 hih ⟨t,m,cv,e,hcu,rfl,ht,rfl,MQ,MO,hp,H⟩;obtain⟨vs,hvl,HT⟩:=TsC.E (H.sel e_2);refine qm HT .here ?_;have hml:=MQ.len;by_cases hlt:t<jss.length
 rotate_left
 ·obtain rfl:t=jss.length:=by omega
  refine jD omQ (qJ ?_);clear HT;refine ye od (K8 omQ (by have:=MO.w;rw[MQ.s]at this;omega) (H.sel e_1)) ?_;intro nv h7 H7;refine ye od (qY6 omQ (H7.sl .here) (H7.sl e_2) (by have:=MO.w;rw[MQ.s]at this;have:=O.words;omega)) ?_;rintro _ _ ⟨rfl,rfl⟩;rw[iG rfl];refine qV ?_
  try dsimp only
  refine qa (ye od (qJs omQ omQ (H7.sel e_1)) ?_);rintro _ _ ⟨rfl,rfl⟩;have hr:JL m=true:=by
   unfold JL;refine List.all_eq_true.2 λu hu=>iG (.inl ?_);obtain⟨k,hk,rfl⟩:=List.mem_iff_getElem.1 hu;by_cases hkj:k<jss.length
   ·exact(MQ.past k _ hkj (iW hk)).1
   ·rw[MQ.fut k _ omQ (iW hk),List.getElem?_eq_none omQ];rfl
  rw[hr];exact qD (qk (qj rfl))
 refine jT omQ (qZ ?_);clear HT;have hjm:=List.getElem_mem hlt;obtain⟨MQ2,u,hu,hu6,hul,hto⟩:=qZl O omQ omQ MQ omQ (by rw[iW hlt];rfl) (hjk _ hjm).1 (hjq _ hjm) (hjc _ hjm);have hzs:∃zs,zs=m.m.w:=⟨_,rfl⟩;obtain⟨zs,hzs⟩:=hzs;rw[← hzs]at H hto;have hth:t<m.t.length:=by omega
 have hF0:∃F,F=Yi t 9000 0 m:=⟨_,rfl⟩;obtain⟨F,hF0⟩:=hF0;rw[← hF0]at MQ2 hu hto;clear hzs MQ;have hnl:∃n,n=m.t.length:=⟨_,rfl⟩;obtain⟨n,hnl⟩:=hnl
 refine jM (λc q h'=>∃(i:Nat) (m':wb),q=(.int .i64 (i:Int),.int .i64 (t:Int),cv,.ptr mb 0,lv,.ptr b1 0,())∧i≤9000∧c=9000-i∧Yi t (9000-i) i m'=F∧V6 m'∧m'.t.length=n∧m'.picks≤9000*t+i∧
   HS h h' (qy e 1 zs.length cv (zs.map (.int .u64))::MacC mb m'::TsC jss lv::qw b1 (xB s)::[]))
  ?_ od ⟨0,m,rfl,Nat.zero_le _,rfl,hF0.symm,MO,hnl.symm,by omega,H⟩
 clear H MO hp hF0;rintro c ih2 q h6 hih2 ⟨i,m',rfl,hi,rfl,hF,MO,hn,hp,H⟩;have htn:t<m'.t.length:=by omega
 have hst:XO m' t=m'.t[t].state:=by unfold XO;rw[iW htn]
 refine Q2<|Kk (λz g'=>g'=h6∧∃y:AV,z=(y,.bool (decide ((i:Int)<((9000:Nat):Int))),.int .i64 (i:Int),.int .i64 (t:Int),cv,.ptr mb 0,lv,.ptr b1 0,())∧(i<9000→y=.bool (decide (XO m' t≠6)))) (λj hj=>?_) ?_
 ·refine On (λc1=>?_) (λc1=>?_)
  ·refine ye od (K3 omQ (iW htn) omQ (H.sel e_1)) ?_;rintro _ _ ⟨rfl,rfl⟩;rw[← hst];refine yS (λc2=>?_) (λc2=>?_)
   ·exact hj _ _ ⟨rfl,_,rfl,λ_=>by rw[iG (show XO m' t≠6 from c2)]⟩
   ·exact hj _ _ ⟨rfl,_,rfl,λ_=>by rw[iV (show¬XO m' t≠6 from λh=>h c2)]⟩
  ·exact hj _ _ ⟨rfl,_,rfl,λh=>absurd h omQ⟩
 rintro _ _ ⟨rfl,y,rfl,hy⟩;have hpk:∀{K:AV→Go.Ae.R} {Q:AV→AH→Prop},(∀b:Bool,(b=true↔(i<9000∧XO m' t≠6))→wp (K (.bool b)) Q)→wp (ky (.bool (decide ((i:Int)<((9000:Nat):Int)))) y (.bool false) K) Q:=λ{K Q} hw=>by
  by_cases c1:i<9000
  ·rw[iG (show(i:Int)<((9000:Nat):Int) by omega),hy c1];exact qD (hw _ ⟨λh=>⟨c1,of_decide_eq_true h⟩,λh=>iG h.2⟩)
  ·rw[iV (show¬(i:Int)<((9000:Nat):Int) by omega)];exact qE (hw _ ⟨λh=>(by cases h),λh=>absurd h.1 c1⟩)
 refine hpk λbb hbb=>?_;cases bb with
 |true=>
  obtain⟨c1,c2⟩:=hbb.1 rfl;refine qZ (Um ?_);rw[show zN .u8 (i:Int)=((i%256:Nat):Int)from rfl];refine ye od (qKP (draw:=((i%256:Nat):Int)) omQ MO htn omQ omQ ⟨by omega,by omega⟩ (H.sel (P:=MacC mb m') e_1)) ?_;rintro _ h7 ⟨rfl,H7⟩;refine qc omQ ?_;obtain⟨MO2,hs2,hpp⟩:=qXc MO htn (draw:=((i%256:Nat):Int)) omQ;refine hih2 (9000-(i+1)) _ _ omQ ⟨i+1,gG m' t ((i%256:Nat):Int),rfl,by omega,rfl,?_,MO2,?_,by omega,H7.pk [1,0] 0⟩
  ·rw[← hF,show 9000-i=(9000-(i+1))+1 by omega];show _=if XO m' t=6 then m' else _
   rw[iQ c2]
  ·have h1:=MO2.len;have h2:=MO.len;rw[hs2]at h1;omega
 |false=>
  refine qJ ?_;have hFm:m'=F:=by
   rw[← hF];by_cases c9:i=9000
   ·subst c9;rfl
   ·have h6':XO m' t=6:=by
     by_cases h:XO m' t=6
     ·exact h
     ·have:=hbb.2 ⟨by omega,h⟩;cases this
    obtain⟨k,hk⟩:∃k,9000-i=k+1:=⟨9000-i-1,by omega⟩;rw[hk];show _=if XO m' t=6 then m' else _
    rw[iJ h6']
  subst hFm;clear hF hbb hih2 ih2 hst;have h2k:=(hjk _ hjm).1;refine ye od (MU omQ hu omQ omQ (H.sel e_1)) λrv h7 H7=>?_;refine ye od (K3 omQ hu omQ (H7.sel e_1)) ?_;rintro _ h7 ⟨rfl,rfl⟩;refine q9 hu6<|qV ?_
  try dsimp only
  refine qe ?_;obtain⟨vs,hvl,HT⟩:=TsC.E (H7.sel e_3);obtain⟨jv,hjv,hjz⟩:=jQM hvl hlt;obtain⟨ws,hwl,HJ⟩:=JobsC.E ((HS.allSel (GA hjz) (HT.sel e_1)));generalize hBg:(List.zipWith (λv js=>JobsC js v) vs jss).eraseIdx t=Bg at HJ;have H8:HS h h7 (qy 51 1 jss[t].length jv ws:: .all (List.zipWith zf ws jss[t])::qy e 1 zs.length cv (zs.map (.int .u64))::qy 53 4 u.results.length rv (u.results.flatMap Q9)::MacC mb m'::qy 43 1 jss.length lv vs:: .all Bg::qw b1 (xB s)::[]) :=
   HJ.pk [0,0,4,2,2,1,0,0] 0
  clear H7 HT HJ H;refine qm H8 e_3<|jO (H8.sl e_5) hjv<|qm H8 .here<|q9 omQ (qE (qJ ?_));have hjsq:=hjq _ hjm;generalize hjs:jss[t]=js at*
  refine jM (λc q h'=>∃(k:Nat) (cv:AV) (zs:List Int) (e:TypeId),((shut cv=true∧Uz cv)∨e=22)∧q=(.int .i64 (k:Int),rv,.int .i64 (t:Int),cv,.ptr mb 0,lv,.ptr b1 0,())∧k≤js.length∧c=js.length-k∧qKi S m'.m.w (js.drop k) zs (u.results.drop k)∧
    HS h h' (qy 51 1 js.length jv ws:: .all (List.zipWith zf ws js)::qy e 1 zs.length cv (zs.map (.int .u64))::qy 53 4 u.results.length rv (u.results.flatMap Q9)::MacC mb m'::qy 43 1 jss.length lv vs:: .all Bg::qw b1 (xB s)::[]))
   ?_ omQ ⟨0,cv,zs,e,hcu,rfl,Nat.zero_le _,rfl,hto,H8⟩
  clear H8 hto hcu;rintro c ih3 q g3 hih3 ⟨k,cv,zs,e,hcu,rfl,hk,rfl,hto,H⟩;refine qm H e_3 ?_;by_cases hlk:k<js.length
  rotate_left
  ·obtain rfl:k=js.length:=by omega
   refine jD omQ (qJ ?_);rw[List.drop_length]at hto;obtain⟨_,hto⟩:=hto;subst hto;refine qc omQ ?_;have HJ:=HS.allUn (GA hjz) (by rw[hBg];exact(JobsC.I hwl (H.pk [0,0] 0)).pk [0,4] 0);have HT:=TsC.I hvl (HJ.sub (.cons e_4 (.cons .here .refl)));exact hih (jss.length-(t+1)) _ _ omQ ⟨t+1,m',cv,e,hcu,rfl,by omega,rfl,MQ2,MO,by omega,HT.pk [1,2,0,1] 1⟩
  refine jT omQ (qZ ?_);rw[List.drop_eq_getElem_cons hlk]at hto;obtain⟨FQ,z,rr,hres,hnx⟩:=hto;have hkr:u.results[k]? =some ⟨(ze js[k] (jj S.fuel) zs S.writes).kind,(ze js[k] (jj S.fuel) zs S.writes).err,QY (ze js[k] (jj S.fuel) zs S.writes),z⟩:=by have:=congrArg (·[0]?) hres;simpa using this
  have hrr:rr=u.results.drop (k+1):=by have:=congrArg (List.drop 1) hres;rw[List.drop_drop]at this;exact this.symm
  subst hrr;have hil:k<ws.length:=by omega
  have hje:js[k]? =some js[k]:=iW hlk;have hzp:(List.zipWith zf ws js)[k]? =some (zf ws[k] js[k]):=by rw[List.getElem?_zipWith,iW hil,hje]
  have hchk:=hjsq _ (List.getElem_mem hlk);have hz:=FQ.wd;have hzl:=FQ.len;refine jO (H.sl e_5) (x:=jv) hjv<|zd (l:=[ws[k]]) (H.sl .here) hlk omQ (by rw[Nat.mul_one,List.drop_eq_getElem_cons hil];rfl)<|qQ (qX H (b:=b1) e_7 rfl ?_);refine qQ (qX H e_7 rfl ?_);have HB:=(H.sel (P:=.all (List.zipWith zf ws js)) e_1).allE;have hcut:qJP h (List.zipWith zf ws js++(qy 51 1 js.length jv ws::qy e 1 zs.length cv (zs.map (.int .u64))::qy 53 4 u.results.length rv (u.results.flatMap Q9)::MacC mb m'::qy 43 1 jss.length lv vs:: .all Bg::qw b1 (xB s)::[])) cv zs:=by
   rcases hcu with⟨h1,h2⟩ |rfl
   ·exact qQl (HB.rd (Vj e_1)) h1 h2
   ·exact qgr (Vj e_1) omQ
  refine ye od (qgD (fuel:=s.fuel) omQ HB (HB.rd (G3 hzp)) (HB.rd (Vj e_1)) hcut hz omQ hchk.1 hchk.2) ?_;rintro _ g4 ⟨cv2,fv,av,e1,e2,e3,rfl,hsr,H4⟩;have hAf:J3 S js[k] zs=jF (jF zs (zC (ze js[k] (jj S.fuel) zs S.writes))) (jZ (xV (jV (jF zs (zC (ze js[k] (jj S.fuel) zs S.writes))) S.writes) (je (ze js[k] (jj S.fuel) zs S.writes))).2.lv):=rfl;have hzz:=FQ.az;have hfl0:=FQ.fs;rw[hAf]at hnx;rw[hSf,hSwr]at*;generalize hV:ze js[k] (jj s.fuel) zs s.writes=V at*;have H5:=qWn H4;clear H H4 HB;have w1:=shp H5 e_1;have w2:=shp H5 e_2;have w3:=shp H5 e_3;refine qP H5 rfl λb3 g5 H6=>?_;refine qf H6 .here rfl (by simp) (qyI w1 w2 w3) λg6 H7=>?_
  have H7:HS h g6 (qw b3 (qZh V cv2 fv av):: .all (List.zipWith zf ws js)::qy e1 2 (zC V).length cv2 ((zC V).flatMap jP)::qy e2 1 (je V).length fv ((je V).map (.int .i64))::qy e3 1 (jF zs (zC V)).length av ((jF zs (zC V)).map (.int .u64))::
   qy 51 1 js.length jv ws::qy e 1 zs.length cv (zs.map (.int .u64))::qy 53 4 u.results.length rv (u.results.flatMap Q9)::MacC mb m'::qy 43 1 jss.length lv vs:: .all Bg::qw b1 (xB s)::[]):=H7
  clear H5 H6;have hkl:k<u.results.length:=by omega
  refine yn (H7.sl e_7) omQ hkl (OT hkr omQ)<|qQ (qX H7 .here rfl ?_);refine q9 rfl<|qV ?_
  try dsimp only
  refine qe (yn (H7.sl e_7) omQ hkl (OT hkr omQ) ?_);refine qQ (qX H7 .here rfl ?_);refine q9 rfl ?_
  try dsimp only
  refine qE (qV ?_)
  try dsimp only
  refine qe (yn (H7.sl e_7) omQ hkl (OT hkr omQ) ?_);refine qQ (qX H7 .here rfl ?_);refine qxT (qE (qJ ?_));have w1z:(jF zs (zC V)).length=zs.length:=by rw[qZb];unfold szZ;omega
  have hfl:(je V).length<100000:=by omega
  refine qQ (qX H7 .here rfl ?_);refine qQ (qX H7 .here rfl ?_);refine qQ (qX H7 e_11 rfl ?_);refine ye od (qqm omQ H7 (H7.rd e_4) (qQl (H7.rd e_4) hsr.1 hsr.2) (H7.rd e_3) hzz omQ hfl) ?_;rintro _ g7 ⟨cv3,wv3,e4,e5,rfl,hsr2,H8⟩;generalize xV (jV (jF zs (zC V)) s.writes) (je V)=q at*;have o1:=Gs (shp H8 .here);have o2:=Gs (shp H8 e_1);refine qP H8 rfl λb4 g8 H9=>?_;refine qf H9 .here rfl (by simp) (by simp only[qXE,qp,AV.cells,List.all_cons,o1.2,o2.2];rfl) λg9 HA=>?_;by_cases q0:q.1=0
  ·have eA:qXE q cv3 wv3=.agg [.int .i64 2,.int .i64 q.1,.str [],cv3,.nils,wv3]:=by unfold qXE;rw[iJ q0]
   rw[eA]at HA;refine qQ (qX HA .here rfl ?_);refine q9 rfl (qJ ?_);refine qQ (qX HA .here rfl ?_);refine qc omQ ?_;have eW:MY (jF zs (zC V)) q=jF (jF zs (zC V)) (jZ q.2.lv):=by unfold MY Oq;rw[iJ q0]
   refine hih3 (js.length-(k+1)) _ _ omQ ⟨k+1,wv3,MY (jF zs (zC V)) q,e5,.inl hsr2,rfl,by omega,rfl,by rw[eW];exact hnx q0,?_⟩;exact HA.pk [8,4,2,7,7,7,7,7] 7
  ·have eA:qXE q cv3 wv3=.agg [.int .i64 4,.int .i64 q.1,.str [],cv3,.nils,wv3]:=by unfold qXE;rw[iQ q0]
   rw[eA]at HA;refine qQ (qX HA .here rfl ?_);exact jX od (qZ (qk (qj rfl)))
theorem told {h:AH} {l:List AV} (H:WTs Tryz.prog h 8 Tryz.f3.params.toList l):wp ((tD2 S3) (kK 4 (callT tab qx 60)) l h) λv _=>v=.bool true:=by
 have e:Tryz.f3.params.toList=[24,25]:=by kernel_rfl
 rw[e]at H;obtain⟨a0,a1,rfl,H0,H1⟩:=WTs2 H;simp only[WTV,Tryz.underlying3,Tryz.underlying4,Tryz.underlying22,Tryz.underlying24,Tryz.underlying25,Tryz.underlying68,Tryz.underlying70,Tryz.underlying108]at H0 H1;obtain⟨T,vs,A⟩:=qKT H1;obtain⟨xs,rfl,H0⟩:=H0;unfold WT at H0;simp only[Tryz.underlying24]at H0;obtain⟨g1,g2⟩:=H0;rw[show Tryz.prog.cellsOf 24=7 by kernel_rfl]at g1
 match xs,g1 with
 |[x0,x1,x2,x3,x4,x5,x6],_=>have f0:=g2 _ (iK ..);have f1:=g2 _ (iX _ (iK ..));have f2:=g2 _ (iX _ (iX _ (iK ..)));have f3:=g2 _ (iX _ (iX _ (iX _ (iK ..))));have f4:=g2 _ (iX _ (iX _ (iX _ (iX _ (iK ..)))));have f5:=g2 _ (iX _ (iX _ (iX _ (iX _ (iX _ (iK ..))))));have f6:=g2 _ (iX _ (iX _ (iX _ (iX _ (iX _ (iX _ (iK ..)))))));rw[show Tryz.prog.cellsOf 3=1 by kernel_rfl]at f0 f1 f2 f3 f4 f5;rw[show Tryz.prog.cellsOf 22=1 by kernel_rfl]at f6;simp only[List.drop_succ_cons,List.drop_zero,List.take_succ_cons,List.take_zero]at f0 f1 f2 f3 f4 f5 f6;unfold WT at f0 f1 f2 f3 f4 f5 f6;simp only[Tryz.underlying3]at f0 f1 f2 f3 f4 f5;simp only[Tryz.underlying22]at f6;obtain⟨y0,e0,_⟩:=f0;obtain⟨y1,e1,_⟩:=f1;obtain⟨y2,e2,_⟩:=f2;obtain⟨y3,e3,_⟩:=f3;obtain⟨y4,e4,_⟩:=f4;obtain⟨y5,e5,_⟩:=f5;obtain⟨y6,e6,e6'⟩:=f6;cases e0;cases e1;cases e2;cases e3;cases e4;cases e5;cases e6;exact law omQ ⟨e6'.1,Int.lt_of_le_of_lt e6'.2 od⟩ A
end machineOne
end Go.Proofs.YtbiljkdgeekpbacGreatDoor
