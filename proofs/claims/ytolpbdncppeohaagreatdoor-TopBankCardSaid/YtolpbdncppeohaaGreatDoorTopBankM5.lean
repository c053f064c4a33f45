/- Lemmas for 'quietus/quietustop.TopBank': A threads form: by the program: again, following, a new one;A thread: by the program: its pauses, what it looks at;A thread: by the program: what it tells of ... No condition. -/
import Derived.Test.YtolpbdncppeohaaGreatDoorTopBankM4
import Derived.Test.YtolpbdncppeohaaGreatDoorTopBankM1
import Derived.Test.YtolpbdncppeohaaGreatDoorTopBankM2
namespace Go.Proofs.YtolpbdncppeohaaGreatDoor
open Go Go.Ae
set_option maxRecDepth 100000
section
variable {g h:AH} {L R:List SP}
theorem VD {R:List SP} {P:SP}:∀{A:List SP} {i:Nat},A[i]? =some P→bi (A++R) P (A.eraseIdx i++R):=by
 intro A
 induction A with
 |nil=>simp
 |cons x r ih=>
  intro i h;cases i with
  |zero=>cases h;exact .here
  |succ i=>exact .there (ih (by grind))
def aR (js:List (List qa)) (v:AV):SP:=.ex λvs:List AV=>.all [.ic (vs.length=js.length),qB 35 1 js.length v vs,.all (List.zipWith bX vs js)]
structure Ds where
  rv:AV
  cv:AV
  fe:TypeId
  fv:AV
def Uz (r:xB) (z:Ds):List AV:=[.int .i64 r.B8,.int .i64 r.ap,.int .i64 r.RZ,.bool r.au,.int .i64 r.kind,.int .i64 r.err,.int .u64 r.aP,.int .u64 r.aa,.int .i64 r.born,.int .i64 r.ended,z.rv,z.cv,z.fv,.str r.dT]
def uK (r:xB) (z:Ds):List SP:=[qB 170 2 r.reads.length z.rv (r.reads.flatMap zz),qB 170 2 r.cells.length z.cv (r.cells.flatMap zz),qB z.fe 1 r.ik.length z.fv (r.ik.map (.int .i64))]
def eY (r:List xB) (v:AV):SP:=.ex λzs:List (xB×Ds)=>.all [.ic (zs.map (·.1)=r),qB 121 14 zs.length v (zs.flatMap λz=>Uz z.1 z.2),.all (zs.flatMap λz=>uK z.1 z.2)]
def XB (r:VV):List AV:=[.int .i64 r.kind,.int .i64 r.err,.str r.dT,.int .u64 r.aa]
def lD (x:Option qr) (v:AV):SP:=match x with
 |none=>.ic (v=.aU)
 |some x=>.ex λa:Nat=>.all [.ic (v=.ptr a 0),aK a x]
structure Nd where
  jv:AV
  gv:AV
  nv:AV
  pv:AV
  rv:AV
  lb:Nat
  sv:AV
def vR (t:qe) (q:Nd):List AV:=[.int .i64 t.me,.int .i64 t.set.words,.int .i64 t.set.ae,.int .i64 t.set.wide,.int .i64 t.set.ad,.int .u64 t.set.start,.int .i64 t.set.ay,.int .i64 t.set.writes,.int .i64 t.set.fuel,
 q.jv,.int .i64 t.ap,.int .i64 t.state,.bool t.au,q.gv,.int .i64 t.ah,.int .i64 t.aI,q.nv,.int .i64 t.born,.bool t.dz,q.pv,q.rv,.ptr q.lb 0,q.sv,.int .i64 t.dj,.int .u64 t.since,.bool t.br,.int .i64 t.bz]
abbrev G7 (b:Nat) (t:qe) (q:Nd) (R:List SP):List SP :=
 qw b (vR t q)::aR t.jobs q.jv::qB 157 2 t.al.length q.gv (t.al.flatMap zz)::lD t.now q.nv::eY t.af q.pv::qB 56 4 t.results.length q.rv (t.results.flatMap XB)::dH q.lb t.ao::qB 22 1 t.aj.length q.sv (t.aj.map (.int .u64))::R
def aJ (b:Nat) (t:qe):SP:=.ex λq:Nd=>.all (G7 b t q [])
section
variable {n b:Nat} {t:qe} {q:Nd}
theorem aJ.E (H:HS g h (aJ b t::R)):∃q,HS g h (G7 b t q R):=by obtain⟨q,H⟩:=H.eU;exact⟨q,H.cG⟩
theorem aJ.I (H:HS g h (G7 b t q R)):HS g h (aJ b t::R):=HS.fB q (HS.allI (A:=G7 b t q []) H)
theorem lD.E {x:qr} {v:AV} (H:HS g h (lD (some x) v::R)):∃a,v=.ptr a 0∧HS g h (aK a x::R):=by obtain⟨a,H⟩:=(show HS g h (.ex (λa:Nat=>SP.all [.ic (v=.ptr a 0),aK a x])::R)from H).eU;have H:=H.cG.fi;simp_all
theorem lD.I {x:qr} {a:Nat} (H:HS g h (aK a x::R)):HS g h (lD (some x) (.ptr a 0)::R) :=
 show HS g h (.ex (λa':Nat=>SP.all [.ic (AV.ptr a 0=.ptr a' 0),aK a' x])::R)from HS.fB a (HS.allI (A:=[_,_]) (HS.fO rfl H))
theorem aR.E {js:List (List qa)} {v:AV} (H:HS g h (aR js v::R)):∃vs:List AV,vs.length=js.length∧HS g h (qB 35 1 js.length v vs:: .all (List.zipWith bX vs js)::R):=by obtain⟨vs,H⟩:=H.eU;exact⟨vs,H.cG.fi⟩
theorem aR.I {js:List (List qa)} {v:AV} {vs:List AV} (hl:vs.length=js.length) (H:HS g h (qB 35 1 js.length v vs:: .all (List.zipWith bX vs js)::R)):HS g h (aR js v::R) :=
 HS.fB vs (HS.allI (A:=[_,_,_]) (HS.fO hl H))
theorem qWe {A R:List SP} {P:SP}:bi (A++P::R) P (A++R):=by
 induction A with
 |nil=>exact .here
 |cons x r ih=>exact .there ih
theorem XG (hn:11≤n) (B:ThrB t) (hr:t.al.length≤1000000) (H:HS g h (aJ b t::R)):aE n 46 [.ptr b 0] h λ_ h'=>HS g h' (aJ b (zJ t)::R):=by
 refine aF (S:=S46) rfl omQ λk hk=>?_;unfold S46;try simp only[iZ]
 obtain⟨q,H0⟩:=aJ.E H;clear H;refine qK (qQ (qy H0 (b:=b) .here ⟨rfl,rfl⟩ (by simp[vR]) λh1 H1=>?_));refine qK (qQ (qy H1 (b:=b) .here ⟨rfl,rfl⟩ (by simp[vR]) λh2 H2=>?_))
 let T:qe:={ t with born:=0,dz:=false }
 have H2:HS g h2 (G7 b T q R):=H2;have lO:=kT B.set;refine zb [] (λs h'=>∃(x:qr) (a:Nat),s=(.ptr b 0,())∧zJ t={ T with state:=1,now:=some x }∧HS g h' (G7 b { T with now:=some x } { q with nv:=.ptr a 0 } R)) (λj hj=>?_) ?_
 rotate_left
 ·rintro _ h3 ⟨x,a,rfl,e,H3⟩;dsimp only;refine qK (qQ (qy H3 (b:=b) .here ⟨rfl,rfl⟩ (by simp[vR]) λh4 H4=>qx (qW ?_)));rw[e];exact aJ.I (q:={ q with nv:=.ptr a 0 }) H4
 have lz:=B.jl;have Sh:=B.ap;obtain⟨vs,AY,H3⟩:=aR.E (js:=t.jobs) (H2.aM (P:=aR T.jobs q.jv) e_1);refine qK (qQ (qZ H2 (b:=b) .here rfl ?_));refine qK (qQ (qZ H2 (b:=b) .here rfl ?_));refine jQ H3 (sz:=1) (n:=t.jobs.length) (v:=q.jv) .here ?_;by_cases c:t.ap=(t.jobs.length:Int)
 ·rw[show zJ t={ t with born:=0,dz:=false,state:=6,now:=none }from iJ c];refine qk c (qX ?_);refine qK (qQ ?_);refine qy H2 (b:=b) .here ⟨rfl,rfl⟩ (by simp[vR]) λh4 H4=>?_;refine qK (qQ ?_);refine qy H4 (b:=b) .here ⟨rfl,rfl⟩ (by simp[vR]) λh5 H5=>qW ?_;refine aJ.I (q:={ q with nv:=.aU }) ?_;have H6:=(HS.fO (φ:=AV.aU=.aU) rfl H5);exact H6.sub (.cons e_1 (.cons e_1 (.cons e_1 (.cons .here (.drop .refl)))))
 ·refine qj c (qJ ?_);by_cases eX:t.au=true
  ·refine qK (qQ (qu (qZ H2 (b:=b) .here (x:=.bool true) (by rw[← eX];rfl) ?_)));refine qX (qK (qQ (qu (qZ H2 (b:=b) .here rfl ?_))));refine jQ H2 (n:=t.al.length) (v:=q.gv) e_2 ?_;refine zQ (λc s h'=>∃(i:Nat) (av:AV),s=(.int .i64 (i:Int),.int .i64 (t.al.length:Int),q.gv,av,.ptr b 0,())∧i≤t.al.length∧c=t.al.length-i∧HS g h' (qB 3 1 i av (((t.al.take i).map (·.1)).map (.int .i64))::G7 b T q R))
    ?_ (m:=t.al.length) (by grind) ⟨0,.ak,rfl,Nat.zero_le _,rfl,H2.ak⟩
   clear H0 H1 H2 H3;rintro c ih s h3 bQ ⟨i,av,rfl,hi,rfl,H⟩;dsimp only;by_cases aw:i<t.al.length
   ·refine jt omQ (qX ?_);refine xV (l:=zz t.al[i]) (H.sl (n:=t.al.length) (v:=q.gv) (xs:=t.al.flatMap zz) e_3) aw omQ (gF (sz:=2) (enc:=zz) (λ_=>rfl) (iW aw)) ?_;refine qP H rfl λb2 h4 H4=>?_;refine qm H4 (b:=b2) .here rfl (by simp) rfl λh5 H5=>?_;refine qQ (qZ H5 (b:=b2) .here (x:=.int .i64 t.al[i].1) rfl ?_);refine qt (n:=1) (l:=[.int .i64 t.al[i].1]) (sz:=1) H5 rfl rfl rfl rfl λv2 h6 H6=>?_;refine zw (H6.aM (P:=qB 3 1 i av (((t.al.take i).map (·.1)).map (.int .i64))) e_2) (H6.sl .here) omQ omQ rfl λv3 h7 H7=>?_;refine qi omQ ?_;refine bQ (t.al.length-(i+1)) _ _ omQ ⟨i+1,v3,rfl,by omega,rfl,?_⟩;have et:((t.al.take (i+1)).map (·.1)).map (AV.int .i64)=((t.al.take i).map (·.1)).map (AV.int .i64)++[.int .i64 t.al[i].1]:=by rw[List.take_add_one,iW aw,List.map_append,List.map_append];rfl
    rw[et];exact H7.sub (.cons .here (.drop (.drop .refl)))
   ·obtain rfl:i=t.al.length:=by omega
    refine jP omQ (qJ ?_);rw[List.take_length]at H;refine qK (qQ (qZ H (b:=b) e_1 rfl ?_));refine qK (qQ (qF H (b:=b) (off:=1) e_1 rfl (by simp) (l:=yA t.set) rfl ?_));refine qG (qq2 (bs:=t.al.map (·.1)) omQ B.set.start.1 (by grind) H (by rw[List.length_map];exact .here)) ?_;rintro _ h4 ⟨a,rfl,H4⟩;refine qK (qQ ?_);refine qy H4 (b:=b) e_2 (x:=.ptr a 0) ⟨rfl,rfl⟩ (by simp[vR]) λh5 H5=>?_;refine hj _ _ ⟨w8 t.me t.set (t.al.map (·.1)),a,rfl,by unfold zJ;grind,?_⟩;have H6:=lD.I (H5.aM (P:=aK a (w8 t.me t.set (t.al.map (·.1)))) e_1);exact H6.sub (.cons e_1 (.cons e_2 (.cons e_2 (.cons .here (.drop (.drop .refl))))))
  ·have hsf:t.au=false:=by grind
   refine qK (qQ (qu (qZ H2 (b:=b) .here (x:=.bool false) (by rw[← hsf];rfl) ?_)));refine qJ ?_;have aw:t.ap.toNat<t.jobs.length:=by omega
   have AP:t.jobs[t.ap.toNat]? =some t.jobs[t.ap.toNat]:=iW aw;have ei:=B.jobs _ (List.getElem_mem aw);have F3:t.ap.toNat<vs.length:=by omega
   refine qK (qQ (qZ H2 (b:=b) .here rfl ?_));refine qK (qQ (qF H2 (b:=b) (off:=1) .here rfl (by simp) (l:=yA t.set) rfl ?_));refine qK (qQ (qZ H2 (b:=b) .here rfl ?_));refine qK (qQ (qZ H2 (b:=b) .here (x:=.int .i64 ((t.ap.toNat:Nat):Int)) (by show some (AV.int .i64 t.ap)=_;grind) ?_));refine xV (l:=[vs[t.ap.toNat]]) (H3.sl .here) aw omQ (by rw[Nat.mul_one,List.drop_eq_getElem_cons F3];rfl) ?_;have H4:=(H3.aM (P:=.all (List.zipWith bX vs t.jobs)) e_1).cG;have hz:(List.zipWith bX vs t.jobs)[t.ap.toNat]? =some (bX vs[t.ap.toNat] t.jobs[t.ap.toNat]):=by grind
   refine qG (jQI (l:=t.jobs[t.ap.toNat]) omQ B.set.start.1 ei.1 (H4.rd (e:=32) (sz:=5) (n:=(t.jobs[t.ap.toNat]).length) (VD hz)) H4) ?_;rintro _ h5 ⟨a,rfl,H5⟩;have H6:HS g h5 (.all (List.zipWith bX vs t.jobs)::aK a (gL t.me t.set t.jobs[t.ap.toNat])::qB 35 1 t.jobs.length q.jv vs::qw b (vR T q)::_):=HS.allI (HS.cF qWe H5);have H7:=aR.I AY (H6.aM (P:=qB 35 1 t.jobs.length q.jv vs) e_2);refine qK (qQ ?_);refine qy H7 (b:=b) e_2 (x:=.ptr a 0) ⟨rfl,rfl⟩ (by simp[vR]) λh8 H8=>?_;refine hj _ _ ⟨gL t.me t.set t.jobs[t.ap.toNat],a,rfl,by unfold zJ;grind,?_⟩;have H9:=lD.I (H8.aM (P:=aK a (gL t.me t.set t.jobs[t.ap.toNat])) e_2);exact H9.sub (.cons e_1 (.cons e_1 (.cons e_1 (.cons .here (.drop .refl)))))
theorem Qe (hn:12≤n) (B:ThrB { t with ap:=t.ap+1,au:=false,al:=[],ah:=0,aI:=0 }) (H:HS g h (aJ b t::R)):aE n 43 [.ptr b 0] h λ_ h'=>HS g h' (aJ b (xx t)::R):=by
 refine aF (S:=S43) rfl omQ λk hk=>?_;unfold S43;try simp only[iZ]
 obtain⟨q,H0⟩:=aJ.E H;have hj:=B.ap;have lz:=B.jl;dsimp only at hj lz;refine qK (qQ (qZ H0 (b:=b) .here rfl ?_));refine qi omQ ?_;refine qK (qQ ?_);refine qy H0 (b:=b) .here ⟨rfl,rfl⟩ (by simp[vR]) λh1 H1=>?_;refine qR (l:=[.bool false,.ak,.int .i64 0,.int .i64 0]) rfl ?_;refine qK (qQ ?_);refine qm H1 (b:=b) .here rfl (by simp[vR]) rfl λh2 H2=>?_;have H3:=aJ.I (b:=b) (t:={ t with ap:=t.ap+1,au:=false,al:=[],ah:=0,aI:=0 }) (q:={ q with gv:=.ak }) ((H2.ak (e:=157) (sz:=2)).sub (.cons e_1 (.cons e_1 (.cons .here (.drop .refl)))));exact qG (XG omQ B (Nat.zero_le _) H3) λ_ h4 H4=>qW H4
end
end
section
variable {g h:AH} {L R:List SP}
theorem qy2 {i:Int} (h:0≤i):min (2*gu i) 8=gu (i+1):=by
 grind[gu]
theorem jQd {c:Int}:gu (min c 8)=gu c:=by
 grind[gu]
section
variable {n b:Nat} {t:qe} {q:Nd}
theorem ThrB.next (B:ThrB t) (hj:t.ap<t.jobs.length):ThrB { t with ap:=t.ap+1,au:=false,al:=[],ah:=0,aI:=0 }:=by have h1:=B.ap;have h2:=B.ao;exact⟨B.set,B.me,B.jobs,B.jl,by grind,by grind,B.aj,by simp,by simp,λ_=>rfl⟩
theorem qKD {draw:Int} (hn:12≤n) (B:ThrB t) (hg:t.al.length≤1000000) (hd:0≤draw∧draw<256) (H:HS g h (aJ b t::R)):aE n 75 [.ptr b 0,.int .u8 draw] h λ_ h'=>HS g h' (aJ b (zo t draw)::R):=by
 refine bj (S:=S75) rfl omQ λk hk=>?_;unfold S75;try simp only[iZ]
 obtain⟨q,H0⟩:=aJ.E H;clear H;have hc:=B.aI;refine qK (qQ (qu (qZ H0 (b:=b) .here rfl ?_)));refine zt ?_;refine zQ (λc s h'=>∃i:Nat,s=(.int .i64 (i:Int),.int .i64 (min t.aI 8),.int .i64 (gu i),.int .u8 draw,.ptr b 0,())∧(i:Int)≤min t.aI 8∧c=(min t.aI 8).toNat-i∧h'=h)
  ?_ (m:=(min t.aI 8).toNat) (by grind) ⟨0,rfl,by omega,rfl,rfl⟩
 rintro c ih s _ bQ ⟨i,rfl,hi,rfl,rfl⟩;dsimp only;by_cases aw:(i:Int)<min t.aI 8
 ·have hb:=R6 i;refine jt aw (qX ?_);refine Z6 omQ (zt (qi omQ ?_));refine bQ ((min t.aI 8).toNat-(i+1)) _ _ omQ ⟨i+1,?_,by omega,rfl,rfl⟩;rw[show((2:Nat):Int)=2 from rfl,show((8:Nat):Int)=8 from rfl,qy2 omQ]
  rfl
 ·refine jP aw (qJ ?_);have IL:(i:Int)=min t.aI 8:=by omega
  rw[IL,jQd];have hb:=R6 t.aI;refine yZ omQ (qi omQ (ka omQ ?_));have em:draw.tmod (gu t.aI+((1:Nat):Int))=draw%(gu t.aI+1):=by grind
  rw[em];refine qK (qQ ?_);refine qy H0 (b:=b) .here ⟨rfl,rfl⟩ (by simp[vR]) λh1 H1=>?_;refine qK (qQ ?_);refine qy H1 (b:=b) .here ⟨rfl,rfl⟩ (by simp[vR]) λh2 H2=>?_;refine qK (qQ (qZ H2 (b:=b) .here rfl ?_));unfold zo;have H3:HS g h2 (aJ b { t with bz:=draw%(gu t.aI+1),state:=3 }::R):=aJ.I (q:=q) H2;by_cases c0:draw%(gu t.aI+1)=0
  ·rw[iJ c0];refine qk c0 (qX ?_);rw[c0]at H3;exact qG (XG (t:={ t with bz:=0,state:=3 }) omQ ⟨B.set,B.me,B.jobs,B.jl,B.ap,B.ao,B.aj,B.ah,B.aI,B.nT⟩ hg H3) λ_ h4 H4=>qx (qW H4)
  ·rw[iQ c0];exact qj c0 (qJ (qx (qW H3)))
theorem qzb (hn:12≤n) (O:yK t) (H:HS g h (aJ b t::R)):aE n 28 [.ptr b 0] h λ_ h'=>HS g h' (aJ b (qs t)::R):=by
 refine aF (S:=S28) rfl omQ λk hk=>?_;unfold S28;try simp only[iZ]
 obtain⟨q,H0⟩:=aJ.E H;unfold qs;refine qK (qQ (qZ H0 (b:=b) .here rfl ?_));by_cases c:t.state=3
 ·rw[iJ c];have B:=O.b;have hp:=O.R5 c;have hl:=B.len (by have:=O.cW;grind);refine jI c (qJ ?_);refine qK (qQ (qZ H0 (b:=b) .here rfl ?_));refine zu omQ ?_;refine qK (qQ ?_);refine qy H0 (b:=b) .here ⟨rfl,rfl⟩ (by simp[vR]) λh1 H1=>?_;refine qK (qQ (qZ H1 (b:=b) .here rfl ?_));have H3:HS g h1 (aJ b { t with bz:=t.bz-1 }::R):=aJ.I (q:=q) H1;by_cases c0:t.bz-1=0
  ·rw[iJ c0];refine qk c0 (qX ?_);rw[c0]at H3;exact qG (XG (t:={ t with bz:=0 }) omQ ⟨B.set,B.me,B.jobs,B.jl,B.ap,B.ao,B.aj,B.ah,B.aI,B.nT⟩ (by grind) H3) λ_ h4 H4=>qW H4
  ·rw[iQ c0];exact qj c0 (qJ (qW H3))
 ·rw[iQ c];exact jH c (qX (qW H))
theorem qGf (hn:13≤n) (C:QN t) (hs:t.aj.length≤5) (eX:t.au=false) (hr:t.ao.length≤1000000) (H:HS g h (aJ b t::R)):aE n 83 [.ptr b 0] h λ_ h'=>HS g h' (aJ b (yE t)::R):=by
 refine aF (S:=S83) rfl omQ λk hk=>?_;unfold S83;try simp only[iZ]
 obtain⟨q,H0⟩:=aJ.E H;unfold yE;refine zb [] (λs h'=>s=(.ptr b 0,())∧HS g h' (aJ b (if(t.aj.length:Int)=t.me then{ t with aj:=t.aj++[0] }else t)::R)) (λj hj=>?_) ?_
 ·refine qK (qQ (qZ H0 (b:=b) .here rfl ?_));refine jQ H0 (n:=t.aj.length) (v:=q.sv) e_7 ?_;refine qK (qQ (qZ H0 (b:=b) .here rfl ?_));by_cases c:(t.aj.length:Int)=t.me
  ·refine qk c (qX ?_);refine qK (qQ (qZ H0 (b:=b) .here rfl ?_));refine qt (n:=1) (l:=[.int .u64 0]) (sz:=1) H0 rfl rfl rfl rfl λv2 h2 H2=>?_;refine zw (H2.aM (P:=qB 22 1 t.aj.length q.sv (t.aj.map (.int .u64))) e_8) (H2.sl .here) omQ omQ rfl λv3 h3 H3=>?_;have o3:=H3.one .here;refine qK (qQ ?_);refine qy H3 (b:=b) e_2 o3 (by simp[vR]) λh4 H4=>?_;refine hj _ _ ⟨rfl,?_⟩;rw[iJ c];refine aJ.I (q:={ q with sv:=v3 }) ?_;have e:(t.aj++[(0:Int)]).length=t.aj.length+1:=by simp
   unfold G7;rw[e,List.map_append];exact H4.sub (.cons .here (.cons e_2 (.cons e_2 (.cons e_2 (.cons e_2 (.cons e_2 (.cons e_2 (.cons .here (.drop .refl)))))))))
  ·exact qj c (qJ (hj _ _ ⟨rfl,by grind⟩))
 ·clear H0 H;rintro _ h1 ⟨rfl,H⟩;have key:∀u:qe,u=(if(t.aj.length:Int)=t.me then{ t with aj:=t.aj++[0] }else t)→QN u∧u.au=false∧u.ao=t.ao∧u.results=t.results∧u.aj.length≤6:=by
   rintro u rfl
   split
   ·have e:(t.aj++[(0:Int)]).length=t.aj.length+1:=by simp
    exact⟨C.go rfl rfl rfl rfl rfl rfl rfl (by grind) C.ah C.aI rfl rfl,eX,rfl,rfl,by grind⟩
   grind
  have key:=key _ rfl;generalize(if(t.aj.length:Int)=t.me then{ t with aj:=t.aj++[0] }else t)=u at*;obtain⟨CU,hus,Si,hue,B9⟩:=key;dsimp only;obtain⟨q,H0⟩:=aJ.E H;refine qK (qQ (qZ H0 (b:=b) .here rfl ?_));refine jQ H0 (n:=u.aj.length) (v:=q.sv) e_7 ?_;refine qK (qQ (qu (qu (qZ H0 (b:=b) .here rfl ?_))));unfold yy;by_cases c:(u.aj.length:Int)<u.set.ad
  ·rw[iJ c];exact jt c (qX (qx (qW H)))
  ·rw[iQ c];refine jP c (qJ ?_);refine qK (qQ (qZ H0 (b:=b) .here rfl ?_));refine qK (qQ (qZ H0 (b:=b) .here rfl ?_));have H1:=H0.aM (P:=dH q.lb u.ao) e_6;refine qG (jQ1 (sl:=u.aj) omQ omQ (by grind) H1 (H1.drop.rd (e:=22) (sz:=1) (n:=u.aj.length) e_6)) ?_;intro v h2 H2;have sG:=CU.ao;have hg:=CU.nT hus;have hf:=qXi (λr:Va=>jM u.aj r.2) u.ao;refine jQ H2 .here ?_;by_cases c0:(u.ao.filter λr=>jM u.aj r.2)=[]
   ·rw[iJ c0];refine qk (by grind) (qX ?_);have H3:=aJ.I (b:=b) (t:={ u with ao:=u.ao.filter λr=>!jM u.aj r.2 }) (q:=q) (H2.sub (.cons e_2 (.cons e_2 (.cons e_2 (.cons e_2 (.cons e_2 (.cons e_2 (.cons e_1 (.cons e_1 (.drop .refl))))))))));have B2:ThrB { u with ao:=u.ao.filter λr=>!jM u.aj r.2 }:=⟨CU.set,CU.me,CU.jobs,CU.jl,CU.ap,by grind,B9,CU.ah,CU.aI,CU.nT⟩;exact qG (Qe omQ (B2.next CU.lt) H3) λ_ h4 H4=>qx (qW H4)
   ·rw[iQ c0];refine qj (λh0=>c0 (iA omQ)) (qJ ?_);have o2:=H2.one .here;refine qR (l:=[.bool true,v,.int .i64 0,.int .i64 0]) (by simp only[vj,o2.1];rfl) ?_;refine qK (qQ ?_);refine qm H2 (b:=b) e_2 rfl (by simp[vR]) (by simp only[jY,AV.cells,List.all_cons,o2.2];rfl) λh3 H3=>?_;have H4:=aJ.I (b:=b) (t:={ u with ao:=u.ao.filter (λr=>!jM u.aj r.2),au:=true,al:=u.ao.filter (λr=>jM u.aj r.2),ah:=0,aI:=0 }) (q:={ q with gv:=v }) (H3.sub (.cons .here (.cons e_2 (.cons .here (.cons e_2 (.cons e_2 (.cons e_2 (.cons .here (.cons e_1 (.drop .refl))))))))));refine qG (XG (t:={ u with ao:=u.ao.filter (λr=>!jM u.aj r.2),au:=true,al:=u.ao.filter (λr=>jM u.aj r.2),ah:=0,aI:=0 }) omQ ⟨CU.set,CU.me,CU.jobs,CU.jl,CU.ap,?_,B9,by simp,by simp,λh=>by grind⟩ (by grind) H4) λ_ h4 H4=>qx (qW H4);grind
end
end
section
variable {g h:AH} {L R:List SP}
section
variable {n a b:Nat} {t:qe} {q:Nd} {x:qr}
abbrev cL (a b:Nat) (t:qe) (x:qr) (q:Nd) (R:List SP):List SP :=
 aK a x::qw b (vR t { q with nv:=.ptr a 0 })::aR t.jobs q.jv::qB 157 2 t.al.length q.gv (t.al.flatMap zz)::eY t.af q.pv::qB 56 4 t.results.length q.rv (t.results.flatMap XB)::dH q.lb t.ao::qB 22 1 t.aj.length q.sv (t.aj.map (.int .u64))::R
theorem cL.I (hx:t.now=some x) (H:HS g h (cL a b t x q R)):HS g h (aJ b t::R):=by refine aJ.I (q:={ q with nv:=.ptr a 0 }) ?_;have H1:=lD.I H;unfold G7;rw[hx];exact H1.sub (.cons e_1 (.cons e_1 (.cons e_1 (.cons .here .refl))))
theorem aJ.V (hx:t.now=some x) (H:HS g h (aJ b t::R)):∃a q,HS g h (cL a b t x q R):=by
 obtain⟨q,H0⟩:=aJ.E H;unfold G7 at H0;rw[hx]at H0;obtain⟨a,e,H1⟩:=lD.E (H0.aM (P:=lD (some x) q.nv) e_3);have eq:{ q with nv:=.ptr a 0 }=q:=by rw[← e]
 grind
theorem UB {a:Nat} (hn:1≤n) (H:HS g h L) (s:bi L (aK a x) R):aE n 49 [.ptr a 0] h λr h'=>r=.int .i64 (jK x)∧h'=h:=by obtain⟨q,H1⟩:=aK.E (H.aM s);exact qWd hn H1 .here
theorem Sj {a:Nat} (hn:1≤n) (H:HS g h L) (s:bi L (aK a x) R):aE n 74 [.ptr a 0] h λr h'=>r=.int .i64 (JC x)∧h'=h:=by obtain⟨q,H1⟩:=aK.E (H.aM s);exact jXr hn H1 .here
theorem qxf {a:Nat} (hn:1≤n) (H:HS g h L) (s:bi L (aK a x) R):aE n 77 [.ptr a 0] h λr h'=>r=.int .i64 (yJ x)∧h'=h:=by obtain⟨q,H1⟩:=aK.E (H.aM s);exact jJF hn H1 .here
theorem Mc {a:Nat} (hn:1≤n) (H:HS g h L) (s:bi L (aK a x) R):aE n 79 [.ptr a 0] h λr h'=>r=.int .u64 x.aa∧h'=h:=by obtain⟨q,H1⟩:=aK.E (H.aM s);exact qYR hn H1 .here
theorem Vs {a:Nat} (hn:1≤n) (H:HS g h L) (s:bi L (aK a x) R):aE n 47 [.ptr a 0] h λr h'=>r=.bV [.int .u64 x.aP,.bool x.begun]∧h'=h:=by obtain⟨q,H1⟩:=aK.E (H.aM s);exact qjA hn H1 .here
theorem jQt {pick:Int} (hn:12≤n) (O:zH x) (H:HS g h (cL a b t x q R)):aE n 58 [.ptr b 0,.int .i64 pick] h λr h'=>
  ∃z:Ds,r=.agg (Uz (jJ t x pick) z)∧HS g h' (uK (jJ t x pick) z++cL a b t x q R):=by
 refine bj (S:=S58) rfl omQ λk hk=>?_;unfold S58;try simp only[iZ]
 refine qP H rfl λv0 h1 H1=>?_;refine qK (qQ (qZ H1 (b:=b) e_2 rfl ?_));refine qG (Vs omQ H1 e_1) ?_;rintro _ _ ⟨rfl,rfl⟩;refine qD rfl (qD rfl ?_);refine qG (UB omQ H1 e_1) ?_;rintro _ _ ⟨rfl,rfl⟩;refine zb [] (λs h'=>s=(.int .i64 (if qM x=true then 2 else jK x),.int .u64 x.aP,.ptr a 0,.ptr v0 0,.int .i64 pick,.ptr b 0,())∧HS g h' (aK a x::qw v0 [.int .i64 0,.int .i64 0,.int .i64 0,.bool false,.int .i64 0,.int .i64 0,.int .u64 0,.int .u64 0,.int .i64 0,.int .i64 0,.ak,.ak,.ak,.str []]::qw b (vR t { q with nv:=.ptr a 0 })::(cL a b t x q R).drop 2)) (λj hj=>?_) ?_
 ·refine qG (Ji omQ O.c (H1.aM (P:=aK a x) e_1)) ?_;rintro _ h2 ⟨rfl,H2⟩;cases hw:qM x with
  |true=>exact qX (hj _ _ ⟨by grind,H2⟩)
  |false=>exact qJ (hj _ _ ⟨by grind,H2⟩)
 ·clear H H1;rintro _ nP ⟨rfl,cq⟩;dsimp only;refine qY ?_
  try dsimp only
  refine qK (qQ (qZ cq (b:=b) e_2 rfl ?_));refine qK (qQ (qZ cq (b:=b) e_2 rfl ?_));refine qK (qQ (qu (qZ cq (b:=b) e_2 rfl ?_)));refine qK (qQ (qu (qZ cq (b:=b) e_2 rfl ?_)));refine qG (qxf omQ cq .here) ?_;rintro _ _ ⟨rfl,rfl⟩;refine qG (Mc omQ cq .here) ?_;rintro _ _ ⟨rfl,rfl⟩;refine qK (qQ (qZ cq (b:=b) e_2 rfl ?_));refine qG (qjH omQ O cq) λrv ID sO=>?_;refine qG (qYu omQ O (sO.aM (P:=aK a x) e_1)) λcv P1 sP=>?_;refine qG (Oo omQ O (sP.aM (P:=aK a x) e_1)) ?_;rintro fv h46 ⟨fe,sQ⟩;refine qG (Oj omQ O (sQ.aM (P:=aK a x) e_1)) ?_;rintro _ h48 ⟨rfl,uL⟩;have o1:=uL.one (v:=rv) e_3;have o2:=uL.one (v:=cv) e_2;have o3:=uL.one (v:=fv) e_1;refine qR (l:=Uz (jJ t x pick) ⟨rv,cv,fe,fv⟩) (by simp only[vj,o1.1,o2.1,o3.1];rfl) ?_;refine qm uL (b:=v0) e_4 rfl (by simp) (by simp only[jY,Uz,AV.cells,List.all_cons,o1.2,o2.2,o3.2];rfl) λh50 H50=>?_;refine qh sQ e_5 rfl uL e_5 rfl (HS.lt cq e_2) ?_;refine qh sP e_4 rfl sQ e_5 rfl (HS.lt cq e_2) ?_;refine qh sO e_3 rfl sP e_4 rfl (HS.lt cq e_2) ?_;refine qh cq e_2 rfl sO e_3 rfl (HS.lt cq e_2) ?_;refine qh cq e_2 rfl cq e_2 rfl (HS.lt cq e_2) ?_;refine qh cq e_2 rfl cq e_2 rfl (HS.lt cq e_2) ?_;refine qh sQ e_5 rfl uL e_5 rfl (HS.lt cq e_2) ?_;refine qh sP e_4 rfl sQ e_5 rfl (HS.lt cq e_2) ?_;refine qh sO e_3 rfl sP e_4 rfl (HS.lt cq e_2) ?_;refine qh cq e_2 rfl sO e_3 rfl (HS.lt cq e_2) ?_;refine qh cq e_2 rfl cq e_2 rfl (HS.lt cq e_2) ?_;refine qh cq e_2 rfl cq e_2 rfl (HS.lt cq e_2) ?_;refine qh sQ e_5 rfl uL e_5 rfl (HS.lt cq e_2) ?_;refine qh sP e_4 rfl sQ e_5 rfl (HS.lt cq e_2) ?_;refine qh sO e_3 rfl sP e_4 rfl (HS.lt cq e_2) ?_;refine qh cq e_2 rfl sO e_3 rfl (HS.lt cq e_2) ?_;refine qh cq e_2 rfl cq e_2 rfl (HS.lt cq e_2) ?_;refine qh cq e_2 rfl cq e_2 rfl (HS.lt cq e_2) ?_;refine qh sQ e_5 rfl uL e_5 rfl (HS.lt cq e_2) ?_;refine qh sP e_4 rfl sQ e_5 rfl (HS.lt cq e_2) ?_;refine qh sO e_3 rfl sP e_4 rfl (HS.lt cq e_2) ?_;refine qh cq e_2 rfl sO e_3 rfl (HS.lt cq e_2) ?_;refine qh cq e_2 rfl cq e_2 rfl (HS.lt cq e_2) ?_;refine qh cq e_2 rfl cq e_2 rfl (HS.lt cq e_2) ?_;refine qh sQ e_5 rfl uL e_5 rfl (HS.lt cq e_2) ?_;refine qh sP e_4 rfl sQ e_5 rfl (HS.lt cq e_2) ?_;refine qh sO e_3 rfl sP e_4 rfl (HS.lt cq e_2) ?_;refine qh cq e_2 rfl sO e_3 rfl (HS.lt cq e_2) ?_;refine qh cq e_2 rfl cq e_2 rfl (HS.lt cq e_2) ?_;refine qh cq e_2 rfl cq e_2 rfl (HS.lt cq e_2) ?_;refine qx (qF H50 (b:=v0) (off:=0) .here rfl omQ (l:=Uz (jJ t x pick) ⟨rv,cv,fe,fv⟩) rfl ?_);refine qW ⟨⟨rv,cv,fe,fv⟩,rfl,?_⟩;exact H50.sub (.cons e_4 (.cons e_3 (.cons e_2 (.cons e_1 (.drop .refl)))))
end
end
section
variable {g h:AH} {L R:List SP}
section
variable {n a b:Nat} {t:qe} {q:Nd} {x:qr}
theorem jJb (hn:14≤n) (C:QN t) (eX:t.au=false) (hr:t.ao.length≤1000000) (H:HS g h (aJ b t::R)):aE n 82 [.ptr b 0] h λ_ h'=>HS g h' (aJ b (wq t)::R):=by
 refine aF (S:=S82) rfl omQ λk hk=>?_;unfold S82;try simp only[iZ]
 obtain⟨q,H0⟩:=aJ.E H;unfold wq;refine qK (qQ (qZ H0 (b:=b) .here rfl ?_));refine qG (qj2 omQ (H0.aM (P:=dH q.lb t.ao) e_6)) ?_;rintro _ _ ⟨rfl,rfl⟩;by_cases c:t.ao=[]
 ·rw[iJ c];refine qk (by grind) (qX ?_);exact qG (Qe omQ (C.toThrB.next C.lt) H) λ_ h1 H1=>qW H1
 ·rw[iQ c];refine qj (λh0=>c (iA omQ)) (qJ ?_);refine qK (qQ ?_);refine qy H0 (b:=b) .here ⟨rfl,rfl⟩ (by simp[vR]) λh1 H1=>?_;refine qK (qQ ?_);refine qy H1 (b:=b) .here (x:=.ak) ⟨rfl,rfl⟩ (by simp[vR]) λh2 H2=>?_;have H3:=aJ.I (b:=b) (t:={ t with state:=5,aj:=[] }) (q:={ q with sv:=.ak }) ((H2.ak (e:=22) (sz:=1)).sub (.cons e_1 (.cons e_1 (.cons e_1 (.cons e_1 (.cons e_1 (.cons e_1 (.cons e_1 (.cons .here (.drop .refl))))))))));refine qG (qGf (t:={ t with state:=5,aj:=[] }) omQ (C.go rfl rfl rfl rfl rfl rfl rfl (Nat.zero_le _) C.ah C.aI rfl rfl) (Nat.zero_le _) eX hr H3) λ_ h4 H4=>qW H4
theorem OK {w:Int} (hn:14≤n) (C:QN t) (eX:t.au=false) (hs:t.aj.length≤4) (hr:t.ao.length≤1000000) (H:HS g h (aJ b t::R)):aE n 52 [.ptr b 0,.int .u64 w] h λ_ h'=>HS g h' (aJ b (yE { t with aj:=t.aj++[w] })::R):=by
 refine bj (S:=S52) rfl omQ λk hk=>?_;unfold S52;try simp only[iZ]
 obtain⟨q,H0⟩:=aJ.E H;refine qK (qQ (qZ H0 (b:=b) .here rfl ?_));refine qt (n:=1) (l:=[.int .u64 w]) (sz:=1) H0 rfl rfl rfl rfl λv2 h2 H2=>?_;refine zw (H2.aM (P:=qB 22 1 t.aj.length q.sv (t.aj.map (.int .u64))) e_8) (H2.sl .here) omQ omQ rfl λv3 h3 H3=>?_;have o3:=H3.one .here;refine qK (qQ ?_);refine qy H3 (b:=b) e_2 o3 (by simp[vR]) λh4 H4=>?_;have e:(t.aj++[w]).length=t.aj.length+1:=by simp
 have H5:HS g h4 (aJ b { t with aj:=t.aj++[w] }::R):=by refine aJ.I (q:={ q with sv:=v3 }) ?_;unfold G7;rw[e,List.map_append];exact H4.sub (.cons .here (.cons e_2 (.cons e_2 (.cons e_2 (.cons e_2 (.cons e_2 (.cons e_2 (.cons .here (.drop .refl)))))))))
 exact qG (qGf (t:={ t with aj:=t.aj++[w] }) omQ (C.go rfl rfl rfl rfl rfl rfl rfl (by grind) C.ah C.aI rfl rfl) (by grind) eX hr H5) λ_ h4 H4=>qW H4
theorem qv9 {fin:Int} (hn:14≤n) (C:QN t) (hr:t.ao.length+t.al.length≤1000000) (H:HS g h (aJ b t::R)):aE n 76 [.ptr b 0,.int .i64 fin] h λ_ h'=>HS g h' (aJ b (kX t fin)::R):=by
 refine bj (S:=S76) rfl omQ λk hk=>?_;unfold S76;try simp only[iZ]
 obtain⟨q,H0⟩:=aJ.E H;unfold kX;refine zb [] (λs h'=>s=(.ptr b 0,())∧HS g h' (aJ b (if fin=4 then{ t with ao:=t.ao++t.al }else t)::R)) (λj hj=>?_) ?_
 ·by_cases c:fin=4
  ·refine qk c (qX ?_);refine qK (qQ (qu (qZ H0 (b:=b) .here rfl ?_)));refine jQ H0 (n:=t.al.length) (v:=q.gv) e_2 ?_;refine zQ (λc s h'=>∃i:Nat,s=(.int .i64 (i:Int),.int .i64 (t.al.length:Int),q.gv,.ptr b 0,())∧i≤t.al.length∧c=t.al.length-i∧HS g h' (G7 b { t with ao:=t.ao++t.al.take i } q R))
    ?_ (m:=t.al.length) (by grind) ⟨0,rfl,Nat.zero_le _,rfl,by simp_all⟩
   clear H0 H;rintro c ih s h3 bQ ⟨i,rfl,hi,rfl,H⟩;dsimp only;by_cases aw:i<t.al.length
   ·refine jt omQ (qX ?_);refine xV (l:=zz t.al[i]) (H.sl (n:=t.al.length) (v:=q.gv) (xs:=t.al.flatMap zz) e_2) aw omQ (gF (sz:=2) (enc:=zz) (λ_=>rfl) (iW aw)) ?_;refine qP H rfl λb2 h4 H4=>?_;refine qm H4 (b:=b2) .here rfl (by simp) rfl λh5 H5=>?_;refine qK (qQ (qZ H5 (b:=b) e_1 rfl ?_));refine qQ (qZ H5 (b:=b2) .here (x:=.int .u64 t.al[i].2) rfl ?_);refine qQ (qZ H5 (b:=b2) .here (x:=.int .i64 t.al[i].1) rfl ?_);refine qt (n:=1) (l:=[.int .i64 t.al[i].1]) (sz:=1) H5 rfl rfl rfl rfl λv2 h6 H6=>?_;have H7:=H6.aM (P:=dH q.lb (t.ao++t.al.take i)) e_8;refine qG (OW (z:=t.al[i].2) (bs:=[t.al[i].1]) omQ (by grind) H7 (H7.drop.rd (sz:=1) (n:=1) .here)) λ_ h8 H8=>?_;refine qi omQ ?_;refine bQ (t.al.length-(i+1)) _ _ omQ ⟨i+1,rfl,by omega,rfl,?_⟩;have et:t.ao++t.al.take (i+1)=(t.ao++t.al.take i)++[(t.al[i].1,t.al[i].2)]:=by rw[List.take_add_one,iW aw,List.append_assoc];rfl
    unfold G7;rw[et];exact H8.sub (.cons e_3 (.cons e_3 (.cons e_3 (.cons e_3 (.cons e_3 (.cons e_3 (.cons .here (.cons e_2 (.drop (.drop .refl))))))))))
   ·obtain rfl:i=t.al.length:=by omega
    refine jP omQ (qJ ?_);rw[List.take_length]at H;exact hj _ _ ⟨rfl,by rw[iJ c];grind[aJ.I]⟩
  ·exact qj c (qJ (hj _ _ ⟨rfl,by grind⟩))
 ·clear H0 H;rintro _ h1 ⟨rfl,H⟩;dsimp only;refine qG (Qe omQ ?_ H) λ_ h4 H4=>qx (qW H4);have h1:=C.ap;have h2:=C.ao;have h3:=C.lt
  split
  ·exact⟨C.set,C.me,C.jobs,C.jl,by grind,by grind,C.aj,by simp,by simp,λ_=>rfl⟩
  ·exact C.toThrB.next C.lt
theorem qkA {an:cx} {draw:Int} (hn:13≤n) (B:ThrB t) (hg:t.al.length≤1000000) (hd:0≤draw∧draw<256) (H:HS g h (aJ b t::R)):aE n 51 [.ptr b 0,.agg (xf an),.int .u8 draw] h λ_ h'=>
  HS g h' (aJ b (if an.err=0∧an.word≠0∧(t.br=false∨an.word=t.since)then{ t with br:=true,since:=an.word }else zo t draw)::R):=by
 refine cX (S:=S51) rfl omQ λk hk=>?_;unfold S51;try simp only[iZ]
 obtain⟨q,H0⟩:=aJ.E H;clear H;refine qP H0 rfl λv0 h1 H1=>?_;clear H0;have no:∀c:¬(an.err=0∧an.word≠0∧(t.br=false∨an.word=t.since)),wp (ze (callT tab qz k) (.fn 75 [] []) [.ptr b 0,.int .u8 draw] h1 λ_ h'=>some (.bV [],h')) λ_ h'=>
  HS g h' (aJ b (if an.err=0∧an.word≠0∧(t.br=false∨an.word=t.since)then{ t with br:=true,since:=an.word }else zo t draw)::R):=λc=>by
  rw[iQ c];exact qG (qKD omQ B hg hd (aJ.I (q:=q) H1.drop)) λ_ h2 H2=>qW H2
 refine qQ (qZ H1 (b:=v0) .here (x:=.int .i64 an.err) rfl ?_);by_cases c1:an.err=0
 ·refine qk c1 ?_;refine qY ?_
  try dsimp only
  refine qd (qQ (qZ H1 (b:=v0) .here (x:=.int .u64 an.word) rfl ?_));by_cases c2:an.word=0
  ·refine jI c2 (qE ?_);refine qY ?_
   try dsimp only
   refine qb (qY ?_)
   try dsimp only
   refine xJ (qY ?_)
   try dsimp only
   refine qb (qI (qJ ?_));exact no λh=>h.2.1 c2
  ·refine jH c2 (qE ?_);refine qY ?_
   try dsimp only
   refine qd ?_
   have yes:∀c:(t.br=false∨an.word=t.since),wp (jG (.ptr v0 0) 0 λv22=>ja h1 v22 λri=>yF (.ptr b 0) λv24=>jG v24 25 λrk=>zx h1 rk (.bool true) 1 λBM=>yF (.ptr b 0) λBQ=>jG BQ 24 λv28=>
     zx BM v28 ri 1 λtF=>Kh v22 none ri h1 BM h1.nx (some (.bV [],tF))) λ_ h'=>
      HS g h' (aJ b (if an.err=0∧an.word≠0∧(t.br=false∨an.word=t.since)then{ t with br:=true,since:=an.word }else zo t draw)::R):=λc=>by
    rw[iJ ⟨c1,c2,c⟩];refine qu (qZ H1 (b:=v0) .here (x:=.int .u64 an.word) rfl ?_);refine qK (qQ ?_);refine qy H1 (b:=b) e_1 ⟨rfl,rfl⟩ (by simp[vR]) λh2 H2=>?_;refine qK (qQ ?_);refine qy H2 (b:=b) .here ⟨rfl,rfl⟩ (by simp[vR]) λh3 H3=>?_;refine qh H1 .here rfl H2 e_1 rfl (HS.lt H1 .here) ?_;exact qW (aJ.I (q:=q) (H3.sub (.cons .here (.drop .refl))))
   by_cases c3:t.br=false
   ·refine qK (qQ (qZ H1 (b:=b) e_1 (x:=.bool false) (by rw[← c3];rfl) ?_));refine jo (qY ?_)
    try dsimp only
    refine jC (qY ?_)
    try dsimp only
    refine qd (qE ?_)
    try dsimp only
    refine qE (qX ?_);refine qY ?_;exact yes (.inl c3)
   ·have c3':t.br=true:=by grind
    refine qK (qQ (qZ H1 (b:=b) e_1 (x:=.bool true) (by rw[← c3'];rfl) ?_));refine jd (qY ?_)
    try dsimp only
    refine qo (qQ (qZ H1 (b:=v0) .here (x:=.int .u64 an.word) rfl ?_));refine qK (qQ (qZ H1 (b:=b) e_1 rfl ?_));by_cases c4:an.word=t.since
    ·refine qk c4 ?_;refine qY ?_
     try dsimp only
     refine qd (qI ?_)
     try dsimp only
     refine qE (qX ?_);refine qY ?_;exact yes (.inr c4)
    ·refine qj c4 ?_;refine qY ?_
     try dsimp only
     refine qd (qI ?_)
     try dsimp only
     refine qE (qJ ?_);exact no λh=>by grind
 ·refine qj c1 ?_;refine qY ?_
  try dsimp only
  refine qb (qI (qY ?_))
  try dsimp only
  refine qb (qY ?_)
  try dsimp only
  refine xJ (qY ?_)
  try dsimp only
  refine qb (qI (qJ ?_));exact no λh=>c1 h.1
theorem eY.E {r:List xB} {v:AV} (H:HS g h (eY r v::R)):∃zs:List (xB×Ds),zs.map (·.1)=r∧HS g h (qB 121 14 zs.length v (zs.flatMap λz=>Uz z.1 z.2):: .all (zs.flatMap λz=>uK z.1 z.2)::R):=by obtain⟨zs,H⟩:=H.eU;exact⟨zs,H.cG.fi⟩
theorem eY.I {r:List xB} {v:AV} {zs:List (xB×Ds)} (hl:zs.map (·.1)=r) (H:HS g h (qB 121 14 zs.length v (zs.flatMap λz=>Uz z.1 z.2):: .all (zs.flatMap λz=>uK z.1 z.2)::R)):HS g h (eY r v::R) :=
 HS.fB zs (HS.allI (A:=[_,_,_]) (HS.fO hl H))
theorem VN {A B:List SP} (H:HS g h (.all A::(B++R))):HS g h (.all (A++B)::R):=by refine HS.allI ?_;rw[List.append_assoc];exact H.cG
theorem qz7 {draw pick:Int} (hn:15≤n) (C:QN t) (hx:t.now=some x) (hp:t.af.length≤1000000) (hcf:t.ah≤1000000) (hrs:(t.results.length:Int)≤t.ap+(if t.au=true then 1 else 0)) (hd:0≤draw∧draw<256) (H:HS g h (aJ b t::R)) :
  aE n 50 [.ptr b 0,.int .u8 draw,.int .i64 pick] h λ_ h'=>HS g h' (aJ b (zv t x draw pick)::R):=by
 refine cX (S:=S50) rfl omQ λk hk=>?_;unfold S50;try simp only[iZ]
 have hN:=C.now x hx;have O:=hN.1;have Br:t.ao.length+t.al.length≤63000:=C.len (by grind);have hT:=C.ah;have hCf:=C.aI;have lz:=C.jl;have Sh:=C.ap;have aw:=C.lt;obtain⟨a,q,H0⟩:=aJ.V hx H;clear H;refine qK (qQ (qZ H0 (b:=b) e_1 rfl ?_));refine qY ?_
 try dsimp only
 refine qK (qQ (qZ H0 (b:=b) e_1 rfl ?_));refine qG (jQt omQ O H0) ?_;rintro _ h1 ⟨z,rfl,H1⟩;have H1:HS g h1 (qB 170 2 (jJ t x pick).reads.length z.rv ((jJ t x pick).reads.flatMap zz)::qB 170 2 (jJ t x pick).cells.length z.cv ((jJ t x pick).cells.flatMap zz)::qB z.fe 1 (jJ t x pick).ik.length z.fv ((jJ t x pick).ik.map (.int .i64))::cL a b t x q R):=H1;have o1:=H1.one (v:=z.rv) .here;have o2:=H1.one (v:=z.cv) e_1;have o3:=H1.one (v:=z.fv) e_2;have a1:jY (Uz (jJ t x pick) z)=true:=by simp only[jY,Uz,List.all_cons,o1.2,o2.2,o3.2];rfl
 refine qt (n:=1) (l:=Uz (jJ t x pick) z) (sz:=14) H1 rfl rfl rfl a1 λv2 h2 H2=>?_;obtain⟨zs,AK,H3⟩:=eY.E (H2.aM (P:=eY t.af q.pv) e_8);have Aj:zs.length=t.af.length:=by grind
 refine zw H3 (H3.sl e_2) omQ omQ a1 λv3 h3 H4=>?_;have op:=H4.one .here;refine qK (qQ ?_);refine qy H4 (b:=b) e_7 op (by simp[vR]) λh4 H5=>?_;refine qh H0 e_1 rfl H1 e_4 rfl (HS.lt H0 e_1) ?_
 try dsimp only
 have B1:=VN (A:=zs.flatMap λz=>uK z.1 z.2) (B:=uK (jJ t x pick) z) (H5.sub (.cons e_2 (.cons e_3 (.cons e_3 (.cons e_3 .refl)))));have eA:(zs++[(jJ t x pick,z)]).flatMap (λz=>uK z.1 z.2)=(zs.flatMap λz=>uK z.1 z.2)++uK (jJ t x pick) z:=by simp
 have eB:(zs++[(jJ t x pick,z)]).flatMap (λz=>Uz z.1 z.2)=(zs.flatMap λz=>Uz z.1 z.2)++Uz (jJ t x pick) z:=by simp
 have eC:(zs++[(jJ t x pick,z)]).length=zs.length+1:=by simp
 have B2:=eY.I (v:=v3) (zs:=zs++[(jJ t x pick,z)]) (r:=t.af++[jJ t x pick]) (by grind) (by rw[eA,eB,eC];exact B1.sub (.cons e_2 (.cons .here .refl)));have H6:HS g h4 (cL a b { t with af:=t.af++[jJ t x pick] } x { q with pv:=v3 } R):=B2.sub (.cons e_3 (.cons e_1 (.cons e_2 (.cons e_2 (.cons .here (.cons e_1 (.cons e_1 (.cons e_1 (.drop .refl)))))))));clear H0 H1 H2 H3 H4 H5 B1 B2 eA eB eC;refine qK (qQ (qu (qZ H6 (b:=b) e_1 (x:=.int .i64 t.ah) rfl ?_)));refine qi omQ ?_;refine qK (qQ (qu ?_));refine qy H6 (b:=b) e_1 ⟨rfl,rfl⟩ (by simp[vR]) λh5 H7=>?_;have H8:HS g h5 (cL a b { t with af:=t.af++[jJ t x pick],ah:=t.ah+1 } x { q with pv:=v3 } R):=H7.sub (.cons e_1 (.cons .here .refl));have pu:(t.af++[jJ t x pick]).length=t.af.length+1:=by simp
 have hps:((t.af++[jJ t x pick]).length:Int)=(t.af.length:Int)+1:=by simp
 clear H6 H7;generalize{ q with pv:=v3 }=q at*;refine qY ?_
 try dsimp only
 unfold zv;dsimp only;refine qG (UB omQ H8 .here) ?_;rintro _ _ ⟨rfl,rfl⟩;by_cases c5:jK x=5
 ·rw[iJ c5];refine qk c5 (qX ?_);refine qK (qQ (qu (qZ H8 (b:=b) e_1 (x:=.int .i64 t.aI) rfl ?_)));refine qi omQ ?_;refine qK (qQ (qu ?_));refine qy H8 (b:=b) e_1 ⟨rfl,rfl⟩ (by simp[vR]) λh6 H9=>?_;have HA:HS g h6 (cL a b { t with af:=t.af++[jJ t x pick],ah:=t.ah+1,aI:=t.aI+1 } x q R):=H9.sub (.cons e_1 (.cons .here .refl));clear H8 H9;have C3:QN { t with af:=t.af++[jJ t x pick],ah:=t.ah+1,aI:=t.aI+1 } :=
   C.go rfl rfl rfl rfl rfl rfl rfl C.aj (by grind) (by grind) rfl rfl
  have no:∀c:¬(0≤JC x∧JC x<t.set.ad),wp (ze (callT tab qz k) (.fn 75 [] []) [.ptr b 0,.int .u8 draw] h6 λ_ h'=>xL [] h' λh'=>some (.bV [],h')) λ_ h'=>
    HS g h' (aJ b (if 0≤JC x∧JC x<t.set.ad then{ t with af:=t.af++[jJ t x pick],ah:=t.ah+1,aI:=t.aI+1,state:=2,dj:=JC x,br:=false }else zo { t with af:=t.af++[jJ t x pick],ah:=t.ah+1,aI:=t.aI+1 } draw)::R):=λc=>by
   rw[iQ c];exact qG (qKD (t:={ t with af:=t.af++[jJ t x pick],ah:=t.ah+1,aI:=t.aI+1 }) omQ C3.toThrB (by grind) hd (cL.I hx HA)) λ_ h2 H2=>qx (qW H2)
  refine qY ?_
  try dsimp only
  refine qG (Sj omQ HA .here) ?_;rintro _ _ ⟨rfl,rfl⟩;by_cases d1:0≤JC x
  ·refine z7 d1 (qd ?_);refine qG (Sj omQ HA .here) ?_;rintro _ _ ⟨rfl,rfl⟩;refine qK (qQ (qu (qu (qZ HA (b:=b) e_1 (x:=.int .i64 t.set.ad) rfl ?_))));by_cases d2:JC x<t.set.ad
   ·refine jt d2 (qE ?_);refine qh HA e_1 rfl HA e_1 rfl (HS.lt HA e_1) ?_
    try dsimp only
    refine qX ?_;rw[iJ ⟨d1,d2⟩];refine qG (Sj omQ HA .here) ?_;rintro _ _ ⟨rfl,rfl⟩;refine qK (qQ ?_);refine qy HA (b:=b) e_1 ⟨rfl,rfl⟩ (by simp[vR]) λh7 HB=>?_;refine qK (qQ ?_);refine qy HB (b:=b) .here ⟨rfl,rfl⟩ (by simp[vR]) λh8 HC=>?_;refine qK (qQ ?_);refine qy HC (b:=b) .here ⟨rfl,rfl⟩ (by simp[vR]) λh9 HD=>?_;refine qW ?_;exact cL.I (t:={ t with af:=t.af++[jJ t x pick],ah:=t.ah+1,aI:=t.aI+1,state:=2,dj:=JC x,br:=false }) (q:=q) hx (HD.sub (.cons e_1 (.cons .here .refl)))
   ·refine jP d2 (qE ?_);refine qh HA e_1 rfl HA e_1 rfl (HS.lt HA e_1) ?_
    try dsimp only
    exact qJ (no λh=>d2 h.2)
  ·refine zn d1 (qb (qI ?_))
   try dsimp only
   exact qJ (no λh=>d1 h.1)
 ·rw[iQ c5];refine qj c5 (qJ ?_);have C2:∀s:Int,QN { t with af:=t.af++[jJ t x pick],ah:=t.ah+1,state:=s }:=λs=>
   C.go rfl rfl rfl rfl rfl rfl rfl C.aj (by grind) (by grind) rfl rfl
  refine qG (UB omQ H8 .here) ?_;rintro _ _ ⟨rfl,rfl⟩;by_cases c3:jK x=3
  ·rw[iJ c3];refine qk c3 (qX ?_);by_cases ca:t.dz=true
   ·rw[iJ ca];refine qK (qQ (qZ H8 (b:=b) e_1 (x:=.bool true) (by rw[← ca];rfl) ?_));refine qX ?_;exact qG (XG (t:={ t with af:=t.af++[jJ t x pick],ah:=t.ah+1 }) omQ (C2 t.state).toThrB (by grind) (cL.I hx H8)) λ_ h6 H6=>qW H6
   ·have cf:t.dz=false:=by grind
    rw[iQ ca];refine qK (qQ (qZ H8 (b:=b) e_1 (x:=.bool false) (by rw[← cf];rfl) ?_));refine qJ (qK (qQ ?_));refine qy H8 (b:=b) e_1 ⟨rfl,rfl⟩ (by simp[vR]) λh6 H9=>?_;refine qx (qW ?_);exact cL.I (t:={ t with af:=t.af++[jJ t x pick],ah:=t.ah+1,state:=4 }) (q:=q) hx (H9.sub (.cons e_1 (.cons .here .refl)))
  ·rw[iQ c3];refine qj c3 (qJ ?_);by_cases cs:t.au=true
   ·rw[iJ cs];refine qK (qQ (qu (qZ H8 (b:=b) e_1 (x:=.bool true) (by rw[← cs];rfl) ?_)));refine qX (qG (UB omQ H8 .here) ?_);rintro _ _ ⟨rfl,rfl⟩;exact qG (qv9 (t:={ t with af:=t.af++[jJ t x pick],ah:=t.ah+1 }) omQ (C2 t.state) (by grind) (cL.I hx H8)) λ_ h6 H6=>qx (qW H6)
   ·have cf:t.au=false:=by grind
    rw[iQ cs];refine qK (qQ (qu (qZ H8 (b:=b) e_1 (x:=.bool false) (by rw[← cf];rfl) ?_)));refine qJ (qY ?_)
    try dsimp only
    refine qY ?_
    try dsimp only
    refine qK (qQ (qZ H8 (b:=b) e_1 rfl ?_));refine qG (UB omQ H8 .here) ?_;rintro _ _ ⟨rfl,rfl⟩;refine qG (qxf omQ H8 .here) ?_;rintro _ _ ⟨rfl,rfl⟩;refine qG (Oj omQ O H8) ?_;rintro _ h6 ⟨rfl,H9⟩;refine qG (Mc omQ H9 .here) ?_;rintro _ _ ⟨rfl,rfl⟩;refine qR (l:=XB ⟨jK x,yJ x,zc x,x.aa⟩) rfl ?_;refine qt (n:=1) (l:=XB ⟨jK x,yJ x,zc x,x.aa⟩) (sz:=4) H9 rfl rfl rfl rfl λv4 h7 HA=>?_;have hrl7:t.results.length≤7:=by grind
    refine zw (HA.aM (P:=qB 56 4 t.results.length q.rv (t.results.flatMap XB)) e_6) (HA.sl .here) omQ omQ rfl λv5 h8 HB=>?_;have o5:=HB.one .here;refine qK (qQ ?_);refine qy HB (b:=b) e_3 o5 (by simp[vR]) λh9 HC=>?_;refine qh H9 e_1 rfl H9 e_1 rfl (HS.lt H8 e_1) ?_;refine qh H8 e_1 rfl H9 e_1 rfl (HS.lt H8 e_1) ?_;refine qh H8 e_1 rfl H8 e_1 rfl (HS.lt H8 e_1) ?_;refine qh H8 e_1 rfl H8 e_1 rfl (HS.lt H8 e_1) ?_
    try dsimp only
    have eR:(t.results++[(⟨jK x,yJ x,zc x,x.aa⟩:VV)]).length=t.results.length+1:=by simp
    have eF:(t.results++[(⟨jK x,yJ x,zc x,x.aa⟩:VV)]).flatMap XB=t.results.flatMap XB++XB ⟨jK x,yJ x,zc x,x.aa⟩:=by simp
    have HD:HS g h9 (cL a b { t with af:=t.af++[jJ t x pick],ah:=t.ah+1,results:=t.results++[⟨jK x,yJ x,zc x,x.aa⟩] } x { q with rv:=v5 } R):=by unfold cL;rw[eR,eF];exact HC.sub (.cons e_3 (.cons .here (.cons e_2 (.cons e_2 (.cons e_2 (.cons .here (.cons e_1 (.cons e_1 (.drop .refl)))))))))
    clear H8 H9 HA HB HC eF;refine qY ?_
    try dsimp only
    refine qK (qQ (qZ HD (b:=b) e_1 rfl ?_));refine qG (Mc omQ HD .here) ?_;rintro _ _ ⟨rfl,rfl⟩;refine qG (Oo omQ O HD) ?_;rintro fv hA ⟨fe,HE⟩;have II:=K7 O (hN.2.2.2.trans cf);have HF:=HE.aM (P:=dH q.lb t.ao) e_7;refine qG (OW (z:=x.aa) (bs:=zk x) omQ omQ HF (HF.drop.rd .here)) λ_ hB HG=>?_;refine qh HD e_1 rfl HE e_2 rfl (HS.lt HD e_1) ?_;refine qh HD e_1 rfl HD e_1 rfl (HS.lt HD e_1) ?_
    try dsimp only
    have HH:=cL.I (a:=a) (b:=b) (t:={ t with af:=t.af++[jJ t x pick],ah:=t.ah+1,results:=t.results++[⟨jK x,yJ x,zc x,x.aa⟩],ao:=t.ao++(zk x).map λb=>(b,x.aa) }) (q:={ q with rv:=v5 }) hx
     (HG.sub (.cons e_2 (.cons e_2 (.cons e_2 (.cons e_2 (.cons e_2 (.cons e_2 (.cons .here (.cons e_1 (.drop .refl))))))))))
    have e2:(t.ao++(zk x).map λb=>(b,x.aa)).length=t.ao.length+(zk x).length:=by simp
    have AE:=C.nT cf;have sG:=C.ao;rw[AE,List.length_nil]at sG;have C4:QN { t with af:=t.af++[jJ t x pick],ah:=t.ah+1,results:=t.results++[⟨jK x,yJ x,zc x,x.aa⟩],ao:=t.ao++(zk x).map λb=>(b,x.aa) } :=
     ⟨⟨C.set,C.me,C.jobs,C.jl,C.ap,by grind,
      C.aj,by grind,by grind,C.nT⟩,C.now,C.lt,C.some⟩
    exact qG (jJb omQ C4 cf (by grind) HH) λ_ hC HI=>qx (qW HI)
end
end
section
variable {g h:AH} {L R:List SP}
section
variable {n a b:Nat} {t:qe} {q:Nd} {x:qr}
theorem yK.rl (O:yK t):t.ao.length+t.al.length≤63000:=O.b.len (by have:=O.cW;grind)
theorem qwH {an:cx} {draw pick:Int} (hn:27≤n) (O:yK t) (ha:vz an) (hd:0≤draw∧draw<256) (hp:t.af.length≤900000) (H:HS g h (aJ b t::R)) :
  aE n 29 [.ptr b 0,.agg (xf an),.int .u8 draw,.int .i64 pick] h λ_ h'=>HS g h' (aJ b (ql t an draw pick)::R):=by
 refine sh (S:=S29) rfl omQ λk hk=>?_;unfold S29;try simp only[iZ]
 have bZ:=O.st;have Br:=O.rl;have hT:=O.b.ah;have cK:=O.cW;obtain⟨q,H0⟩:=aJ.E H;clear H;refine qP H0 rfl λv0 h1 H1=>?_;clear H0;refine qK (qQ (qZ H1 (b:=b) e_1 rfl ?_));refine qY ?_
 try dsimp only
 unfold ql;by_cases c1:t.state=1
 ·rw[iJ c1];refine qk c1 (qX ?_);have C:=O.c omQ;cases hx:t.now with
  |none=>exact absurd hx C.some
  |some x=>
   dsimp only;have hN:=C.now x hx;have hS:=Ky x an;have hr:(t.results.length:Int)≤t.ap+(if t.au=true then 1 else 0):=by
    grind
   have C':∀b:Int,QN { t with now:=some (qS x an),born:=b }:=λb=>⟨⟨C.set,C.me,C.jobs,C.jl,C.ap,C.ao,C.aj,C.ah,C.aI,C.nT⟩,λy hy=>by
    cases hy
    exact⟨Xy hN.1 ha,hS.me.trans hN.2.1,hS.set.trans hN.2.2.1,hS.sw.trans hN.2.2.2⟩,C.lt,λh=>by grind⟩
   obtain⟨a,q,H2⟩:=aJ.V hx (aJ.I (b:=b) (q:=q) (H1.sub (.cons e_1 (.cons e_1 (.cons e_1 (.cons e_1 (.cons e_1 (.cons e_1 (.cons e_1 (.cons e_1 (.cons .here .refl)))))))))));have H2:HS g h1 (cL a b t x q (qw v0 (xf an)::R)):=H2;clear H1;refine qK (qQ (qZ H2 (b:=b) e_1 (x:=.ptr a 0) rfl ?_));refine qG (Vs omQ H2 .here) ?_;rintro _ _ ⟨rfl,rfl⟩;refine qD rfl (qD rfl ?_);refine qK (qQ (qZ H2 (b:=b) e_1 (x:=.ptr a 0) rfl ?_));refine qF H2 (b:=v0) (off:=0) e_8 rfl omQ (l:=xf an) rfl ?_;refine qG (qgt omQ hN.1 ha H2) λ_ h3 H3=>?_;unfold xz;dsimp only;generalize hy:qS x an=y at H3 C' ⊢;generalize Dt:(if y.begun=true∧x.begun=false then pick else t.born)=bo;have key:∀(bo:Int) (h':AH),HS g h' (cL a b { t with now:=some y,born:=bo } y q (qw v0 (xf an)::R))→
     wp (yF (.ptr b 0) λv28=>jG v28 16 λPY=>ja h' PY λv30=>ze (callT tab qz k) (.fn 49 [] []) [v30] h' λv31 BR=>zB .neq v31 (.int .i64 ((0:Nat):Int)) λuq=>xY uq
      (ze (callT tab qz k) (.fn 50 [] []) [.ptr b 0,.int .u8 draw,.int .i64 pick] BR λ_ Rb=>xL [] Rb λh9=>some (.bV [],h9)) (xL [] BR λh9=>some (.bV [],h9)))
      λ_ h'=>HS g h' (aJ b (if jK y=0 then{ t with now:=some y,born:=bo }else zv { t with now:=some y,born:=bo } y draw pick)::R):=λbo h' H4=>by
    refine qK (qQ (qZ H4 (b:=b) e_1 (x:=.ptr a 0) rfl ?_));refine qG (UB omQ H4 .here) ?_;rintro _ _ ⟨rfl,rfl⟩;have H5:=cL.I (t:={ t with now:=some y,born:=bo }) rfl H4;have H5:=H5.sub (.cons .here (.drop .refl));by_cases c:jK y=0
    ·rw[iJ c];exact jI c (qJ (qx (qW H5)))
    ·rw[iQ c];refine jH c (qX ?_);exact qG (qz7 (t:={ t with now:=some y,born:=bo }) omQ (C' bo) rfl (by grind) (by grind) hr hd H5) λ_ h6 H6=>qx (qW H6)
   refine qY ?_
   try dsimp only
   refine qK (qQ (qZ H3 (b:=b) e_1 (x:=.ptr a 0) rfl ?_));refine qG (Vs omQ H3 .here) ?_;rintro _ _ ⟨rfl,rfl⟩;refine qD rfl (qD rfl ?_);refine qY ?_
   try dsimp only
   have H4:HS g _ (cL a b { t with now:=some y,born:=t.born } y q (qw v0 (xf an)::R)):=H3;by_cases d1:y.begun=true
   ·rw[d1];refine qd ?_;by_cases d2:x.begun=true
    ·rw[d2];rw[d1,d2,iQ (λh=>by grind)]at Dt;subst Dt;refine jd (qE (qJ ?_));exact key _ _ H4
    ·have d2':x.begun=false:=by grind
     rw[d2'];rw[d1,d2',iJ ⟨rfl,rfl⟩]at Dt;subst Dt;refine jo (qE (qX ?_));refine qK (qQ ?_);refine qy H3 (b:=b) e_1 ⟨rfl,rfl⟩ (by simp[vR]) λh5 H5=>?_;exact key pick _ (H5.sub (.cons e_1 (.cons .here .refl)))
   ·have d1':y.begun=false:=by grind
    rw[d1'];rw[d1',iQ (λh=>by grind)]at Dt;subst Dt;refine qb (qI (qJ ?_));exact key _ _ H4
 ·rw[iQ c1];refine qj c1 (qJ ?_);have H2:=aJ.I (b:=b) (t:=t) (q:=q) H1.drop;by_cases c2:t.state=2
  ·rw[iJ c2];refine qk c2 (qX ?_);refine qF H1 (b:=v0) (off:=0) .here rfl omQ (l:=xf an) rfl ?_;exact qG (qkA omQ O.b omQ hd H2) λ_ h6 H6=>qx (qW H6)
  ·rw[iQ c2];refine qj c2 (qJ ?_);by_cases c5:t.state=5
   ·rw[iJ c5];refine qk c5 (qX ?_);have C:=O.c omQ;have nO:=O.R0 c5;have h4:=C.set.ad;refine qY ?_
    try dsimp only
    refine qQ (qZ H1 (b:=v0) .here (x:=.int .i64 an.err) rfl ?_);by_cases ce:an.err=0
    ·refine jI ce (qJ ?_)
     try dsimp only
     refine qQ (qZ H1 (b:=v0) .here (x:=.int .u64 an.word) rfl ?_);rw[iQ (λh=>h ce)];exact qG (OK omQ C (O.IV c5) omQ omQ H2) λ_ h6 H6=>qx (qW H6)
    ·refine jH ce (qX ?_);refine qQ (qy H1 (b:=v0) .here (x:=.int .u64 0) ⟨rfl,rfl⟩ (by simp[xf]) λh3 H3=>?_)
     try dsimp only
     refine qQ (qZ H3 (b:=v0) .here (x:=.int .u64 0) rfl ?_);rw[iJ ce];exact qG (OK omQ C (O.IV c5) omQ omQ (aJ.I (b:=b) (t:=t) (q:=q) H3.drop)) λ_ h6 H6=>qx (qW H6)
   ·rw[iQ c5];exact qj c5 (qJ (qx (qW H2)))
theorem qgS (hn:5≤n) (O:yK t) (H:HS g h (aJ b t::R)):aE n 27 [.ptr b 0] h λr h'=>r=tK (zO t)∧HS g h' (aJ b t::R):=by
 refine aF (S:=S27) rfl omQ λk hk=>?_;unfold S27;try simp only[iZ]
 have bZ:=O.st;obtain⟨q,H0⟩:=aJ.E H;refine qP H0 rfl λv0 h1 H1=>?_;clear H H0;refine qK (qQ (qZ H1 (b:=b) e_1 rfl ?_));unfold zO;have Cj:∀{o:dC} {h':AH},HS g h' (qw v0 (vZ o)::G7 b t q R)→wp (xH h' (.ptr v0 0) 10 λv=>some (.bV [v,.bool true],h')) λr h'=>r=tK (some o)∧HS g h' (aJ b t::R):=λ{o h'} H'=>by
  refine qF H' (b:=v0) (off:=0) .here rfl omQ (l:=vZ o) rfl ?_;exact qW ⟨rfl,aJ.I (q:=q) H'.drop⟩
 by_cases c1:t.state=1
 ·rw[iJ c1];refine qk c1 (qX ?_);have C:=O.c omQ;cases hx:t.now with
  |none=>exact absurd hx C.some
  |some x=>have hN:=C.now x hx;obtain⟨a,q,H2⟩:=aJ.V hx (aJ.I (b:=b) (q:=q) (H1.sub (.cons e_1 (.cons e_1 (.cons e_1 (.cons e_1 (.cons e_1 (.cons e_1 (.cons e_1 (.cons e_1 (.cons .here .refl)))))))))));have H2:HS g h1 (cL a b t x q (qw v0 (vZ (bA 0 0 0))::R)):=H2;refine qK (qQ (qZ H2 (b:=b) e_1 (x:=.ptr a 0) rfl ?_));refine qG (qvb omQ hN.1 H2) ?_;rintro _ h3 ⟨rfl,H3⟩;refine qD rfl (qD rfl ?_);refine qm H3 (b:=v0) e_8 rfl (by trivial) rfl λh4 H4=>?_;refine qF H4 (b:=v0) (off:=0) .here rfl omQ (l:=vZ ((zT x).getD (bA 0 0 0))) rfl ?_;exact qW ⟨rfl,cL.I (q:=q) hx (H4.drop.sub (.cons .here .refl))⟩
 ·rw[iQ c1];refine qj c1 (qJ ?_);by_cases c2:t.state=2
  ·rw[iJ c2];refine qk c2 (qX ?_);refine qK (qQ (qZ H1 (b:=b) e_1 rfl ?_));refine qR (l:=vZ (bA 8 t.dj 0)) rfl ?_;exact qm H1 (b:=v0) .here rfl (by simp) rfl λh3 H3=>Cj H3
  ·rw[iQ c2];refine qj c2 (qJ ?_);by_cases c5:t.state=5
   ·rw[iJ c5];refine qk c5 (qX ?_);refine qK (qQ (qZ H1 (b:=b) e_1 rfl ?_));refine jQ H1 (n:=t.aj.length) (v:=q.sv) e_8 ?_;refine qR (l:=vZ (bA 8 t.aj.length 0)) rfl ?_;exact qm H1 (b:=v0) .here rfl (by simp) rfl λh3 H3=>Cj H3
   ·rw[iQ c5];refine qj c5 (qJ ?_);refine qR (l:=vZ (bA 0 0 0)) rfl ?_;refine qm H1 (b:=v0) .here rfl (by simp) rfl λh3 H3=>?_;refine qF H3 (b:=v0) (off:=0) .here rfl omQ (l:=vZ (bA 0 0 0)) rfl ?_;exact qW ⟨rfl,aJ.I (q:=q) H3.drop⟩
theorem qY7 {r:List zm} {st dX:Int} {i:Nat} (hi:i<r.length):gO (r.drop i) st dX=(decide (r[i].1=st∧r[i].2≠dX)||gO (r.drop (i+1)) st dX):=by unfold gO;rw[List.drop_eq_getElem_cons hi,List.any_cons]
theorem jJA {st dX:Int} (hn:12≤n) (O:yK t) (H:HS g h (aJ b t::R)):aE n 30 [.ptr b 0,.int .i64 st,.int .u64 dX] h λ_ h'=>HS g h' (aJ b (jN t st dX)::R):=by
 refine cX (S:=S30) rfl omQ λk hk=>?_;unfold S30;try simp only[iZ]
 have bZ:=O.st;have Br:=O.rl;cases hx:t.now with
 |none=>
  obtain⟨q,H0⟩:=aJ.E H;have e:q.nv=.aU:=by have H1:=H0.aM (P:=lD t.now q.nv) e_3;rw[hx]at H1;exact H1.fi.1
  refine qK (qQ (qZ H0 (b:=b) .here (x:=.aU) (by rw[← e];rfl) ?_));have eW:jN t st dX=t:=by
   grind[jN]
  rw[eW];exact NM (qX (qW H))
 |some x=>
  have eW:jN t st dX=if gO x.r st dX=true then(if t.state=4 then zJ t else if t.state=1∧gG x=true then{ t with dz:=true }else t)else t:=by
   grind[jN]
  rw[eW];have C:=O.c (λh6=>by have:=(O.fin h6).2;grind);have hN:=C.now x hx;have hr:=hN.1.r;obtain⟨a,q,H0⟩:=aJ.V hx H;refine qK (qQ (qZ H0 (b:=b) e_1 (x:=.ptr a 0) rfl ?_));refine Vz (qJ ?_);refine qK (qQ (qZ H0 (b:=b) e_1 (x:=.ptr a 0) rfl ?_));refine qG (qg1 omQ hN.1 H0) λv h1 H1=>?_;refine jQ H1 .here ?_;refine zQ (λc s h'=>∃i:Nat,s=(.int .i64 (i:Int),.int .i64 (x.r.length:Int),v,.int .u64 dX,.int .i64 st,.ptr b 0,())∧i≤x.r.length∧c=x.r.length-i∧gO x.r st dX=gO (x.r.drop i) st dX∧HS g h' (qB 117 2 x.r.length v (x.r.flatMap gX)::cL a b t x q R))
   ?_ (m:=x.r.length) (by grind) ⟨0,rfl,Nat.zero_le _,rfl,rfl,H1⟩
  clear H H0 H1;rintro c ih s h3 bQ ⟨i,rfl,hi,rfl,hs,H⟩;dsimp only;have HT:=(cL.I (t:=t) hx H.drop);by_cases aw:i<x.r.length
  ·refine jt omQ (qX ?_);refine xV (l:=gX x.r[i]) (H.sl .here) aw omQ (gF (sz:=2) (enc:=gX) (λ_=>rfl) (iW aw)) ?_;refine qP H rfl λb2 h4 H4=>?_;refine qm H4 (b:=b2) .here rfl (by simp) rfl λh5 H5=>?_;rw[qY7 aw]at hs;have H6:HS g h5 (qB 117 2 x.r.length v (x.r.flatMap gX)::cL a b t x q R):=H5.drop;have on:∀c:¬(x.r[i].1=st∧x.r[i].2≠dX),wp (ih (.int .i64 (i+((1:Nat):Int)),.int .i64 (x.r.length:Int),v,.int .u64 dX,.int .i64 st,.ptr b 0,()) h5 []) λ_ h'=>HS g h' (aJ b (if gO x.r st dX=true then(if t.state=4 then zJ t else if t.state=1∧gG x=true then{ t with dz:=true }else t)else t)::R):=λc=>by
    rw[iV c,Bool.false_or]at hs;exact bQ (x.r.length-(i+1)) _ _ omQ ⟨i+1,rfl,by omega,rfl,hs,H6⟩
   refine qQ (qZ H5 (b:=b2) .here (x:=.int .i64 x.r[i].1) rfl ?_);by_cases c1:x.r[i].1=st
   ·refine jI c1 ?_;refine qY ?_
    try dsimp only
    refine qo (qQ (qZ H5 (b:=b2) .here (x:=.int .u64 x.r[i].2) rfl ?_));by_cases c2:x.r[i].2=dX
    ·refine qk c2 (qI (qX ?_));exact qi omQ (on λh=>h.2 c2)
    ·refine qj c2 (qI (qJ ?_));rw[iG ⟨c1,c2⟩,Bool.true_or]at hs;rw[iJ hs];clear on bQ;refine qY ?_
     try dsimp only
     refine qK (qQ (qZ H6 (b:=b) e_2 rfl ?_));have HT:=(cL.I (t:=t) hx H6.drop);by_cases c4:t.state=4
     ·rw[iJ c4];refine qk c4 (qX ?_);exact qG (XG omQ C.toThrB omQ HT) λ_ h7 H7=>qx (qW H7)
     ·rw[iQ c4];refine qj c4 (qJ ?_);refine qK (qQ (qZ H6 (b:=b) e_2 rfl ?_));refine qY ?_
      try dsimp only
      by_cases c5:t.state=1
      ·refine qk c5 (qd ?_);refine qK (qQ (qZ H6 (b:=b) e_2 (x:=.ptr a 0) rfl ?_));obtain⟨q2,H7⟩:=aK.E (H6.aM (P:=aK a x) e_1);refine qG (ZU omQ H7 .here) ?_;rintro _ _ ⟨rfl,rfl⟩;by_cases c6:gG x=true
       ·rw[c6,iJ ⟨c5,rfl⟩];refine qE (qX ?_);refine qK (qQ ?_);refine qy H6 (b:=b) e_2 ⟨rfl,rfl⟩ (by simp[vR]) λh8 H8=>?_;refine qx (qW ?_);exact cL.I (t:={ t with dz:=true }) (q:=q) hx (H8.sub (.cons e_2 (.cons .here (.drop .refl))))
       ·have c6':gG x=false:=by grind
        rw[c6',iQ (λh=>by grind)];exact qE (qJ (qx (qW HT)))
      ·rw[iQ (λh=>c5 h.1)];exact qj c5 (qb (qI (qJ (qx (qW HT)))))
   ·refine jH c1 ?_;refine qY ?_
    try dsimp only
    refine jC (qE (qX ?_));exact qi omQ (on λh=>c1 h.1)
  ·obtain rfl:i=x.r.length:=by omega
   refine jP omQ (qJ ?_);rw[List.drop_length]at hs;rw[hs];exact qx (qW HT)
end
end
section
variable {g h:AH} {L R:List SP}
theorem qw3 {D:Nat→Prop} {sz n hi b cp AF:Nat} {o:Bool} {xs:List AV} (S:Sl D h sz n (.slice b 0 n cp o) xs) (hle:hi≤n):Sl D h sz hi (.slice b 0 hi AF o) (xs.take (hi*sz)):=by
 have hm:=Nat.mul_le_mul_right sz hle;cases S with
 |mk hd hb hr hl ha=>exact .mk hd hb hr (by grind) λi nM=>by grind
theorem qG9 {hi sz n:Nat} {e:TypeId} {k:IntKind} {v:AV} {xs:List AV} {K:AV→Go.Ae.R} {Q:AV→AH→Prop} (H:HS g h L) (s:bi L (qB e sz n v xs) R) (bF:0<sz) (hle:hi≤n)
  (w:∀v',Rd g L sz hi v' (xs.take (hi*sz))→wp (K v') Q):wp (vW h e sz v none (some (.int k (hi:Int))) K) Q:=by
 have hm:=Nat.mul_le_mul_right sz hle;obtain⟨D,hl,⟨rfl,hn,hD⟩ |⟨b,cp,o,zs,rfl,hD,A,q1,q2,q3⟩⟩:=H.p s
 ·subst hn;obtain rfl:hi=0:=by omega
  exact w .ak λ_ _=>by rw[Nat.zero_mul,List.take_zero];exact .ak
 ·cases o with
  |false=>
   rw[iQ aS]at q3;refine PF (hi:=hi) (lo:=0) (gH omQ) rfl ?_;have:=w (.slice b 0 hi cp false) λh' H'=>qw3 (H'.sl s) hle;have e0:(bif Nat.beq cp 0 then 0 else 0+0*sz)=0:=by simp
   rw[e0];exact this
  |true=>rw[iJ rfl]at q3;subst q3;refine PG (i0:=0) (hi:=hi) (lo:=0) A bF omQ omQ (gH hle) rfl (.inr rfl) ?_;have:=w (.slice b 0 hi 0 true) λh' H'=>qw3 (H'.sl s) hle;simpa using this
theorem qZc {n m:Nat} {e:TypeId} {v:AV} {xs:List AV} {R2:List SP} (hn:1≤n) (H:HS g h L) (s:bi L (qB e 5 m v xs) R2) (ha:jY xs=true) (hm:m≤1000000) :
  aE n 42 [v] h λr h'=>HS g h' (qB 32 5 m r xs::L):=by
 refine aF (S:=S42) rfl omQ λk hk=>?_;unfold S42;try simp only[iZ]
 refine XP H s (λh1 h2=>?_) (qJ ?_)
 ·subst h1 h2;obtain rfl:xs=[]:=iA (by simpa using H.dE s);exact qX (qW H.ak)
 ·refine qt (n:=0) (l:=[]) (sz:=5) H rfl rfl rfl rfl λv2 h2 H2=>?_;refine zw H2 (H2.sl (.there s)) omQ omQ ha λv3 h3 H3=>?_;rw[Nat.zero_add,List.nil_append]at H3;exact qW H3
theorem qXC {n m:Nat} {e:TypeId} {v:AV} {xs:List AV} {R2:List SP} (hn:1≤n) (H:HS g h L) (s:bi L (qB e 4 m v xs) R2) (ha:jY xs=true) (hm:m≤1000000) :
  aE n 44 [v] h λr h'=>HS g h' (qB 56 4 m r xs::L):=by
 refine aF (S:=S44) rfl omQ λk hk=>?_;unfold S44;try simp only[iZ]
 refine XP H s (λh1 h2=>?_) (qJ ?_)
 ·subst h1 h2;obtain rfl:xs=[]:=iA (by simpa using H.dE s);exact qX (qW H.ak)
 ·refine qt (n:=0) (l:=[]) (sz:=4) H rfl rfl rfl rfl λv2 h2 H2=>?_;refine zw H2 (H2.sl (.there s)) omQ omQ ha λv3 h3 H3=>?_;rw[Nat.zero_add,List.nil_append]at H3;exact qW H3
section
variable {n b:Nat} {t:qe} {q:Nd}
theorem qJo (hn:2≤n) (hr:t.results.length≤1000000) (H:HS g h (aJ b t::R)):aE n 25 [.ptr b 0] h λr h'=>HS g h' (qB 56 4 t.results.length r (t.results.flatMap XB)::aJ b t::R):=by
 refine aF (S:=S25) rfl omQ λk hk=>?_;unfold S25;try simp only
 obtain⟨q,H0⟩:=aJ.E H;refine qK (qQ (qZ H0 (b:=b) .here rfl ?_));refine qG (qXC (v:=q.rv) (xs:=t.results.flatMap XB) omQ H0 e_5 (YH (λ_=>rfl) _) hr) λv h1 H1=>qW ?_;exact HS.cF e_1 (aJ.I (q:=q) (H1.sub (.cons e_1 (.cons e_1 (.cons e_1 (.cons e_1 (.cons e_1 (.cons e_1 (.cons e_1 (.cons e_1 (.cons .here .refl)))))))))))
theorem qK9 {me:Int} {s:jD} {js:List (List qa)} {v:AV} (hn:13≤n) (_:-1000000≤me∧me≤1000000) (hs:0≤s.start) (hj:∀l∈js,(zi l).2=0∧Quiet l) (lz:js.length≤1000000) (H:HS g h (aR js v::R)) :
  aE n 23 [.int .i64 me,.agg (yA s),v] h λr h'=>∃b,r=.ptr b 0∧HS g h' (aJ b (gr me s js)::aR js v::R):=by
 refine cX (S:=S23) rfl omQ λk hk=>?_;unfold S23;try simp only[iZ]
 obtain⟨vs,AY,H⟩:=aR.E H;refine qP H rfl λb0 h1 H1=>?_;refine qF H1 (b:=b0) (off:=0) .here rfl omQ (l:=yA s) rfl ?_;refine qG (Mu omQ H1) ?_;rintro _ h2 ⟨rfl,H2⟩;clear H H1;have SO:=yr hs;refine qm H2 (b:=b0) .here rfl (by simp) rfl λh3 H3=>?_;have H3:HS g h3 (qw b0 (yA (jk s))::qB 35 1 js.length v vs:: .all (List.zipWith bX vs js)::R):=H3;unfold gr;generalize jk s=S at*;clear H2;have h4:=SO.ad;refine qY ?_
 try dsimp only
 refine qQ (qu (qZ H3 (b:=b0) .here (x:=.int .i64 S.ad) rfl ?_));refine zu omQ (zt (xg ?_));refine qF H3 (b:=b0) (off:=0) .here rfl omQ (l:=yA S) rfl ?_;refine qG (qq7 omQ H3) ?_;rintro _ h5 ⟨lb,rfl,H5⟩;have et:max ((0:Nat):Int) (min me (S.ad-((1:Nat):Int)))=max 0 (min me (S.ad-1)):=rfl;rw[et]
 let T:List (List qa)→qe:=λjs=>⟨max 0 (min me (S.ad-1)),S,js,-1,0,false,[],0,0,none,0,false,[],[],[],[],0,0,false,0⟩
 refine qR (l:=vR (T []) ⟨.ak,.ak,.aU,.ak,.ak,lb,.ak⟩) rfl ?_;refine qP H5 rfl λb h6 H6=>?_;refine xy H3 .here rfl H5 e_1 rfl rfl omQ (HS.lt H3 .here) ?_;refine qh H3 .here rfl H5 e_1 rfl (HS.lt H3 .here) ?_
 try dsimp only
 have N1:=(H6.ak (e:=157) (sz:=2));have N2:=HS.fO (φ:=AV.aU=.aU) rfl N1;have N3:=eY.I (r:=[]) (v:=.ak) (zs:=[]) rfl ((HS.allI (A:=[]) N2).ak);have N4:=N3.ak (e:=56) (sz:=4);have N5:=N4.ak (e:=22) (sz:=1);have N6:=aR.I (js:=[]) (v:=.ak) (vs:=[]) rfl ((HS.allI (A:=[]) N5).ak);have N7:HS g h6 (G7 b (T []) ⟨.ak,.ak,.aU,.ak,.ak,lb,.ak⟩ (qB 35 1 js.length v vs:: .all (List.zipWith bX vs js)::R)) :=
  N6.sub (.cons e_6 (.cons .here (.cons e_4 (.cons e_3 (.cons e_2 (.cons e_1 (.cons e_1 (.cons .here (.drop .refl)))))))))
 have N8:=aJ.I N7;clear N1 N2 N3 N4 N5 N6 N7 H3 H5 H6;refine jQ N8 (n:=js.length) (v:=v) e_1 ?_;refine zt ?_;rw[show min ((js.length:Nat):Int) ((6:Nat):Int)=((min js.length 6:Nat):Int) by omega];have hm6:min js.length 6≤js.length∧min js.length 6≤6:=by omega
 have Sk:js.take (min js.length 6)=js.take 6:=by
  grind
 rw[← Sk];generalize min js.length 6=m at*;refine qG9 (hi:=m) N8.drop .here omQ hm6.1 λv' SV=>?_;refine vQ (SV.more.sl N8) ?_;refine zQ (λc s h'=>∃i:Nat,s=(.int .i64 (i:Int),.int .i64 (m:Int),v',.ptr b 0,())∧i≤m∧c=m-i∧HS g h' (aJ b (T (js.take i))::qB 35 1 js.length v vs:: .all (List.zipWith bX vs js)::R))
  ?_ (m:=m) (by grind) ⟨0,rfl,Nat.zero_le _,rfl,N8⟩
 clear N8;rintro c ih s h7 bQ ⟨i,rfl,hi,rfl,H⟩;dsimp only;by_cases aw:i<m
 ·have oT:i<js.length:=by omega
  have IZ:i<vs.length:=by omega
  have AP:js[i]? =some js[i]:=iW oT;have hz:(List.zipWith bX vs js)[i]? =some (bX vs[i] js[i]):=by grind
  have ei:=hj _ (List.getElem_mem oT);have hle:=(Mb ei.1).le;have HB0:=(H.aM (P:=.all (List.zipWith bX vs js)) e_2).cG;have o0:One vs[i]:=HB0.one (e:=32) (sz:=5) (n:=js[i].length) (VD hz);refine jt omQ (qX ?_);refine xV (l:=[vs[i]]) (SV.more.sl H) aw omQ (by rw[Nat.mul_one,Nat.mul_one,List.drop_eq_getElem_cons (by grind)];simp) ?_;refine qP H rfl λb2 h8 H8=>?_;refine qm H8 (b:=b2) .here rfl (by simp) (by show jY [vs[i]]=true;simp[jY,o0.2]) λh9 H9=>?_;refine qY ?_
  try dsimp only
  obtain⟨q,HA⟩:=aJ.E (H9.aM (P:=aJ b (T (js.take i))) e_1);refine qK (qQ (qZ HA (b:=b) .here rfl ?_));refine qQ (qZ HA (b:=b2) e_8 (x:=vs[i]) rfl ?_);have HB:=(HA.aM (P:=.all (List.zipWith bX vs js)) e_10).cG;refine qG (qZc (e:=32) (m:=js[i].length) (xs:=js[i].flatMap xW) omQ HB (VD hz) (YH (λ_=>rfl) _) omQ) λpv hC HC=>?_;have HD:HS g hC (.all (List.zipWith bX vs js)::bX pv js[i]::qw b (vR (T (js.take i)) q)::_):=HS.allI (HS.cF qWe HC);have op:=HD.one (e:=32) (sz:=5) (n:=js[i].length) e_1;refine qR (l:=[pv]) (by simp only[vj,op.1];rfl) ?_;refine qt (n:=1) (l:=[pv]) (sz:=1) HD rfl rfl (by rfl) (by simp[jY,op.2]) λv2 hE HE=>?_;obtain⟨ws,pU,HF⟩:=aR.E (HE.aM (P:=aR (js.take i) q.jv) e_4);have F4:(js.take i).length=i:=by grind
  refine zw HF (HF.sl e_2) omQ omQ (by simp[jY,op.2]) λv3 hG HG=>?_;have o3:=HG.one .here;refine qK (qQ ?_);refine qy HG (b:=b) e_5 o3 (by simp[vR]) λhH HH=>?_;refine qh HA .here rfl HD e_2 rfl (HS.lt HA .here) ?_;refine qi omQ ?_;refine bQ (m-(i+1)) _ _ omQ ⟨i+1,rfl,by omega,rfl,?_⟩;have et:js.take (i+1)=js.take i++[js[i]]:=by simp
  have ez:List.zipWith bX (ws++[pv]) (js.take i++[js[i]])=List.zipWith bX ws (js.take i)++[bX pv js[i]]:=by rw[List.zipWith_append pU];rfl
  have HI:=VN (A:=List.zipWith bX ws (js.take i)) (B:=[bX pv js[i]]) (HH.sub (.cons e_2 (.cons e_4 .refl)));have HJ:=aR.I (v:=v3) (js:=js.take i++[js[i]]) (vs:=ws++[pv]) (by grind) (by rw[ez,List.length_append];exact HI.sub (.cons e_2 (.cons .here .refl)));rw[et];exact aJ.I (t:=T (js.take i++[js[i]])) (q:={ q with jv:=v3 }) (HJ.sub (.cons e_1 (.cons .here (.cons e_2 (.cons e_2 (.cons e_2 (.cons e_2 (.cons e_2 (.cons e_2 (.cons e_3 (.cons e_1 (.drop (.drop .refl)))))))))))))
 ·obtain rfl:i=m:=by omega
  refine jP omQ (qJ ?_);refine qG (Qe (t:=T (js.take i)) omQ ⟨SO,by grind,λl hl=>hj l (List.mem_of_mem_take hl),by grind,by grind,Nat.le_refl _,Nat.zero_le _,by simp,by simp,λ_=>rfl⟩ H) λ_ h8 H8=>qx (qW ⟨b,rfl,?_⟩);exact HS.cF e_1 (aR.I AY (H8.sub (.cons e_1 (.cons e_1 .refl))))
end
end
section
variable {g h:AH} {L R:List SP}
def YF (m:yj) (p:Nat) (tv:AV):List AV:=[.int .i64 m.s.words,.int .i64 m.s.ae,.int .i64 m.s.wide,.int .i64 m.s.ad,.int .u64 m.s.start,.int .i64 m.s.ay,.int .i64 m.s.writes,.int .i64 m.s.fuel,.ptr p 0,tv,.int .i64 m.aA,
 .int .i64 m.last.kind,.int .i64 m.last.at_,.int .u64 m.last.cI,.int .u64 m.last.word,.int .u64 m.last.ax.1,.bool m.last.ax.2.1,.int .i64 m.last.ax.2.2,.int .u64 m.last.lk.1,.bool m.last.lk.2.1,.int .i64 m.last.lk.2.2,.bool m.did]
def wh (ps:List Nat) (ts:List qe):List SP:=List.zipWith aJ ps ts
def Xi (ps:List Nat):List AV:=ps.map λa=>.ptr a 0
abbrev VY (b:Nat) (m:yj) (p:Nat) (tv:AV) (ps:List Nat) (R:List SP):List SP :=
 qw b (YF m p tv)::qB 77 1 m.t.length tv (Xi ps)::cn p m.s m.m:: .all (wh ps m.t)::R
def bL (b:Nat) (m:yj):SP:=.ex λq:Nat×AV×List Nat=>.all (.ic (q.2.2.length=m.t.length)::VY b m q.1 q.2.1 q.2.2 [])
theorem bL.E {b:Nat} {m:yj} (H:HS g h (bL b m::R)):∃p tv ps,ps.length=m.t.length∧HS g h (VY b m p tv ps R):=by obtain⟨⟨p,tv,ps⟩,H⟩:=H.eU;obtain⟨h1,H⟩:=H.cG.fi;exact⟨p,tv,ps,h1,H⟩
theorem bL.I {b p:Nat} {m:yj} {tv:AV} {ps:List Nat} (hl:ps.length=m.t.length) (H:HS g h (VY b m p tv ps R)):HS g h (bL b m::R) :=
 HS.fB (p,tv,ps) (HS.allI (A:=.ic (ps.length=m.t.length)::VY b m p tv ps []) (HS.fO hl H))
theorem bL.I1 {b p:Nat} {m:yj} {tv:AV} {ps:List Nat} {X:SP} (hl:ps.length=m.t.length) (H:HS g h (X::VY b m p tv ps R)):HS g h (X::bL b m::R) :=
 HS.cF e_1 (bL.I (tv:=tv) (p:=p) hl (H.sub (.cons e_1 (.cons e_1 (.cons e_1 (.cons e_1 (.cons .here .refl)))))))
theorem Kj {A:List SP} {P:SP} {i:Nat} (h:A[i]? =some P):bi A P (A.eraseIdx i):=by
 have:=VD (R:=[]) h
 grind
theorem Sm {ps:List Nat} {ts:List qe} {i a:Nat} {t:qe} (h1:ps[i]? =some a) (h2:ts[i]? =some t):(wh ps ts)[i]? =some (aJ a t):=by simp_all[wh,List.getElem?_zipWith]
theorem qy7 {ps:List Nat} {ts:List qe} {i a:Nat} {u:qe} (h1:ps[i]? =some a):wh ps (ts.set i u)=(wh ps ts).set i (aJ a u):=by
 unfold wh;apply List.ext_getElem?;grind
theorem Ze {ps:List Nat} {ts:List qe} {i a:Nat} {t:qe} (h1:ps[i]? =some a) (h2:ts[i]? =some t) (H:HS g h (.all (wh ps ts)::R)):HS g h (aJ a t:: .all ((wh ps ts).eraseIdx i)::R) :=
 HS.oy (Kj (Sm h1 h2)) H
theorem Sn {ps:List Nat} {ts:List qe} {i a:Nat} {u:qe} (h1:ps[i]? =some a) (h2:i<ts.length) (H:HS g h (aJ a u:: .all ((wh ps ts).eraseIdx i)::R)):HS g h (.all (wh ps (ts.set i u))::R):=by
 have e:(wh ps ts).eraseIdx i=(wh ps (ts.set i u)).eraseIdx i:=by rw[qy7 h1,List.eraseIdx_set_eq]
 rw[e]at H;exact HS.oZ (Kj (Sm h1 (List.getElem?_set_self h2))) H
theorem qZ8 {ps:List Nat} {ts:List qe} {i a:Nat} {t:qe} (h1:ps[i]? =some a) (h2:ts[i]? =some t) (H:HS g h (aJ a t:: .all ((wh ps ts).eraseIdx i)::R)):HS g h (.all (wh ps ts)::R) :=
 HS.oZ (Kj (Sm h1 h2)) H
theorem I0 {ps:List Nat} {i a:Nat} (h:ps[i]? =some a):(Xi ps)[i]? =some (.ptr a 0):=by simp_all[Xi,List.getElem?_map]
section
variable {n b p:Nat} {m:yj} {tv:AV} {ps:List Nat}
theorem qwb {i a:Nat} (hn:1≤n) (hl:ps.length=m.t.length) (h1:ps[i]? =some a) (_:m.t.length≤1000) (H:HS g h (VY b m p tv ps R)) :
  aE n 24 [.ptr b 0,.int .i64 (i:Int)] h λr h'=>r=.ptr a 0∧h'=h:=by
 refine bj (S:=S24) rfl omQ λk hk=>?_;unfold S24;try simp only[iZ]
 have hi:=(List.getElem?_eq_some_iff.1 h1).1;refine jP omQ ?_;refine qY ?_
 try dsimp only
 refine qo (qK (qQ (qZ H (b:=b) .here rfl ?_)));refine jQ H (sz:=1) (n:=m.t.length) (v:=tv) e_1 ?_;refine zn omQ ?_
 try dsimp only
 refine qI (qJ ?_);refine qK (qQ (qZ H (b:=b) .here rfl ?_));refine zj (H.sl (v:=tv) (xs:=Xi ps) e_1) (x:=.ptr a 0) (I0 h1) ?_;exact qW ⟨rfl,rfl⟩
theorem J4 {i:Nat} {t:qe} (hn:4≤n) (ht:m.t[i]? =some t) (hr:t.results.length≤1000000) (hb:m.t.length≤1000) (H:HS g h (bL b m::R)) :
  aE n 9 [.ptr b 0,.int .i64 (i:Int)] h λr h'=>HS g h' (qB 56 4 t.results.length r (t.results.flatMap XB)::bL b m::R):=by
 refine bj (S:=S9) rfl omQ λk hk=>?_;unfold S9;try simp only
 obtain⟨p,tv,ps,hl,H⟩:=bL.E H;have hi:=(List.getElem?_eq_some_iff.1 ht).1;have h1:ps[i]? =some (ps[i]'omQ):=iW omQ;refine qG (qwb omQ hl h1 hb H) ?_;rintro _ _ ⟨rfl,rfl⟩;refine Z4 (qX ?_);have H2:=Ze h1 ht (H.aM (P:=.all (wh ps m.t)) e_3);refine qG (qJo omQ hr H2) λv h3 H3=>?_;refine qW ?_;have H4:=qZ8 h1 ht (H3.sub (.cons e_1 (.cons e_1 .refl)));exact bL.I1 hl (H4.sub (.cons e_1 (.cons e_1 (.cons e_1 (.cons e_1 (.cons .here .refl))))))
theorem qZi (hn:4≤n) (hw:m.m.w.length≤1000000) (H:HS g h (bL b m::R)) :
  aE n 12 [.ptr b 0] h λr h'=>HS g h' (qB 22 1 m.m.w.length r (m.m.w.map (.int .u64))::bL b m::R):=by
 refine aF (S:=S12) rfl omQ λk hk=>?_;unfold S12;try simp only
 obtain⟨p,tv,ps,hl,H⟩:=bL.E H;refine qK (qQ (qZ H (b:=b) .here (x:=.ptr p 0) rfl ?_));refine qG (qj3 omQ hw (H.aM (P:=cn p m.s m.m) e_2)) λv h2 H2=>qW ?_;exact bL.I1 hl (H2.sub (.cons .here (.cons e_1 (.cons e_1 (.cons .here .refl)))))
theorem Ni (hn:1≤n) (H:HS g h (bL b m::R)):aE n 26 [.ptr b 0] h λr h'=>r=.int .i64 (m.t.length:Int)∧h'=h:=by
 refine aF (S:=S26) rfl omQ λk hk=>?_;unfold S26;try simp only
 obtain⟨p,tv,ps,hl,H⟩:=bL.E H;refine qK (qQ (qZ H (b:=b) .here (x:=tv) rfl ?_));refine jQ H (sz:=1) (n:=m.t.length) (v:=tv) e_1 ?_;exact qW ⟨rfl,rfl⟩
end
end
section
variable {g h:AH} {L R:List SP}
section
variable {n b p:Nat} {m:yj} {tv:AV} {ps:List Nat}
structure Qf (ts:List qe) (i:Nat) (s v:Int) (k:Nat) (us:List qe):Prop where
  len:us.length=ts.length
  lo:∀j,j<k→us[j]? =(xl ts i s v)[j]?
  hi:∀j,k≤j→us[j]? =ts[j]?
theorem Qf.done {ts us:List qe} {i:Nat} {s v:Int} (W:Qf ts i s v ts.length us):us=xl ts i s v:=by
 have hw:(xl ts i s v).length=ts.length:=by simp[xl]
 apply List.ext_getElem?;intro j;by_cases c:j<ts.length
 ·exact W.lo j c
 ·have h1:=W.len;grind
theorem Qf.same {ts us:List qe} {i:Nat} {s v:Int} (W:Qf ts i s v i us):Qf ts i s v (i+1) us :=
 ⟨W.len,λj hj=>by
  by_cases c:j<i
  ·exact W.lo j c
  ·obtain rfl:j=i:=by omega
   rw[W.hi j (Nat.le_refl _),Yj];simp,λj hj=>W.hi j omQ⟩
theorem Qf.next {ts us:List qe} {i k:Nat} {s v:Int} {t:qe} (W:Qf ts i s v k us) (hk:k≠i) (ht:ts[k]? =some t):Qf ts i s v (k+1) (us.set k (jN t s v)):=by
 have h1:=W.len;have h2:=(List.getElem?_eq_some_iff.1 ht).1;refine⟨by grind,λj hj=>?_,λj hj=>?_⟩
 ·by_cases c:j=k
  ·subst c;rw[List.getElem?_set_self omQ,Yj,ht];grind
  ·rw[List.getElem?_set_ne (λh=>c h.symm)];exact W.lo j omQ
 ·rw[List.getElem?_set_ne omQ];exact W.hi j omQ
theorem qGP {i:Nat} {draw:Int} (hn:29≤n) (K:Zj m) (hi:i<m.t.length) (hb:m.t.length≤1000) (hp:m.aA≤900000) (hd:0≤draw∧draw<256) (H:HS g h (bL b m::R)) :
  aE n 11 [.ptr b 0,.int .i64 (i:Int),.int .u8 draw] h λr h'=>r=.int .i64 0∧HS g h' (bL b (jn m i draw)::R):=by
 refine cX (S:=S11) rfl omQ λk hk=>?_;unfold S11;try simp only[iZ]
 obtain⟨p,tv,ps,hl,H⟩:=bL.E H;have ht:m.t[i]? =some m.t[i]:=iW hi;have h1:ps[i]? =some (ps[i]'omQ):=iW omQ;obtain⟨O,W,hpa⟩:=K.t i _ ht;have Ch:=K.aA;have lJ:=K.bh;have MR:=K.r;have KT:=K.t;unfold jn;rw[ht];dsimp only;generalize(ps[i]'omQ)=a at*;generalize hte:m.t[i]=t at*;refine jP omQ ?_;refine qY ?_
 try dsimp only
 refine qo (qK (qQ (qZ H (b:=b) .here (x:=tv) rfl ?_)));refine jQ H (sz:=1) (n:=m.t.length) (v:=tv) e_1 ?_;refine zn omQ ?_
 try dsimp only
 refine qI (qJ ?_);refine qK (qQ (qZ H (b:=b) .here (x:=.int .i64 m.aA) rfl ?_));refine qi omQ ?_;refine qK (qQ ?_);refine qy H (b:=b) .here ⟨rfl,rfl⟩ (by simp[YF]) λh2 H2=>?_;refine qK (qQ (qZ H2 (b:=b) .here (x:=tv) rfl ?_));refine zj (H2.sl (v:=tv) (xs:=Xi ps) e_1) (x:=.ptr a 0) (I0 h1) ?_;have H3:=Ze h1 ht (H2.aM (P:=.all (wh ps m.t)) e_3);refine qG (qgS omQ O H3) ?_;rintro _ h4 ⟨rfl,H4⟩;refine qD rfl (qD rfl ?_);clear H H2 H3;refine qK (qQ ?_);refine qm H4 (b:=b) e_2 rfl (by simp[YF]) rfl λh5 H5=>?_;have H5:HS g h5 (qw b (YF { m with aA:=m.aA+1,last:=(zO t).getD (bA 0 0 0) } p tv)::aJ a t:: .all ((wh ps m.t).eraseIdx i)::qB 77 1 m.t.length tv (Xi ps)::cn p m.s m.m::R):=H5;refine qK (qQ ?_);refine qy H5 (b:=b) .here ⟨rfl,rfl⟩ (by simp[YF]) λh6 H6=>?_;refine qK (qQ (qZ H6 (b:=b) .here (x:=.bool (zO t).isSome) rfl ?_));clear H4 H5;cases Ir:zO t with
 |none=>rw[Ir]at H6;refine jo (qX ?_);have H7:HS g h6 (qw b (YF { m with aA:=m.aA+1,last:=bA 0 0 0,did:=false } p tv)::aJ a t:: .all ((wh ps m.t).eraseIdx i)::qB 77 1 m.t.length tv (Xi ps)::cn p m.s m.m::R):=H6;refine qG (qzb omQ O (H7.aM (P:=aJ a t) e_1)) λ_ h8 H8=>qW ⟨rfl,?_⟩;have H9:=Sn h1 hi (H8.sub (.cons .here (.cons e_1 .refl)));refine bL.I (p:=p) (tv:=tv) (ps:=ps) (by grind) ?_;unfold VY;rw[show({ m with aA:=m.aA+1,last:=bA 0 0 0,did:=false,t:=m.t.set i (qs t) }:yj).t.length=m.t.length from List.length_set];exact H9.sub (.cons e_1 (.cons e_1 (.cons e_1 (.cons .here .refl))))
 |some o=>
  rw[Ir]at H6;refine jd (qJ ?_);have ho:=wI O W Ir;have rr:=Ql MR ho;have H7:HS g h6 (qw b (YF { m with aA:=m.aA+1,last:=o,did:=true } p tv)::aJ a t:: .all ((wh ps m.t).eraseIdx i)::qB 77 1 m.t.length tv (Xi ps)::cn p m.s m.m::R):=H6;clear H6;refine qY ?_
  try dsimp only
  refine qK (qQ (qZ H7 (b:=b) .here (x:=.ptr p 0) rfl ?_));refine qK (qQ (qF H7 (b:=b) (off:=11) .here rfl (by simp) (l:=vZ o) rfl ?_));refine qG (qwR (o:=o) omQ ⟨lJ.1,by omega⟩ (H7.aM (P:=cn p m.s m.m) e_4)) ?_;rintro _ h8 ⟨rfl,H8⟩;refine qK (qQ (qZ H8 (b:=b) e_1 (x:=.int .i64 (m.aA+1)) rfl ?_));refine qG (qwH (an:=(qL m.m o).1) (draw:=draw) (pick:=m.aA+1) omQ O rr.1 hd omQ (H8.aM (P:=aJ a t) e_2)) λ_ h9 H9=>?_;refine qh H7 .here rfl H8 e_1 rfl (HS.lt H7 .here) ?_
  try dsimp only
  clear H7 H8;have HA:=Sn h1 hi (H9.sub (.cons .here (.cons e_2 .refl)));have O':=GG O rr.1 hd.1 (pick:=m.aA+1) (draw:=draw);have F5:∀k v,(m.t.set i (ql t (qL m.m o).1 draw (m.aA+1)))[k]? =some v→yK v:=λk v hv=>by
   by_cases e:k=i
   ·subst e;rw[List.getElem?_set_self hi]at hv;grind
   grind
  generalize EA:m.t.set i (ql t (qL m.m o).1 draw (m.aA+1))=ts at*;have htl:ts.length=m.t.length:=by grind
  have HB:HS g h9 (qw b (YF { m with aA:=m.aA+1,last:=o,did:=true } p tv)::qB 77 1 ts.length tv (Xi ps)::cn p m.s (qL m.m o).2:: .all (wh ps ts)::R):=by rw[htl];exact HA.sub (.cons e_2 (.cons e_2 (.cons e_1 (.cons .here .refl))))
  clear H9 HA;generalize qL m.m o=r at*;refine qK (qQ (qu (qZ HB (b:=b) .here (x:=.int .i64 o.kind) rfl ?_)));by_cases c5:o.kind=5
  ·rw[iJ c5];refine jI c5 (qJ ?_);refine qK (qQ (qZ HB (b:=b) .here (x:=tv) rfl ?_));refine jQ HB (sz:=1) (n:=ts.length) (v:=tv) e_1 ?_
   refine zQ (λc s h'=>∃(k:Nat) (us:List qe),s=(.int .i64 (k:Int),.int .i64 (ts.length:Int),tv,.int .i64 (i:Int),.ptr b 0,())∧k≤ts.length∧c=ts.length-k∧Qf ts i o.at_ o.lk.1 k us∧
     HS g h' (qw b (YF { m with aA:=m.aA+1,last:=o,did:=true } p tv)::qB 77 1 ts.length tv (Xi ps)::cn p m.s r.2:: .all (wh ps us)::R))
    ?_ (m:=ts.length) (by grind) ⟨0,ts,rfl,Nat.zero_le _,rfl,⟨rfl,λj hj=>absurd hj omQ,λj _=>rfl⟩,HB⟩
   clear HB;rintro c ih s h8 bQ ⟨k,us,rfl,hk,rfl,WK,H⟩;dsimp only;by_cases aw:k<ts.length
   ·refine jt omQ (qX ?_);have nh:ps[k]? =some (ps[k]'omQ):=iW omQ;refine qY ?_
    try dsimp only
    refine zj (H.sl (v:=tv) (xs:=Xi ps) e_1) (x:=.ptr (ps[k]'omQ) 0) (I0 nh) ?_;by_cases ck:k=i
    ·subst ck;refine jI rfl (qJ ?_);refine qi omQ ?_;exact bQ (ts.length-(k+1)) _ _ omQ ⟨k+1,us,rfl,by omega,rfl,WK.same,H⟩
    ·refine jH omQ (qX ?_);have Sp:ts[k]? =some ts[k]:=iW aw;have huk:us[k]? =some ts[k]:=by rw[WK.hi k (Nat.le_refl _)];simp
     have B9:=WK.len;refine qK (qQ (qu (qZ H (b:=b) .here (x:=.int .i64 o.at_) rfl ?_)));refine qK (qQ (qu (qu (qZ H (b:=b) .here (x:=.int .u64 o.lk.1) rfl ?_))));have H2:=Ze nh huk (H.aM (P:=.all (wh ps us)) e_3);refine qG (jJA omQ (F5 k _ Sp) H2) λ_ h3 H3=>?_;have H4:=Sn nh omQ H3;refine qi omQ ?_;exact bQ (ts.length-(k+1)) _ _ omQ ⟨k+1,_,rfl,by omega,rfl,WK.next ck Sp,H4.sub (.cons e_1 (.cons e_1 (.cons e_1 (.cons .here .refl))))⟩
   ·obtain rfl:k=ts.length:=by omega
    refine jP omQ (qJ ?_);refine qx (qW ⟨rfl,?_⟩);have e:=WK.done;subst e;have pU:(xl ts i o.at_ o.lk.1).length=ts.length:=by simp[xl]
    refine bL.I (p:=p) (tv:=tv) (ps:=ps) (by grind) ?_;unfold VY;grind[qw,YF,qB,xl,Xi]
  ·rw[iQ c5];refine jH c5 (qX (qW ⟨rfl,?_⟩));exact bL.I (p:=p) (tv:=tv) (ps:=ps) (by grind) HB
end
end
section
variable {g h:AH} {L R:List SP}
def nU (jss:List (List (List qa))) (v:AV):SP:=.ex λvs:List AV=>.all [.ic (vs.length=jss.length),qB 30 1 jss.length v vs,.all (List.zipWith (λv js=>aR js v) vs jss)]
theorem nU.E {jss:List (List (List qa))} {v:AV} (H:HS g h (nU jss v::R)):∃vs:List AV,vs.length=jss.length∧HS g h (qB 30 1 jss.length v vs:: .all (List.zipWith (λv js=>aR js v) vs jss)::R):=by obtain⟨vs,H⟩:=H.eU;exact⟨vs,H.cG.fi⟩
theorem nU.I {jss:List (List (List qa))} {v:AV} {vs:List AV} (hl:vs.length=jss.length) (H:HS g h (qB 30 1 jss.length v vs:: .all (List.zipWith (λv js=>aR js v) vs jss)::R)):HS g h (nU jss v::R) :=
 HS.fB vs (HS.allI (A:=[_,_,_]) (HS.fO hl H))
end
section
variable {g h:AH} {L R:List SP}
def OD (S:jD) (k:Nat):zZ:=if k≤5 then yq S else(qL (yq S) (bA 2 5 14)).2
theorem qgM {S:jD} (O:xM S) {k:Nat} (hk:k<S.words.toNat):(MJ S.words)[k]? =some (if k=5 then 14 else 0):=by
 have h1:=O.words;have e:eL S.words=S.words.toNat:=by grind[eL]
 unfold MJ;grind
theorem Gx {jss:List (List (List qa))} {i:Nat}:(((jss.take 4)[i]?).getD []:List (List qa))=if i<4 then(jss[i]?).getD []else[]:=by
 grind
section
variable {n:Nat}
theorem qzc {s:jD} {jss:List (List (List qa))} {v:AV} (hn:16≤n) (hs:0≤s.start) (hj:∀js∈jss,js.length≤1000000∧∀l∈js,(zi l).2=0∧Quiet l) (lz:jss.length≤1000) (H:HS g h (nU jss v::R)) :
  aE n 7 [.agg (yA s),v] h λr h'=>∃b,r=.ptr b 0∧HS g h' (bL b (xP s jss)::nU jss v::R):=by
 refine bj (S:=S7) rfl omQ λk hk=>?_;unfold S7;try simp only[iZ]
 obtain⟨vs,AY,H⟩:=nU.E H;refine qP H rfl λb0 h1 H1=>?_;clear H;refine jQ H1 (n:=jss.length) (v:=v) e_1 ?_;refine zt ?_;rw[show min ((jss.length:Nat):Int) ((4:Nat):Int)=((min jss.length 4:Nat):Int) by omega];have hm4:min jss.length 4≤jss.length∧min jss.length 4≤4:=by omega
 have Sk:(jss.take 4).length=min jss.length 4:=by grind
 generalize hm:min jss.length 4=m at*;refine qG9 (hi:=m) H1.drop .here omQ hm4.1 λv' SV=>?_;refine vQ (SV.more.sl H1) ?_;refine qQ (qu ?_);refine qy H1 (b:=b0) .here (x:=.int .i64 (m:Int)) ⟨rfl,rfl⟩ (by simp) λh2 H2=>?_;have H2:HS g h2 (qw b0 (yA { s with ad:=((jss.take 4).length:Int) })::qB 30 1 jss.length v vs:: .all (List.zipWith (λv js=>aR js v) vs jss)::R):=by grind
 unfold xP;have so:xM (jk { s with ad:=((jss.take 4).length:Int) }):=yr hs;have hid:=kT so;dsimp only;refine qF H2 (b:=b0) (off:=0) .here rfl omQ (l:=yA { s with ad:=((jss.take 4).length:Int) }) rfl ?_;refine qG (Mu omQ H2) ?_;rintro _ h3 ⟨rfl,H3⟩;refine qm H3 (b:=b0) .here rfl (by simp) rfl λh4 H4=>?_;generalize jk { s with ad:=((jss.take 4).length:Int) }=S at*;have H4:HS g h4 (qw b0 (yA S)::qB 30 1 jss.length v vs:: .all (List.zipWith (λv js=>aR js v) vs jss)::R):=H4;clear H1 H2 H3;have q1:=so.words;have q3:=so.ad;refine qY ?_
 try dsimp only
 refine qF H4 (b:=b0) (off:=0) .here rfl omQ (l:=yA S) rfl ?_;refine qQ (qF H4 (b:=b0) (off:=0) .here rfl omQ (l:=J6 S) rfl ?_);refine qG (jJ6 omQ so.start.1 H4) ?_;rw[hid];rintro _ h5 ⟨p,rfl,H5⟩
 let M0:yj:=⟨S,yq S,[],0,bA 0 0 0,false⟩
 refine qR (l:=YF M0 p .ak) rfl ?_;refine qP H5 rfl λb h6 H6=>?_;have H7:HS g h6 (qw b (YF M0 p .ak)::cn p S (yq S)::qw b0 (yA S)::qB 30 1 jss.length v vs:: .all (List.zipWith (λv js=>aR js v) vs jss)::R):=H6;refine xy H4 .here rfl H5 e_1 rfl rfl omQ (HS.lt H4 .here) ?_
 try dsimp only
 clear H4 H5 H6;refine qQ (qu (qZ H7 (b:=b0) e_2 (x:=.int .i64 S.words) rfl ?_));refine qG (qqF omQ H7) ?_;rintro wv h8 ⟨e,H8⟩;have ez:eL S.words=S.words.toNat:=by grind[eL]
 rw[ez]at H8;refine jQ H8 (n:=S.words.toNat) (v:=wv) .here ?_;refine zQ (λc q h'=>∃i:Nat,q=(.int .i64 (i:Int),.int .i64 ((S.words.toNat:Nat):Int),wv,.ptr b 0,.ptr b0 0,v',())∧i≤S.words.toNat∧c=S.words.toNat-i∧HS g h' (qB e 1 S.words.toNat wv ((MJ S.words).map (.int .u64))::qw b (YF M0 p .ak)::cn p S (OD S i)::qw b0 (yA S)::qB 30 1 jss.length v vs:: .all (List.zipWith (λv js=>aR js v) vs jss)::R))
  ?_ (m:=S.words.toNat) (by grind) ⟨0,rfl,Nat.zero_le _,rfl,H8⟩
 clear H7 H8;rintro c ih q h9 bQ ⟨i,rfl,hi,rfl,H⟩;dsimp only;by_cases aw:i<S.words.toNat
 ·refine jt omQ (qX ?_);refine qY ?_
  try dsimp only
  have hf:=qgM so aw;refine zj (H.sl .here) (x:=.int .u64 (if i=5 then 14 else 0)) (by grind) ?_;by_cases c5:i=5
  ·subst c5;refine jH od (qX ?_);refine qK (qQ (qZ H (b:=b) e_1 (x:=.ptr p 0) rfl ?_));refine qR (l:=vZ (bA 2 5 14)) rfl ?_;refine qG (qwR (o:=bA 2 5 14) omQ ⟨Int.le_refl _,by show(0:Int)<1000000000;simp⟩ (H.aM (P:=cn p S (yq S)) e_2)) ?_;rintro _ fk ⟨rfl,HA⟩;refine qi omQ ?_;exact bQ (S.words.toNat-(5+1)) _ _ omQ ⟨5+1,rfl,by omega,rfl,HA.sub (.cons e_1 (.cons e_1 (.cons .here .refl)))⟩
  ·rw[iQ c5];refine jI rfl (qJ ?_);refine qi omQ ?_;have em:OD S (i+1)=OD S i:=by
    unfold OD;grind
   exact bQ (S.words.toNat-(i+1)) _ _ omQ ⟨i+1,rfl,by omega,rfl,by grind⟩
 ·obtain rfl:i=S.words.toNat:=by omega
  refine jP omQ (qJ ?_);have em:OD S S.words.toNat=(qL (yq S) (bA 2 5 14)).2:=by unfold OD;grind
  rw[em]at H
  replace H:=H.drop
  clear bQ ih;generalize(qL (yq S) (bA 2 5 14)).2=M5 at*
  let T:Nat→List qe:=λk=>(List.range k).map λi:Nat=>gr i S (((jss.take 4)[i]?).getD [])
  have F6:∀k,(T k).length=k:=λk=>by grind
  refine qQ (qu (qZ H (b:=b0) e_2 (x:=.int .i64 S.ad) rfl ?_));rw[show S.ad=((S.ad.toNat:Nat):Int) by omega];have q0:HS g h9 (bL b ⟨S,M5,T 0,0,bA 0 0 0,false⟩::qw b0 (yA S)::qB 30 1 jss.length v vs:: .all (List.zipWith (λv js=>aR js v) vs jss)::R):=by have N1:=HS.allI (A:=[]) H;have N2:=N1.ak (e:=77) (sz:=1);exact bL.I (m:=⟨S,M5,T 0,0,bA 0 0 0,false⟩) (p:=p) (tv:=.ak) (ps:=[]) rfl (N2.sub (.cons e_2 (.cons .here (.cons e_1 (.cons .here .refl)))))
  clear H;refine zQ (λc q h'=>∃i:Nat,q=(.int .i64 (i:Int),.int .i64 ((S.ad.toNat:Nat):Int),.ptr b 0,.ptr b0 0,v',())∧i≤S.ad.toNat∧c=S.ad.toNat-i∧HS g h' (bL b ⟨S,M5,T i,0,bA 0 0 0,false⟩::qw b0 (yA S)::qB 30 1 jss.length v vs:: .all (List.zipWith (λv js=>aR js v) vs jss)::R))
   ?_ (m:=S.ad.toNat) (by grind) ⟨0,rfl,Nat.zero_le _,rfl,q0⟩
  clear q0;rintro c ih q fk bQ ⟨i,rfl,hi,rfl,H⟩;dsimp only;by_cases aw:i<S.ad.toNat
  ·refine jt omQ (qX ?_)
   refine zb [] (λz h'=>∃(jv:AV) (B:List SP),z=(.int .i64 (i:Int),.int .i64 ((S.ad.toNat:Nat):Int),jv,.int .i64 (i:Int),.ptr b 0,.ptr b0 0,v',())∧
     HS g h' (aR (((jss.take 4)[i]?).getD []) jv::bL b ⟨S,M5,T i,0,bA 0 0 0,false⟩::qw b0 (yA S)::qB 30 1 jss.length v vs:: .all B::R)∧
     (∀{po:AH} {L:List SP},HS g po (aR (((jss.take 4)[i]?).getD []) jv:: .all B::L)→HS g po (.all (List.zipWith (λv js=>aR js v) vs jss)::L))) (λj hj=>?_) ?_
   ·refine vQ (SV.more.more.sl H) ?_;by_cases him:i<m
    ·have p8:i<jss.length:=by omega
     have IZ:i<vs.length:=by omega
     have ej:((jss.take 4)[i]?).getD []=jss[i]:=by grind
     have hz:(List.zipWith (λv js=>aR js v) vs jss)[i]? =some (aR jss[i] vs[i]):=by grind
     refine jt omQ (qX ?_);refine zj (SV.more.more.sl H) (x:=vs[i]) (by grind) ?_;rw[ej]at hj;refine hj _ _ ⟨vs[i],(List.zipWith (λv js=>aR js v) vs jss).eraseIdx i,rfl,?_,λH=>HS.oZ (Kj hz) H⟩;have H1:=HS.oy (Kj hz) (H.aM (P:=.all (List.zipWith (λv js=>aR js v) vs jss)) e_3);exact H1.sub (.cons .here (.cons e_1 (.cons e_1 (.cons e_1 (.cons .here .refl)))))
    ·have ej:((jss.take 4)[i]?).getD []=[]:=by
      grind
     refine jP omQ (qJ ?_);rw[ej]at hj;refine hj _ _ ⟨.ak,List.zipWith (λv js=>aR js v) vs jss,rfl,?_,λH=>H.drop⟩;exact aR.I (js:=[]) (v:=.ak) (vs:=[]) rfl ((HS.allI (A:=[]) H).ak)
   ·clear H;rintro _ dy ⟨jv,B,rfl,H,back⟩;dsimp only;refine qY ?_
    try dsimp only
    have hjj:∀l∈(((jss.take 4)[i]?).getD []),(zi l).2=0∧Quiet l:=λl hl=>by
     grind
    have Sq:(((jss.take 4)[i]?).getD []).length≤1000000:=by
     grind
    have eT:T (i+1)=T i++[gr i S (((jss.take 4)[i]?).getD [])]:=by show(List.range (i+1)).map _=(List.range i).map _++_;simp[List.range_succ,List.map_append]
    generalize((jss.take 4)[i]?).getD []=js at*;obtain⟨p',tv,ps,pu,HU⟩:=bL.E (H.aM (P:=bL b ⟨S,M5,T i,0,bA 0 0 0,false⟩) e_1);have pu:ps.length=i:=by grind
    have HU:HS g dy (qw b (YF ⟨S,M5,T i,0,bA 0 0 0,false⟩ p' tv)::qB 77 1 i tv (Xi ps)::cn p' S M5:: .all (wh ps (T i))::aR js jv::qw b0 (yA S)::qB 30 1 jss.length v vs:: .all B::R):=by grind
    refine qK (qQ (qZ HU (b:=b) .here (x:=tv) rfl ?_));refine qF HU (b:=b0) (off:=0) e_5 rfl omQ (l:=yA S) rfl ?_;have HV:HS g dy (aR js jv::qw b (YF ⟨S,M5,T i,0,bA 0 0 0,false⟩ p' tv)::qB 77 1 i tv (Xi ps)::cn p' S M5:: .all (wh ps (T i))::qw b0 (yA S)::qB 30 1 jss.length v vs:: .all B::R):=HU.aM e_4;refine qG (qK9 (me:=(i:Int)) (s:=S) (js:=js) omQ omQ so.start.1 hjj Sq HV) ?_;rintro _ nP ⟨tb,rfl,HW⟩;refine qt (n:=1) (l:=[.ptr tb 0]) (sz:=1) HW rfl rfl rfl rfl λv2 h13 HX=>?_;refine zw (HX.aM (P:=qB 77 1 i tv (Xi ps)) e_4) (HX.sl .here) omQ omQ rfl λv3 BP HY=>?_;have o3:=HY.one .here;refine qK (qQ ?_);refine qy HY (b:=b) e_4 o3 (by simp[YF]) λrj HZ=>?_;refine qh HU .here rfl HW e_2 rfl (HS.lt HU .here) ?_
    try dsimp only
    refine qi omQ ?_;refine bQ (S.ad.toNat-(i+1)) _ _ omQ ⟨i+1,rfl,by omega,rfl,?_⟩;have eb:wh (ps++[tb]) (T (i+1))=wh ps (T i)++[aJ tb (gr i S js)]:=by unfold wh;rw[eT,List.zipWith_append (by grind)];rfl
    have ep:Xi (ps++[tb])=Xi ps++[.ptr tb 0]:=by simp[Xi,List.map_append]
    have B1:=VN (A:=wh ps (T i)) (B:=[aJ tb (gr i S js)]) (HZ.sub (.cons e_6 (.cons e_3 .refl)))
    have B2:=bL.I (b:=b) (p:=p') (tv:=v3) (m:=⟨S,M5,T (i+1),0,bA 0 0 0,false⟩) (ps:=ps++[tb]) (by grind) (by
     unfold VY;rw[show(⟨S,M5,T (i+1),0,bA 0 0 0,false⟩:yj).t=T (i+1)from rfl,eb,ep,F6 (i+1)]
     exact B1.sub (.cons e_1 (.cons e_1 (.cons e_3 (.cons .here .refl)))))
    exact HS.sub (back (B2.sub (.cons e_2 (.cons e_4 .refl)))) (.cons e_1 (.cons e_2 (.cons e_2 (.cons .here (.drop .refl)))))
  ·obtain rfl:i=S.ad.toNat:=by omega
   refine jP omQ (qJ ?_);refine qx (qW ⟨b,rfl,?_⟩);refine HS.cF e_1 (nU.I AY (H.sub (.cons e_2 (.cons e_2 (.cons .here (.drop .refl))))))
end
end
section
variable {g h:AH} {L R:List SP}
section
variable {n b:Nat} {t:qe}
theorem qZo (hn:5≤n) (O:yK t) (H:HS g h (aJ b t::R)):aE n 32 [.ptr b 0] h λr h'=>r=.bool (vC t)∧HS g h' (aJ b t::R):=by
 refine aF (S:=S32) rfl omQ λk hk=>?_;unfold S32;try simp only[iZ]
 by_cases c:t.state=1
 ·have C:=O.c omQ;cases hx:t.now with
  |none=>exact absurd hx C.some
  |some x=>
   have hN:=C.now x hx;obtain⟨a,q,H1⟩:=aJ.V hx H;refine qK (qQ (qZ H1 (b:=b) e_1 (x:=.int .i64 t.state) rfl ?_));refine qk c ?_;refine qY ?_
   try dsimp only
   refine qd (qK (qQ (qZ H1 (b:=b) e_1 (x:=.ptr a 0) rfl ?_)));refine qG (Ji omQ hN.1.c H1) ?_;rintro _ h2 ⟨rfl,H2⟩;refine qE (qW ⟨?_,cL.I hx H2⟩);simp_all[vC,iG]
 ·obtain⟨q,H1⟩:=aJ.E H;refine qK (qQ (qZ H1 (b:=b) .here (x:=.int .i64 t.state) rfl ?_));refine qj c ?_;refine qY ?_
  try dsimp only
  refine qb (qI (qW ⟨?_,H⟩));simp_all[vC,iV]
end
end
section
structure kD (S:jD) (M:zZ):Prop where
  w:(M.w.length:Int)=S.words
  l:(M.l.length:Int)=S.ae
  n:0≤M.n∧M.n<4611686018427387904
  lk:∀j,0≤j→j<S.ae→wB (q8 M.l j)∧(q8 M.l j).1≤M.n
structure wU (S:jD) (n:Int) (c:jw) (me:Int):Prop where
  me:c.me=me
  ok:xA c
  s:∀z∈c.s,0≤z∧z<S.ae
  seen:∀y∈c.seen,0≤y.1∧y.1<S.ae
  cells:∀q∈c.cells,1≤q.1∧q.1<S.words
  ax:∀w∈c.ax,w.2=(false,0)∧w.1≤n
  s1:c.state=1→c.lk.2=(false,0)∧c.lk.1≤n
  s3:c.state=3→c.now<4611686018427387903
  s4:4≤c.state→c.state≤6→c.now+1≤n
def holds (c:jw) (j:Int):Prop:=∃k:Nat,c.s[k]? =some j∧k<c.ax.length∧(6≤c.state→c.at_≤k)
variable {S:jD} {M:zZ} {c d:jw} {me:Int}
structure Kp (c d:jw):Prop where
  me:d.me=c.me
  s:d.s=c.s
  seen:d.seen=c.seen
  cells:d.cells=c.cells
  ax:d.ax=c.ax
  now:d.now=c.now
  h:d.state<6∨d.at_=0
  f:d.p.fin≠0→c.ax=[]
  st:d.state=7∨d.state=c.state∨(3≤c.state∧4≤d.state)
theorem Kp.holds (K:Kp c d) {j:Int} (h:holds c j):d.p.fin=0∧holds d j:=by
 obtain⟨k,h1,h2,_⟩:=h;refine⟨?_,k,by rw[K.s];grind,by rw[K.ax];grind,λh6=>?_⟩
 ·by_cases hf:d.p.fin=0
  ·grind
  ·rw[K.f hf]at h2;grind
 ·have:=K.h;omega
theorem Kp.trans {e:jw} (a:Kp c d) (b:Kp d e) (_:3≤c.state→3≤d.state) (_:d.p.fin=0) (h7:d.state≠7): Kp c e :=
 ⟨b.me.trans a.me,b.s.trans a.s,b.seen.trans a.seen,b.cells.trans a.cells,b.ax.trans a.ax,b.now.trans a.now,b.h,λh=>by rw[← a.ax];exact b.f h,by
  have h1:=a.st;have h2:=b.st;omega⟩
theorem wU.kp {n n':Int} (C:wU S n c me) (K:Kp c d) (ok:xA d) (hn:n≤n') (h1:c.state≠1) (h3:3≤c.state→c.state≤4→c.now+1≤n') (h5:c.state≤4):wU S n' d me :=
 ⟨K.me.trans C.me,ok,by rw[K.s];exact C.s,by rw[K.seen];exact C.seen,by rw[K.cells];exact C.cells,by rw[K.ax];exact λw hw=>⟨(C.ax w hw).1,Int.le_trans (C.ax w hw).2 hn⟩,
  λh=>(by have:=K.st;omega),λh=>(by rw[K.now];refine C.s3 ?_;have:=K.st;omega),λh4 h6=>by rw[K.now];exact h3 (by have:=K.st;omega) h5⟩
theorem Vx {f e y:Int} (hp:c.p.fin=0):Kp c (zP c f e y):=by
 unfold zP xw
 split
 ·rename_i h;have h:(0:Int)=(c.ax.length:Int):=h;exact⟨rfl,rfl,rfl,rfl,rfl,rfl,.inr rfl,λ_=>iA omQ,.inl rfl⟩
 ·exact⟨rfl,rfl,rfl,rfl,rfl,rfl,.inr rfl,λh=>absurd hp h,.inl rfl⟩
theorem cr {p:Xa} {l:di}:(jA p l).2.fin=p.fin:=by
 grind[jA]
theorem qWU {l:di} (hp:c.p.fin=0) (h6:c.state<6):Kp c (xn c l):=by
 unfold xn
 split
 ·exact⟨rfl,rfl,rfl,rfl,rfl,rfl,.inl h6,λh=>absurd (cr.trans hp) h,.inr (.inl rfl)⟩
 ·have K:=Vx (c:={ c with p:=(jA c.p l).2 }) (f:=5) (e:=0) (y:=l.2.2) (cr.trans hp);exact⟨K.me,K.s,K.seen,K.cells,K.ax,K.now,K.h,K.f,K.st⟩
theorem Nv (hp:c.p.fin=0) (h3:3≤c.state) (hl:c.ax.length=c.s.length):Kp c (zp c):=by
 unfold zp zG xX;have h5:∀d:jw,d={ c with writing:=true,at_:=0,state:=5 }→Kp c d:=λd e=>by
  subst e;exact⟨rfl,rfl,rfl,rfl,rfl,rfl,.inl (by simp),λh=>absurd hp h,.inr (.inr ⟨h3,by simp⟩)⟩
 split
 ·split
  ·rename_i h;have h:(0:Int)=(c.s.length:Int):=h;exact⟨rfl,rfl,rfl,rfl,rfl,rfl,.inr rfl,λ_=>iA omQ,.inr (.inr ⟨h3,by simp⟩)⟩
  ·exact⟨rfl,rfl,rfl,rfl,rfl,rfl,.inr rfl,λh=>absurd hp h,.inr (.inr ⟨h3,by simp⟩)⟩
 grind
theorem qYS:∀(k:Nat) {c:jw},c.p.fin=0→3≤c.state→c.state<6→c.ax.length=c.s.length→Kp c (zM { c with state:=4 } k):=by
 intro k
 induction k with
 |zero=>intro c hp h3 h6 hl;have K:=Nv (c:={ c with state:=4 }) hp (by simp) hl;exact⟨K.me,K.s,K.seen,K.cells,K.ax,K.now,K.h,K.f,by have:=K.st;show _∨_∨(3≤c.state∧_);have e:({ c with state:=4 }:jw).state=4:=rfl;grind[zM]⟩
 |succ k ih=>
  intro c hp h3 h6 hl;have Sr:Kp c { c with state:=4 }:=⟨rfl,rfl,rfl,rfl,rfl,rfl,.inl (by simp),λh=>absurd hp h,.inr (.inr ⟨h3,Int.le_refl _⟩)⟩;unfold zM
  split
  ·split
   ·grind
   ·split
    ·exact Sr.trans (Vx hp) (λ_=>by simp) hp (by simp)
    ·have K:=ih (c:={ c with at_:=c.at_+1 }) hp h3 h6 hl;exact⟨K.me,K.s,K.seen,K.cells,K.ax,K.now,K.h,K.f,K.st⟩
  ·exact Sr.trans (Nv hp (by simp) hl) (λ_=>by simp) hp (by simp)
theorem qJ8 (hp:c.p.fin=0) (h3:3≤c.state) (h6:c.state<6) (hl:c.ax.length=c.s.length):Kp c (xu c):=qYS _ hp h3 h6 hl
theorem qZE {ss:List Int} (h:ss.Pairwise (· < ·)) {j k:Nat} {s:Int} (hj:ss[j]? =some s) (hk:ss[k]? =some s):j=k:=by
 grind[List.pairwise_iff_getElem,List.getElem?_eq_some_iff,Nat.lt_trichotomy]
structure qGt (S:jD) (M:zZ) (c:jw) (me:Int) (r:cx×zZ) (d:jw):Prop where
  err:r.1.err=0
  Du:vz r.1
  mem:kD S r.2
  dM:wU S r.2.n d me
  n:M.n≤r.2.n∧r.2.n≤M.n+1
  held:∀j,0≤j→j<S.ae→(q8 r.2.l j).2.1=true→(q8 r.2.l j=q8 M.l j∧(holds c j→d.p.fin=0∧holds d j))∨((q8 r.2.l j).2.2=me∧d.p.fin=0∧holds d j)
theorem OU {ss:List Int} {k:Nat} (h:k<ss.length):qC ss (k:Int)=ss[k]:=by simp_all[qC,Int.toNat_natCast]
theorem kD.bh (MO:kD S M) (k:Int):kD S { M with bh:=k }:=⟨MO.w,MO.l,MO.n,MO.lk⟩
theorem kD.put (MO:kD S M) {z:Int} (h0:0≤z) (h1:z<S.ae) {x:di} (hx:wB x) (hn:x.1≤M.n) (k:Int):kD S { M with l:=M.l.set z.toNat x,bh:=k }:=by
 refine⟨MO.w,by show((M.l.set _ _).length:Int)=_;rw[List.length_set];exact MO.l,MO.n,λj j0 j1=>?_⟩;have:=MO.l;show wB (q8 (M.l.set z.toNat x) j)∧(q8 (M.l.set z.toNat x) j).1≤M.n;rw[ZR h0 j0 omQ]
 split
 ·grind
 ·exact MO.lk j j0 j1
theorem N9 (MO:kD S M) {z:Int} (h0:0≤z) (h1:z<S.ae):qL M (bA 3 z 0)=(⟨0,q8 M.l z,false,0⟩,{ M with bh:=M.bh+1 }):=by have:=MO.l;exact Gk (.inl rfl) (by unfold GE;rw[iQ (by show¬(z<0∨(M.l.length:Int)≤z);omega)];rfl) rfl
theorem I2 (MO:kD S M) {z:Int} (h0:0≤z) (h1:z<S.ae) {x:di} (hx:wB x):qL M ⟨5,z,0,0,bT,x⟩=(dS,{ M with l:=M.l.set z.toNat x,bh:=M.bh+1 }):=by have:=MO.l;refine Gk (M:=M) (N:={ M with l:=M.l.set z.toNat x }) (.inr (.inr rfl)) ?_ rfl;unfold GE;grind
theorem X8 {w:Int} {l:di} {b:Bool} (h:0≤w∧w<18446744073709551616):vz ⟨w,l,b,0⟩:=h
theorem Zm (MO:kD S M) (C:wU S M.n c me) (hm:0≤me∧me<4) (hp:c.p.fin=0):∃o,yD c=some o∧qGt S M c me (qL M o) (qp c (qL M o).1):=by
 have O:=C.ok;have bZ:=O.st
 have sR:yD c=(if c.state=0 then some (bA 3 (qC c.s c.ax.length) 0)
   else if c.state=1 then some ⟨4,qC c.s c.ax.length,0,0,c.lk,(c.lk.1,true,c.me)⟩
   else if c.state=2 then some (bA 6 0 0)
   else if c.state=3 then some ⟨7,0,c.now,c.now+1,bT,bT⟩
   else if c.state=4 then some (bA 3 (jf c.seen c.at_).1 0)
   else if c.state=5 then some (bA 2 (yf c.cells c.at_).1 (yf c.cells c.at_).2)
   else if c.state=6 then some ⟨5,qC c.s c.at_,0,0,bT,(c.now+1,false,0)⟩
   else some ⟨5,qC c.s c.at_,0,0,bT,q8 c.ax c.at_⟩):=by
  simp_all[yD]
 have mz:∀k:Nat,k<c.s.length→∃z,c.s[k]? =some z∧qC c.s (k:Int)=z∧0≤z∧z<S.ae:=λk hk=>⟨c.s[k],iW hk,OU hk,C.s _ (List.getElem_mem hk)⟩
 have hnn:=MO.n;have same:∀{M':zZ} {d:jw},M'.l=M.l→Kp c d→∀j,0≤j→j<S.ae→(q8 M'.l j).2.1=true→(q8 M'.l j=q8 M.l j∧(holds c j→d.p.fin=0∧holds d j))∨((q8 M'.l j).2.2=me∧d.p.fin=0∧holds d j) :=
  λhl K j _ _ _=>.inl ⟨by rw[hl],λh=>K.holds h⟩
 by_cases s0:c.state=0
 ·obtain⟨z,hz,hn,z0,z1⟩:=mz _ (O.Dn hp omQ);refine⟨bA 3 z 0,by grind,?_⟩;rw[N9 MO z0 z1];have hA:vz ⟨0,q8 M.l z,false,0⟩:=X8 omQ;have hk:=yL O hA;have et:qp c ⟨0,q8 M.l z,false,0⟩=if(q8 M.l z).2.1=true then xn c (q8 M.l z)else{ c with lk:=q8 M.l z,state:=1 }:=by
   rw[zq hp rfl,iJ (.inl s0)];unfold vV;grind
  have AZ:=MO.lk z z0 z1;dsimp only;rw[et]at hk ⊢;by_cases hh:(q8 M.l z).2.1=true
  ·rw[iJ hh]at hk ⊢;have K:=qWU (l:=q8 M.l z) hp omQ;exact⟨rfl,hA,MO.bh _,C.kp K hk (Int.le_refl _) omQ (λh=>by omega) omQ,⟨Int.le_refl _,by grind⟩,same rfl K⟩
  ·rw[iQ hh]at hk ⊢;have hf:(q8 M.l z).2.1=false:=by grind
   refine⟨rfl,hA,MO.bh _,⟨C.me,hk,C.s,C.seen,C.cells,C.ax,λ_=>⟨?_,AZ.2⟩,λh=>(by grind),λh=>absurd h (by simp)⟩,⟨Int.le_refl _,by grind⟩,λj _ _ _=>.inl ⟨rfl,λh=>⟨hp,?_⟩⟩⟩
   ·have:=AZ.1;unfold wB at this;grind
   ·obtain⟨k,h1,h2,_⟩:=h;exact⟨k,h1,h2,λh=>absurd h (by simp)⟩
 by_cases s1:c.state=1
 ·have mc:=O.Dn hp omQ;obtain⟨z,hz,hn,z0,z1⟩:=mz _ mc;obtain⟨l1,l2⟩:=C.s1 s1;have hl:=MO.l;refine⟨⟨4,z,0,0,c.lk,(c.lk.1,true,c.me)⟩,by grind,?_⟩;have hx:wB (c.lk.1,true,c.me):=by rw[Ug,C.me];omega
  by_cases he:q8 M.l z=c.lk
  ·have e:qL M ⟨4,z,0,0,c.lk,(c.lk.1,true,c.me)⟩=(⟨0,bT,true,0⟩,{ M with l:=M.l.set z.toNat (c.lk.1,true,c.me),bh:=M.bh+1 }):=by
    refine Gk (M:=M) (N:={ M with l:=M.l.set z.toNat (c.lk.1,true,c.me) }) (.inr (.inl rfl)) ?_ rfl;simp_all[GE,iQ]
   rw[e];have hA:vz ⟨0,bT,true,0⟩:=X8 omQ;have hk:=yL O hA;have et:qp c ⟨0,bT,true,0⟩=zV { c with ax:=c.ax++[c.lk] }:=by rw[zq hp rfl,iJ (.inr s1)];unfold vV;grind
   dsimp only;rw[et]at hk ⊢;have FG:(zV { c with ax:=c.ax++[c.lk] }).state=0∨(zV { c with ax:=c.ax++[c.lk] }).state=2:=by
    unfold zV;grind
   have hw:(zV { c with ax:=c.ax++[c.lk] }).ax=c.ax++[c.lk]:=rfl;refine⟨rfl,hA,MO.put z0 z1 hx l2 _,⟨C.me,hk,C.s,C.seen,C.cells,λw hw=>?_,λh=>omQ,λh=>omQ,λh=>by omega⟩,⟨Int.le_refl _,by grind⟩,λj j0 j1 hj=>?_⟩
   ·rcases List.mem_append.1 hw with hw |hw
    ·exact C.ax w hw
    grind
   ·have grow:∀{j},holds c j→holds (zV { c with ax:=c.ax++[c.lk] }) j:=λ⟨k,h1,h2,_⟩=>⟨k,h1,by grind,λh=>by omega⟩;have pO:(q8 (M.l.set z.toNat (c.lk.1,true,c.me)) j).2.1=true:=hj;rw[show(({ M with l:=M.l.set z.toNat (c.lk.1,true,c.me),bh:=M.bh+1 }:zZ)).l=M.l.set z.toNat (c.lk.1,true,c.me)from rfl];rw[ZR z0 j0 omQ]at pO ⊢;by_cases ej:z=j
    ·subst ej;rw[iJ rfl];exact .inr ⟨C.me,hp,c.ax.length,hz,by grind,λh=>by omega⟩
    ·rw[iQ ej];exact .inl ⟨rfl,λh=>⟨hp,grow h⟩⟩
  ·have e:qL M ⟨4,z,0,0,c.lk,(c.lk.1,true,c.me)⟩=(dS,{ M with bh:=M.bh+1 }):=by
    refine Gk (M:=M) (N:=M) (.inr (.inl rfl)) ?_ rfl;simp_all[GE,iQ]
   rw[e];have hA:vz dS:=X8 omQ;have hk:=yL O hA;have et:qp c dS={ c with state:=0 }:=by rw[zq hp rfl,iJ (.inr s1)];unfold vV;rw[iQ (λh=>s0 h.1),iQ s0,iQ (by nofun)]
   dsimp only;rw[et]at hk ⊢;refine⟨rfl,hA,MO.bh _,⟨C.me,hk,C.s,C.seen,C.cells,C.ax,λh=>(by grind),λh=>(by grind),λh=>absurd h (by simp)⟩,⟨Int.le_refl _,by grind⟩,λj _ _ _=>.inl ⟨rfl,λ⟨k,h1,h2,_⟩=>⟨hp,k,h1,h2,λh=>absurd h (by simp)⟩⟩⟩
 by_cases s2:c.state=2
 ·refine⟨bA 6 0 0,by grind,?_⟩;have e:qL M (bA 6 0 0)=(⟨M.n,bT,false,0⟩,{ M with bh:=M.bh+1 }):=Xf (.inl rfl) rfl rfl;rw[e];have hA:vz ⟨M.n,bT,false,0⟩:=X8 omQ;have hk:=yL O hA;have et:qp c ⟨M.n,bT,false,0⟩=if 4611686018427387903≤M.n then zP c 4 7 (-1)else{ c with now:=M.n,state:=3 }:=by
   rw[zq hp rfl,iQ omQ,iJ (.inl s2)];simp_all[yB]
  dsimp only;rw[et]at hk ⊢;by_cases hc:4611686018427387903≤M.n
  ·rw[iJ hc]at hk ⊢;have K:=Vx (f:=4) (e:=7) (y:=-1) hp;exact⟨rfl,hA,MO.bh _,C.kp K hk (Int.le_refl _) omQ (λh=>by omega) omQ,⟨Int.le_refl _,by grind⟩,same rfl K⟩
  ·rw[iQ hc]at hk ⊢;exact⟨rfl,hA,MO.bh _,⟨C.me,hk,C.s,C.seen,C.cells,C.ax,λh=>(by grind),λ_=>(by grind),λh=>absurd h (by simp)⟩,⟨Int.le_refl _,by grind⟩,λj _ _ _=>.inl ⟨rfl,λ⟨k,h1,h2,_⟩=>⟨hp,k,h1,h2,λh=>absurd h (by simp)⟩⟩⟩
 by_cases s3:c.state=3
 ·have mw:=C.s3 s3;have l5:0≤c.now:=by have:=O.ar;grind[zf]
  have pU:=(O.IR omQ omQ).1;refine⟨⟨7,0,c.now,c.now+1,bT,bT⟩,by grind,?_⟩;by_cases hq:M.n=c.now
  ·have e:qL M ⟨7,0,c.now,c.now+1,bT,bT⟩=(⟨0,bT,true,0⟩,{ M with n:=c.now+1,bh:=M.bh+1 }):=by
    refine Xf (M:=M) (N:={ M with n:=c.now+1 }) (.inr rfl) ?_ rfl;unfold J9;grind
   rw[e];have hA:vz ⟨0,bT,true,0⟩:=X8 omQ;have hk:=yL O hA;have et:qp c ⟨0,bT,true,0⟩=if c.now=c.aa then zp c else xu c:=by rw[zq hp rfl,iQ omQ,iJ (.inr s3)];simp_all[yB]
   dsimp only;rw[et]at hk ⊢;have K:Kp c (if c.now=c.aa then zp c else xu c):=by
    split
    ·exact Nv hp omQ pU
    ·exact qJ8 hp omQ omQ pU
   exact⟨rfl,hA,⟨MO.w,MO.l,by grind,λj a b=>⟨(MO.lk j a b).1,by have:=(MO.lk j a b).2;grind⟩⟩,C.kp K hk (by grind) omQ (λ_ _=>Int.le_refl _) omQ,⟨by grind,by grind⟩,same rfl K⟩
  ·have e:qL M ⟨7,0,c.now,c.now+1,bT,bT⟩=(dS,{ M with bh:=M.bh+1 }):=by
    refine Xf (M:=M) (N:=M) (.inr rfl) ?_ rfl;unfold J9;grind
   rw[e];have hA:vz dS:=X8 omQ;have hk:=yL O hA;have et:qp c dS={ c with state:=2 }:=by rw[zq hp rfl,iQ omQ,iJ (.inr s3)];unfold yB;rw[iQ (λh=>s2 h.1),iQ s2,iJ (by rfl)]
   dsimp only;rw[et]at hk ⊢;exact⟨rfl,hA,MO.bh _,⟨C.me,hk,C.s,C.seen,C.cells,C.ax,λh=>(by grind),λh=>(by grind),λh=>absurd h (by simp)⟩,⟨Int.le_refl _,by grind⟩,λj _ _ _=>.inl ⟨rfl,λ⟨k,h1,h2,_⟩=>⟨hp,k,h1,h2,λh=>absurd h (by simp)⟩⟩⟩
 by_cases s4:c.state=4
 ·have pU:=(O.IR omQ omQ).1;have dw:=O.B7 hp s4;have dB:=O.lo;have hz:0≤(jf c.seen c.at_).1∧(jf c.seen c.at_).1<S.ae:=by
   refine C.seen _ ?_;simp_all[jf,List.getElem_mem]
  refine⟨bA 3 (jf c.seen c.at_).1 0,by grind,?_⟩;rw[N9 MO hz.1 hz.2];generalize q8 M.l (jf c.seen c.at_).1=l;have hA:vz ⟨0,l,false,0⟩:=X8 omQ;have hk:=yL O hA;have et:qp c ⟨0,l,false,0⟩=yQ c l:=by rw[zq hp rfl,iQ omQ,iQ omQ,iJ s4]
  dsimp only;rw[et]at hk ⊢;have K:Kp c (yQ c l):=by
   unfold yQ
   split
   ·exact qWU hp omQ
   ·split
    ·grind[Vx]
    ·have K:=qJ8 (c:={ c with at_:=c.at_+1 }) hp (by grind) (by grind) pU;exact⟨K.me,K.s,K.seen,K.cells,K.ax,K.now,K.h,K.f,K.st⟩
  exact⟨rfl,hA,MO.bh _,C.kp K hk (Int.le_refl _) omQ (λh _=>C.s4 omQ omQ) omQ,⟨Int.le_refl _,by grind⟩,same rfl K⟩
 by_cases s5:c.state=5
 ·have dw:=O.IS hp s5;have dB:=O.lo;have pU:c.ax.length=c.s.length:=by have:=O.ar;grind[zf]
  have hz:1≤(yf c.cells c.at_).1∧(yf c.cells c.at_).1<S.words:=by refine C.cells _ ?_;simp_all[yf,List.getElem_mem]
  have hw:=MO.w;refine⟨bA 2 (yf c.cells c.at_).1 (yf c.cells c.at_).2,by grind,?_⟩;generalize yf c.cells c.at_=q at hz;have e:qL M (bA 2 q.1 q.2)=(dS,{ M with w:=M.w.set q.1.toNat q.2,bh:=M.bh+1 }):=by refine VU (M:=M) (N:={ M with w:=M.w.set q.1.toNat q.2 }) (.inr rfl) ?_ rfl;unfold Ku;rw[iQ (by show¬(q.1<1∨(M.w.length:Int)≤q.1);omega),iQ (by nofun)];rfl
  rw[e];have hA:vz dS:=X8 omQ;have hk:=yL O hA;have et:qp c dS=zG { c with at_:=c.at_+1 }:=by rw[zq hp rfl,iQ omQ,iQ omQ,iQ omQ,iJ s5]
  dsimp only;rw[et]at hk ⊢;have Ss:=C.s4 omQ omQ;have K:∀{j},holds c j→(zG { c with at_:=c.at_+1 }).p.fin=0∧holds (zG { c with at_:=c.at_+1 }) j:=λ{j} ⟨k,h1,h2,_⟩=>by
   unfold zG xX
   split
   ·split
    ·grind
    ·exact⟨hp,k,h1,h2,λ_=>(by simp)⟩
   ·exact⟨hp,k,h1,h2,λh=>absurd h (by grind)⟩
  have F:(zG { c with at_:=c.at_+1 }).me=c.me∧(zG { c with at_:=c.at_+1 }).s=c.s∧(zG { c with at_:=c.at_+1 }).seen=c.seen∧(zG { c with at_:=c.at_+1 }).cells=c.cells∧(zG { c with at_:=c.at_+1 }).ax=c.ax∧(zG { c with at_:=c.at_+1 }).now=c.now∧5≤(zG { c with at_:=c.at_+1 }).state:=by
   unfold zG xX
   grind
  generalize zG { c with at_:=c.at_+1 }=d at*;obtain⟨f1,f2,f3,f4,f5,f6,f7⟩:=F;refine⟨rfl,hA,⟨by grind,MO.l,MO.n,MO.lk⟩,⟨f1.trans C.me,hk,by rw[f2];exact C.s,by rw[f3];exact C.seen,by rw[f4];exact C.cells,by rw[f5];exact C.ax,λh=>omQ,λh=>omQ,λ_ _=>by grind⟩,⟨Int.le_refl _,by grind⟩,λj _ _ _=>.inl ⟨rfl,K⟩⟩
 have nG:∀(z:Int) (k:Nat) (x:di) (d:jw),c.s[k]? =some z→0≤z→z<S.ae→wB x→x.2.1=false→x.1≤M.n→c.at_=(k:Int)→6≤c.state→xA d→d.me=c.me→d.s=c.s→d.seen=c.seen→d.cells=c.cells→d.ax=c.ax→d.now=c.now→d.state=c.state→d.at_=c.at_+1→(d.p.fin≠0→c.ax.length≤k+1)→
   qGt S M c me (dS,{ M with l:=M.l.set z.toNat x,bh:=M.bh+1 }) d:=λz k x d hz z0 z1 hx hxf Su hak h6 hk g1 g2 g3 g4 g5 g6 g7 g8 g9=>by
  have hl:=MO.l;refine⟨rfl,X8 omQ,MO.put z0 z1 hx Su _,⟨g1.trans C.me,hk,by rw[g2];exact C.s,by rw[g3];exact C.seen,by rw[g4];exact C.cells,by rw[g5];exact C.ax,λh=>omQ,λh=>omQ,λh1 h2=>by rw[g6];exact C.s4 omQ omQ⟩,⟨Int.le_refl _,by grind⟩,λj j0 j1 hj=>?_⟩;have pO:(q8 (M.l.set z.toNat x) j).2.1=true:=hj;show(q8 (M.l.set z.toNat x) j=q8 M.l j∧_)∨_;rw[ZR z0 j0 omQ]at pO ⊢;by_cases ej:z=j
  ·grind
  ·rw[iQ ej];refine .inl ⟨rfl,λ⟨q,h1,h2,h3⟩=>?_⟩;have h3:=h3 h6;have cg:q≠k:=λe=>by
    grind
   refine⟨?_,q,by grind,by grind,λ_=>by omega⟩;grind
 by_cases s6:c.state=6
 ·have dw:=O.IT hp s6;have dB:=O.lo;obtain⟨k,hk⟩:∃k:Nat,c.at_=k:=⟨c.at_.toNat,by omega⟩;obtain⟨z,hz,hn,z0,z1⟩:=mz k omQ;have Ss:=C.s4 omQ omQ;have mw:0≤c.now:=by have:=O.ar;grind[zf]
  have pU:c.ax.length=c.s.length:=by have:=O.ar;grind[zf]
  refine⟨⟨5,z,0,0,bT,(c.now+1,false,0)⟩,by grind,?_⟩;have hx:wB (c.now+1,false,0):=by grind[Ue]
  rw[I2 MO z0 z1 hx];have hA:vz dS:=X8 omQ;have A3:=yL O hA;have et:qp c dS=xX { c with at_:=c.at_+1 }:=by rw[zq hp rfl,iQ omQ,iQ omQ,iQ omQ,iQ omQ,iJ s6]
  dsimp only;rw[et]at A3 ⊢;refine nG z k _ _ hz z0 z1 hx rfl Ss hk omQ A3 ?_ ?_ ?_ ?_ ?_ ?_ ?_ ?_ ?_<;>unfold xX<;>split<;>first |rfl |skip
  all_goals grind
 ·have s7:c.state=7:=by omega
  have dw:=O.IU hp s7;have dB:=O.lo;obtain⟨k,hk⟩:∃k:Nat,c.at_=k:=⟨c.at_.toNat,by omega⟩;have mK:k<c.ax.length:=by omega
  obtain⟨z,hz,hn,z0,z1⟩:=mz k (by have:=O.ax;omega);have hw:=C.ax _ (List.getElem_mem mK);have ew:q8 c.ax c.at_=c.ax[k]:=by unfold q8;grind
  refine⟨⟨5,z,0,0,bT,c.ax[k]⟩,by grind,?_⟩;have hx:wB c.ax[k]:=by unfold wB;grind
  rw[I2 MO z0 z1 hx];have hA:vz dS:=X8 omQ;have A3:=yL O hA;have et:qp c dS=xw { c with at_:=c.at_+1 }:=by rw[zq hp rfl,iQ omQ,iQ omQ,iQ omQ,iQ omQ,iQ omQ]
  dsimp only;rw[et]at A3 ⊢;refine nG z k _ _ hz z0 z1 hx (by grind) hw.2 hk omQ A3 ?_ ?_ ?_ ?_ ?_ ?_ ?_ ?_ ?_<;>unfold xw<;>split<;>first |rfl |skip
  all_goals grind
end
section
variable {S:jD} {M:zZ} {x y:qr} {me n:Int}
theorem Sv {o:dC} (h:o.kind=1∨o.kind=3∨o.kind=6∨o.kind=8∨o.kind=9):(qL M o).2.w=M.w∧(qL M o).2.l=M.l∧(qL M o).2.n=M.n:=by
 have key:∀r:cx×zZ,r.2.w=M.w∧r.2.l=M.l∧r.2.n=M.n→(if r.1.err=0 then(r.1,{ r.2 with bh:=r.2.bh+1 })else r).2.w=M.w∧(if r.1.err=0 then(r.1,{ r.2 with bh:=r.2.bh+1 })else r).2.l=M.l∧(if r.1.err=0 then(r.1,{ r.2 with bh:=r.2.bh+1 })else r).2.n=M.n:=λr hr=>by
  grind
 unfold qL;refine key _ ?_;unfold Ku GE J9 uE;rcases h with h |h |h |h |h<;>rw[h]<;>simp only[reduceIte,Int.reduceEq,or_false,or_self,or_true]<;>(repeat' split)<;>simp
theorem kD.same {M':zZ} (MO:kD S M) (h:M'.w=M.w∧M'.l=M.l∧M'.n=M.n):kD S M' :=
 ⟨by rw[h.1];exact MO.w,by rw[h.2.1];exact MO.l,by rw[h.2.2];exact MO.n,by rw[h.2.1,h.2.2];exact MO.lk⟩
theorem wU.mono {n':Int} {c:jw} (C:wU S n c me) (h:n≤n'):wU S n' c me :=
 ⟨C.me,C.ok,C.s,C.seen,C.cells,λw hw=>⟨(C.ax w hw).1,Int.le_trans (C.ax w hw).2 h⟩,λh1=>⟨(C.s1 h1).1,Int.le_trans (C.s1 h1).2 h⟩,C.s3,λa b=>Int.le_trans (C.s4 a b) h⟩
structure AttL0 (S:jD) (x:qr) (me:Int):Prop where
  me:x.me=me
  set:x.set=S
  r:∀y∈x.r,0≤y.1∧y.1<S.ae
  inv:cy x.v
structure vT (S:jD) (n:Int) (x:qr) (i:Int):Prop extends AttL0 S x i where
  f:x.state=3→(0≤x.f.aG∧x.f.aG<S.ae)∧x.f.p.fin=0
  c:x.state=6→∀c,x.c=some c→wU S n c i∧c.p.fin=0
def Xc (x:qr) (j:Int):Prop:=x.state=6∧∃c,x.c=some c∧c.p.fin=0∧holds c j
theorem vT.mono {n':Int} (L:vT S n x me) (h:n≤n'):vT S n' x me:=⟨L.toAttL0,L.f,λh6 c hc=>⟨(L.c h6 c hc).1.mono h,(L.c h6 c hc).2⟩⟩
theorem AttL0.out (L:AttL0 S x me) {f e z:Int}:vT S n (zh x f e z) me:=⟨⟨L.me,L.set,L.r,L.inv⟩,λh=>(by cases h),λh=>by cases h⟩
theorem AttL0.ask (SO:xM S) (L:AttL0 S x me) {p:Int} (hp:0≤p):vT S n (J3 x p) me :=
 ⟨⟨L.me,L.set,L.r,L.inv⟩,λ_=>⟨(by show 0≤ofM p x.set.ae x.set.wide∧ofM p x.set.ae x.set.wide<S.ae;rw[L.set];simp_all[qxO]),rfl⟩,λh=>by cases h⟩
theorem AttL0.later (L:AttL0 S x me) {s:Int} (hs:s=4∨s=5):vT S n (gV x s) me :=
 ⟨⟨L.me,L.set,L.r,L.inv⟩,λh=>(by have h:s=3:=h;omega),λh=>by have h:s=6:=h;omega⟩
theorem vT.stamped (L:vT S n x me):vT S n (q9 x) me:=by
 unfold q9
 repeat' split
 all_goals exact⟨⟨L.me,L.set,L.r,L.inv⟩,L.f,L.c⟩
theorem Gc:(q9 x).state=x.state∧(q9 x).c=x.c:=by
 unfold q9
 grind
theorem jQ2 (SO:xM S) {st:Int} {r:List zm} {cs:List Cl} {sp:Int} (hr:r.length≤16) (RA:∀y∈r,0≤y.1∧y.1<S.ae) (h0:cs≠[]) (hl:cs.length≤1000) (hc:∀q∈cs,1≤q.1∧q.1<S.words) :
  wU S n (Xu me sp st r cs S.ae S.wide) me∧(Xu me sp st r cs S.ae S.wide).p.fin=0:=by
 have hs:∀z,(Xu me sp st r cs S.ae S.wide).state=z→z=0∨z=2:=λz h=>by
  grind[Xu,zV]
 refine⟨⟨rfl,qgH hr (by grind) hl λc h=>by grind,λz hz=>?_,RA,hc,λw hw=>(by cases hw),λh=>(by grind),λh=>(by grind),λh4 h6=>(by grind)⟩,rfl⟩;have hz:z∈x9 cs S.ae S.wide:=hz;rw[Jn λc h=>by grind]at hz;obtain⟨c,RL,rfl⟩:=List.mem_map.1 hz;exact qxO SO (by grind)
theorem AttL0.iH (SO:xM S) (B:QR x) (hj:aX True x.v x.ap) (L:AttL0 S x me):vT S n (xp x) me:=by
 have D:=Gj B.aH B.fr hj;have eI:cy (z8 x).2.v:=by rw[Kc];exact qJp L.inv
 have L':AttL0 S (z8 x).2 me:=⟨D.same.1.trans L.me,D.same.2.1.trans L.set,by rw[D.same.2.2.1];exact L.r,eI⟩;have bF:((z8 x).2.v.sz:Int)=S.words:=by rw[D.kept.1,B.sz,L.set]
 have hm:=V5 D.aH.1;unfold xp;generalize hd:(z8 x).1=ke at*;generalize(z8 x).2=d at*;unfold xd
 split
 ·rename_i h1;have:=(D.aB h1).1;exact L'.ask SO omQ
 ·split
  ·exact AttL0.later (x:={ d with cS:=true }) ⟨L'.me,L'.set,L'.r,L'.inv⟩ (.inr rfl)
  ·split
   ·exact L'.out
   ·split
    ·exact L'.out
    ·rename_i cg;have hr:d.r.length≤16:=by rw[D.same.2.2.1];exact B.r
     refine⟨⟨L'.me,L'.set,L'.r,L'.inv⟩,λh=>(by grind),λ_ c hc=>?_⟩;cases hc;have e1:=L'.set;have e2:=L'.me;rw[e1,e2];refine jQ2 SO hr L'.r cg omQ λq hq=>?_;obtain⟨lv,h1,h2⟩:=NA hq;have:=L'.inv lv h1 q h2;omega
theorem qGl {r:List zm} {s:zm} (h:∀y∈r,0≤y.1∧y.1<S.ae) (hs:0≤s.1∧s.1<S.ae):∀y∈(vw r s).2,0≤y.1∧y.1<S.ae:=by
 unfold vw
 grind
theorem qKI {V:VM} (h:cy V) {p w:Int}:cy (xc V p w).2:=by grind[wV,cy]
theorem AttL0.my (SO:xM S) (B:QR x) (hj:aX True x.v x.ap) (hw:0≤x.f.word∧x.f.word<18446744073709551616) (hs:0≤x.f.aG∧x.f.aG<S.ae) (hr0:x.f.p.fin=2∨x.f.p.fin=6) (L:AttL0 S x me):vT S n (jh x) me:=by
 unfold jh
 split
 ·exact L.later (.inl rfl)
 ·rename_i h6;have hf:x.f.p.fin=2:=by omega
  have es:xE x.f=(x.f.aG,x.f.lk.1):=by simp_all[xE]
  split
  ·have uM:=Xj hw;have k:=wV (V:=x.v) (p:=x.v.aB) (x:=xm x.f);refine AttL0.iH SO (x:={ x with r:=(vw x.r (xE x.f)).2,v:=(xc x.v x.v.aB (xm x.f)).2 }) ⟨B.set,Qo B.aH uM,by rw[k.2];exact B.sz,by rw[k.1];exact B.fr,XY B.r,(hj.hX (p:=x.v.aB) uM).dead not_false,B.c⟩ (hj.hX (p:=x.v.aB) uM) ⟨L.me,L.set,?_,qKI L.inv⟩;exact qGl L.r (by grind)
  ·split
   ·exact L.out
   ·exact L.out
structure qWh (S:jD) (M:zZ) (x:qr) (me:Int) (r:cx×zZ) (y:qr):Prop where
  mem:kD S r.2
  lk:vT S r.2.n y me
  n:M.n≤r.2.n∧r.2.n≤M.n+1
  held:∀j,0≤j→j<S.ae→(q8 r.2.l j).2.1=true→(q8 r.2.l j=q8 M.l j∧(Xc x j→Xc y j))∨((q8 r.2.l j).2.2=me∧Xc y j)
theorem jQ7 {f:Qg} {a:cx} (hp:f.p.fin=0) (ha:a.err=0):(jE f a).p.fin=0∨(jE f a).p.fin=2∨(jE f a).p.fin=5∨(jE f a).p.fin=6:=by
 unfold jE;rw[Yw hp ha,iQ (λh=>by grind)]
 split
 ·grind
 ·split
  ·exact .inr (.inl rfl)
  ·unfold gA
   split
   ·split
    ·exact .inl (cr.trans hp)
    ·exact .inr (.inr (.inl rfl))
   ·split
    ·exact .inr (.inr (.inr rfl))
    grind
theorem jKb {f:Qg} {a:cx}:(jE f a).aG=f.aG:=by
 grind[jE,gA]
theorem jKO (SO:xM S) (MO:kD S M) (O:zH x) (L:vT S M.n x me) (hm:0≤me∧me<4) (ha:∀o,zT x=some o→vz (qL M o).1) {o:dC} (hn:zT x=some o):qWh S M x me (qL M o) (qS x (qL M o).1):=by
 have ha:=ha o hn;have bZ:=O.st;by_cases h6:x.state=6
 ·--at its commit
  obtain⟨c,hc⟩:∃c,x.c=some c:=by
   cases h:x.c with
   |none=>exact absurd h (O.c6 h6)
   |some c=>simp
  obtain⟨CL,hf⟩:=L.c h6 c hc;obtain⟨o',bW,K⟩:=Zm MO CL hm hf;have:o'=o:=by unfold zT at hn;grind
  subst this;generalize qL M o'=r at*;have et:qS x r.1=jZ { x with c:=some (qp c r.1) }:=by unfold qS;rw[iQ omQ,iQ (λh=>h K.err),iQ omQ,iQ omQ,iQ omQ,iQ omQ,iQ omQ,iJ h6,hc];rfl
  rw[et];generalize qp c r.1=d at*;have ef:zA { x with c:=some d }=(d.p.fin,d.p.dj):=by simp_all[zA]
  have LB:vT S r.2.n x me:=L.mono K.n.1;have out:∀f e z,vT S r.2.n (zh { x with c:=some d } f e z) me:=λf e z=>AttL0.out (x:={ x with c:=some d }) ⟨L.me,L.set,L.r,L.inv⟩;unfold jZ;rw[ef];by_cases h0:d.p.fin=0
  ·rw[iJ h0];have hA:∀j,holds d j→Xc (q9 { x with c:=some d }) j:=λj h=>⟨Gc.1.trans h6,d,Gc.2,h0,h⟩;refine⟨K.mem,vT.stamped ⟨⟨L.me,L.set,L.r,L.inv⟩,L.f,λ_ e he=>?_⟩,K.n,λj j0 j1 hj=>?_⟩
   ·cases he;exact⟨K.dM,h0⟩
   ·rcases K.held j j0 j1 hj with⟨h1,h2⟩ |⟨h1,_,h2⟩
    ·exact .inl ⟨h1,λ⟨_,e,he,_,hh⟩=>by grind⟩
    grind
  ·have none:∀z:qr,∀j,0≤j→j<S.ae→(q8 r.2.l j).2.1=true→(q8 r.2.l j=q8 M.l j∧(Xc x j→Xc z j))∨((q8 r.2.l j).2.2=me∧Xc z j):=λz j j0 j1 hj=>by
    rcases K.held j j0 j1 hj with⟨h1,h2⟩ |⟨_,h1,_⟩
    ·exact .inl ⟨h1,λ⟨_,e,he,_,hh⟩=>by grind⟩
    grind
   rw[iQ h0]
   split
   ·exact⟨K.mem,(out ..).stamped,K.n,none _⟩
   ·unfold jF;rw[iQ (by grind),iQ (by grind),iQ (by grind)];exact⟨K.mem,(out ..).stamped,K.n,none _⟩
 ·--elsewhere it writes nothing
  have hk:o.kind=1∨o.kind=3∨o.kind=6∨o.kind=8∨o.kind=9:=by
   unfold zT at hn
   split at hn
   ·grind[bA]
   ·split at hn
    ·grind[bA]
    ·split at hn
     ·grind[bA]
     ·split at hn
      ·grind[bA]
      ·split at hn
       ·grind
       ·split at hn
        ·grind[Y7,bA]
        ·try rw[iQ h6]at hn
         grind[GK,bA]
  have e3:=Sv (M:=M) hk;have fin:∀y,vT S M.n y me→qWh S M x me (qL M o) y:=λy hy=>by
   refine⟨MO.same e3,by grind,by grind,λj _ _ _=>.inl ⟨by grind,λh=>absurd h.1 h6⟩⟩
  refine fin _ ?_;generalize(qL M o).1=a at*;have G:∀(s:Int) (b:Bool) (z w fin err dj:Int),s≠3→s≠6→vT S M.n { x with state:=s,begun:=b,aP:=z,aa:=w,fin:=fin,err:=err,dj:=dj } me:=λs b z w fin err dj h1 h2=>⟨⟨L.me,L.set,L.r,L.inv⟩,λh=>absurd h h1,λh=>absurd h h2⟩;unfold qS
  split
  ·grind
  ·split
   ·exact G 8 x.begun x.aP x.aa 4 a.err (-1) od od
   ·rename_i F7;have F7:a.err=0:=by omega
    split
    ·grind
    ·split
     ·grind
     ·split
      ·rename_i h2;exact AttL0.iH SO O.b (O.ap.same λ_=>by omega) L.toAttL0
      ·split
       ·grind
       ·split
        ·rename_i h3;have hf:=jQ7 (L.f h3).2 F7;have hfs:=jKb (f:=x.f) (a:=a);have mA:=Q3 (O.f h3).2 ha;have B:=O.b;have hj:aX True x.v x.ap:=O.ap.same λ_=>by omega
         have sS:=(L.f h3).1;generalize jE x.f a=f at*;have LF:AttL0 S { x with f:=f } me:=⟨L.me,L.set,L.r,L.inv⟩;unfold jZ;have ef:zA { x with f:=f }=(f.p.fin,f.p.dj):=by simp_all[zA]
         rw[ef];refine vT.stamped ?_
         split
         ·rename_i I3;exact⟨LF,λ_=>⟨by grind,I3⟩,λh=>absurd h h6⟩
         ·rename_i I3
          split
          ·exact LF.out
          ·rename_i hf5;unfold jF;rw[iJ (by grind)];exact AttL0.my SO (x:={ x with f:=f }) ⟨B.set,B.aH,B.sz,B.fr,B.r,B.ap,B.c⟩ hj mA (by grind) (by grind) LF
        ·rename_i h3;have LE:∀e z,AttL0 S { x with e:=e,aa:=z } me:=λe z=>⟨L.me,L.set,L.r,L.inv⟩;have h8:x.state=4∨x.state=5:=by omega
         unfold jZ;refine vT.stamped ?_
         split
         ·exact⟨LE _ x.aa,λh=>absurd h h3,λh=>absurd h h6⟩
         ·split
          ·exact(LE _ x.aa).out
          ·unfold jF;rw[iQ (by grind)]
           split
           ·rename_i h4;have h4:x.state=4:=h4;have:=O.aB omQ omQ;exact(LE _ _).ask SO (by grind)
           ·rename_i h4;have h4:¬x.state=4:=h4;rw[iJ (by grind)];exact(LE _ _).out
structure ThrLk (S:jD) (n:Int) (t:qe) (i:Int):Prop where
  me:t.me=i
  set:t.set=S
  a:t.state=1→∀x,t.now=some x→vT S n x i
def vJ (t:qe) (j:Int):Prop:=t.state=1∧∃x,t.now=some x∧Xc x j
variable {t u:qe} {i:Int}
theorem ThrLk.mono {n':Int} (L:ThrLk S n t i) (h:n≤n'):ThrLk S n' t i:=⟨L.me,L.set,λh1 x hx=>(L.a h1 x hx).mono h⟩
theorem qW7 (_:xM S) {j:wc}:vT S n (K4 me S j) me :=
 ⟨⟨rfl,rfl,λy hy=>(by cases hy),λx hx c hc=>by
  have hx:x∈[([],[])]:=hx
  grind⟩,λh=>(by cases h),λh=>by cases h⟩
structure uN (S:jD) (n:Int) (t:qe) (i:Int):Prop extends ThrLk S n t i where
  no:∀j,¬vJ t j
theorem GX (SO:xM S) (h1:t.me=i) (h2:t.set=S):uN S n (zJ t) i:=by
 have hS:jk t.set=S:=by grind[kT]
 unfold zJ
 split
 ·exact⟨⟨h1,h2,λh=>by simp⟩,λj h=>by cases h.1⟩
 ·refine⟨⟨h1,h2,λ_ x hx=>?_⟩,λj h=>?_⟩
  ·grind[Option.some.inj,w8,qW7,gL]
  ·obtain⟨_,x,hx,h6,_⟩:=h;have hx:=Option.some.inj hx;subst hx
   split at h6
   ·cases h6
   ·cases h6
theorem YK (h1:t.me=i) (h2:t.set=S) (h:t.state≠1):uN S n t i:=⟨⟨h1,h2,λh'=>absurd h' h⟩,λ_ h'=>h h'.1⟩
theorem Jm (SO:xM S) (h1:t.me=i) (h2:t.set=S):uN S n (xx t) i:=GX SO h1 h2
theorem qWp (SO:xM S) (h1:t.me=i) (h2:t.set=S) (draw:Int):uN S n (zo t draw) i:=by
 grind[zo,GX,YK]
theorem qvT (SO:xM S) (h1:t.me=i) (h2:t.set=S) (h5:t.state≠1):uN S n (yE t) i:=by
 grind[yy,YK,Jm,GX,yE]
theorem qyP (SO:xM S) (h1:t.me=i) (h2:t.set=S) (draw pick:Int):uN S n (zv t x draw pick) i:=by
 unfold zv;dsimp only
 split
 ·grind[YK,qWp,jJ]
 ·split
  ·grind[GX,jJ,YK]
  grind[kX,Jm,wq,qvT]
theorem qxr (SO:xM S) (L:ThrLk S n t i) (h:t.state≠1):uN S n (qs t) i:=by
 unfold qs
 split
 ·split
  ·exact GX SO L.me L.set
  ·exact YK L.me L.set (by grind)
 ·exact YK L.me L.set h
structure jQe (S:jD) (M:zZ) (t:qe) (i:Int) (r:cx×zZ) (u:qe):Prop where
  mem:kD S r.2
  lk:ThrLk S r.2.n u i
  n:M.n≤r.2.n∧r.2.n≤M.n+1
  held:∀j,0≤j→j<S.ae→(q8 r.2.l j).2.1=true→(q8 r.2.l j=q8 M.l j∧(vJ t j→vJ u j))∨((q8 r.2.l j).2.2=i∧vJ u j)
theorem qkl (SO:xM S) (MO:kD S M) (R:Cc M) (O:yK t) (W:cH t) (L:ThrLk S M.n t i) (hm:0≤i∧i<4) {o:dC} (hn:zO t=some o) (draw pick:Int):jQe S M t i (qL M o) (ql t (qL M o).1 draw pick):=by
 by_cases h1:t.state=1
 ·obtain⟨x,hx⟩:∃x,t.now=some x:=by
   cases h:t.now with
   |none=>exact absurd h (O.c omQ).some
   |some x=>simp
  have OA:=((O.c omQ).now x hx).1;have bW:zT x=some o:=by simp_all[zO]
  have lE:=(Ql R (wI O W hn)).1
  have K:=jKO SO MO OA (L.a h1 x hx) hm (λo' ia=>by
   grind) bW
  generalize qL M o=r at*;have et:ql t r.1 draw pick=xz t x (qS x r.1) draw pick:=by simp_all[ql]
  rw[et];generalize qS x r.1=y at*;unfold xz;dsimp only;have hT:∀j,vJ t j→Xc x j:=λj ⟨_,z,hz,h⟩=>by grind
  split
  ·refine⟨K.mem,⟨L.me,L.set,λ_ z hz=>by cases hz;exact K.lk⟩,K.n,λj j0 j1 hj=>?_⟩;rcases K.held j j0 j1 hj with⟨a,b⟩ |⟨a,b⟩
   ·exact .inl ⟨a,λh=>⟨h1,y,rfl,b (hT j h)⟩⟩
   ·exact .inr ⟨a,h1,y,rfl,b⟩
  ·rename_i he;have h8:y.state=8:=by
    unfold jK at he
    grind
   refine⟨K.mem,(qyP SO (by show t.me=i;exact L.me) (by show t.set=S;exact L.set) draw pick).toThrLk,K.n,λj j0 j1 hj=>?_⟩;rcases K.held j j0 j1 hj with⟨a,b⟩ |⟨a,b⟩
   ·exact .inl ⟨a,λh=>by have:=(b (hT j h)).1;omega⟩
   ·have:=b.1;omega
 ·have hk:o.kind=8:=by
   unfold zO at hn;rw[iQ h1]at hn
   split at hn
   ·cases hn;rfl
   ·split at hn
    ·cases hn;rfl
    grind
  have e3:=Sv (M:=M) (o:=o) omQ;have N:uN S M.n (ql t (qL M o).1 draw pick) i:=by
   unfold ql;rw[iQ h1]
   split
   ·split
    ·exact YK L.me L.set h1
    ·exact qWp SO L.me L.set _
   ·split
    ·rename_i h5;exact qvT SO L.me L.set (by grind)
    ·exact YK L.me L.set h1
  exact⟨MO.same e3,by rw[e3.2.2];exact N.toThrLk,by grind,λj _ _ _=>.inl ⟨by grind,λh=>absurd h.1 h1⟩⟩
theorem jQ8 (SO:xM S) (L:ThrLk S n t i) {s v:Int}:ThrLk S n (jN t s v) i∧∀j,vJ t j→vJ (jN t s v) j:=by
 unfold jN
 split
 ·grind
 ·rename_i x hx
  split
  ·split
   ·rename_i h4;exact⟨(GX SO L.me L.set).toThrLk,λj h=>by have:=h.1;omega⟩
   ·split
    ·exact⟨⟨L.me,L.set,L.a⟩,λj h=>h⟩
    grind
  grind
theorem qZa (W:cH t):cH (qs t):=by
 unfold qs
 split
 ·split
  ·simp[vu]
  trivial
 grind
theorem qY9 (W:cH t) {s v:Int}:cH (jN t s v):=by
 unfold jN
 split
 ·grind
 ·split
  ·split
   ·simp[vu]
   ·split
    all_goals trivial
  grind
structure kC (m:yj):Prop where
  so:xM m.s
  th:m.s.ad≤4
  mem:kD m.s m.m
  r:Cc m.m
  len:(m.t.length:Int)=m.s.ad
  t:∀(i:Nat) (t:qe),m.t[i]? =some t→yK t∧cH t∧ThrLk m.s m.m.n t i
  held:∀j,0≤j→j<m.s.ae→(q8 m.m.l j).2.1=true→∃(i:Nat) (t:qe),(q8 m.m.l j).2.2=(i:Int)∧m.t[i]? =some t∧vJ t j
theorem Xd {ts:List qe} {i:Nat} {s v:Int} {k:Nat}:(xl ts i s v)[k]? =(ts[k]?).map λt=>if k=i then t else jN t s v:=by simp[xl,List.getElem?_mapIdx]
theorem QB {m:yj} (K:kC m) {i:Nat} (hi:i<m.t.length) {draw:Int} (hd:0≤draw):kC (jn m i draw)∧(jn m i draw).s=m.s∧(jn m i draw).aA=m.aA+1∧m.m.n≤(jn m i draw).m.n∧(jn m i draw).m.n≤m.m.n+1:=by
 obtain⟨t,ht⟩:∃t,m.t[i]? =some t:=⟨m.t[i],iW hi⟩;obtain⟨O,W,L⟩:=K.t i t ht;have Ca:0≤(i:Int)∧(i:Int)<4:=by have:=K.len;have:=K.th;omega
 unfold jn;rw[ht];dsimp only;have eM:∀(u:qe),(m.t.set i u)[i]? =some u:=λu=>by grind
 have dO:∀(u:qe) {k:Nat},k≠i→(m.t.set i u)[k]? =m.t[k]?:=λu k hk=>by grind
 split
 ·rename_i hn;have h1:t.state≠1∨(t.state=1∧∀j,¬vJ t j):=by
   by_cases h1:t.state=1
   ·refine .inr ⟨h1,λj ⟨_,x,hx,h6,c,hc,hf,_⟩=>?_⟩;have hn:zT x=none:=by
     simp_all[zO]
    unfold zT at hn;rw[iQ omQ,iQ omQ,iQ omQ,iQ omQ,iQ omQ,iQ omQ,iJ h6,hc]at hn;have hn:yD c=none:=hn;unfold yD at hn;grind
   grind
  have L':ThrLk m.s m.m.n (qs t) i∧∀j,vJ t j→vJ (qs t) j:=by
   rcases h1 with h1 |⟨h1,h2⟩
   ·exact⟨(qxr K.so L h1).toThrLk,λj h=>absurd h.1 h1⟩
   simp_all[qs,omQ]
  refine⟨⟨K.so,K.th,K.mem,K.r,by show((m.t.set i _).length:Int)=_;rw[List.length_set];exact K.len,λk u hu=>?_,λj j0 j1 hj=>?_⟩,rfl,rfl,Int.le_refl _,by grind⟩
  ·have hu:(m.t.set i (qs t))[k]? =some u:=hu;by_cases hk:k=i
   ·grind[U6,qZa]
   ·rw[dO _ hk]at hu;exact K.t k u hu
  ·obtain⟨k,u,h1,h2,h3⟩:=K.held j j0 j1 hj;grind
 ·rename_i o hn;have T:=qkl K.so K.mem K.r O W L Ca hn draw (m.aA+1);have ho:=wI O W hn;obtain⟨a1,a2⟩:=Ql K.r ho;have O':=GG O a1 hd (pick:=m.aA+1) (draw:=draw);have W':=ZZ O W a1 draw (m.aA+1);generalize qL m.m o=r at*;generalize ql t r.1 draw (m.aA+1)=u at*;have base:∀ts:List qe,ts.length=m.t.length→(∀(k:Nat) (v:qe),ts[k]? =some v→yK v∧cH v∧ThrLk m.s r.2.n v k∧(k=i→∀j,vJ u j→vJ v j)∧(k≠i→∀w,m.t[k]? =some w→∀j,vJ w j→vJ v j))→
    kC { m with aA:=m.aA+1,last:=o,did:=true,m:=r.2,t:=ts }:=λts hl H=>by
   refine⟨K.so,K.th,T.mem,a2,by show(ts.length:Int)=_;rw[hl];exact K.len,λk v hv=>⟨(H k v hv).1,(H k v hv).2.1,(H k v hv).2.2.1⟩,λj j0 j1 hj=>?_⟩;have nr:vJ u j→(q8 r.2.l j).2.2=(i:Int)→∃(k:Nat) (t:qe),(q8 r.2.l j).2.2=(k:Int)∧ts[k]? =some t∧vJ t j:=λh e=>by
    grind
   rcases T.held j j0 j1 hj with⟨h1,h2⟩ |⟨h1,h2⟩
   ·obtain⟨k,w,g1,g2,g3⟩:=K.held j j0 j1 (by grind);by_cases hk:k=i
    ·grind
    ·have lS:k<ts.length:=by grind
     exact⟨k,ts[k],by grind,iW lS,(H k _ (iW lS)).2.2.2.2 hk w g2 j g3⟩
   grind
  have one:∀(k:Nat) (v:qe),(m.t.set i u)[k]? =some v→yK v∧cH v∧ThrLk m.s r.2.n v k∧(k=i→∀j,vJ u j→vJ v j)∧(k≠i→∀w,m.t[k]? =some w→∀j,vJ w j→vJ v j):=λk v hv=>by
   by_cases hk:k=i
   ·subst hk;rw[eM]at hv;cases hv;exact⟨O',W',T.lk,λ_ j h=>h,λh=>absurd rfl h⟩
   ·rw[dO _ hk]at hv;obtain⟨b1,b2,b3⟩:=K.t k v hv;exact⟨b1,b2,b3.mono T.n.1,λh=>absurd h hk,λ_ w hw j h=>by grind⟩
  refine⟨?_,rfl,rfl,T.n⟩
  split
  ·refine base _ (by simp[xl]) λk v hv=>?_;rw[Xd]at hv;cases hq:(m.t.set i u)[k]? with
   |none=>grind
   |some q=>
    rw[hq]at hv;have hv:(if k=i then q else jN q o.at_ o.lk.1)=v:=Option.some.inj hv;obtain⟨b1,b2,b3,b4,b5⟩:=one k q hq;by_cases hk:k=i
    ·grind
    ·rw[iQ hk]at hv;subst hv;have wk:=jQ8 K.so b3 (s:=o.at_) (v:=o.lk.1);grind[Zz,qY9,absurd]
  grind
theorem VR {s:jD} {jobs:List (List (List qa))} (hs:0≤s.start) (hj:∀js∈jobs,∀l∈js,(zi l).2=0∧Quiet l):kC (xP s jobs):=by
 have so:xM (jk { s with ad:=((jobs.take 4).length:Int) }):=yr hs;have q1:=so.words;have q2:=so.ae;have q3:=so.ad;have q4:=so.start;generalize hS:jk { s with ad:=((jobs.take 4).length:Int) }=S at*;have e:qL (yq S) (bA 2 5 14)=(dS,{ yq S with w:=(yq S).w.set 5 14,bh:=1 }):=by refine(VU (M:=yq S) (N:={ yq S with w:=(yq S).w.set 5 14 }) (a:=dS) (.inr rfl) ?_ rfl);unfold Ku;rw[iQ (by show¬((5:Int)<1∨((List.replicate S.words.toNat (0:Int)).length:Int)≤5);grind)];rfl
 have lkz:∀j,q8 (List.replicate S.ae.toNat bT) j=bT:=λj=>by
  unfold q8;grind
 unfold xP;rw[hS];dsimp only;rw[e];refine⟨so,q3.2,⟨?_,?_,?_,λj j0 j1=>?_⟩,?_,?_,λi t ht=>?_,λj j0 j1 hj=>?_⟩
 ·show((((List.replicate S.words.toNat (0:Int)).set 5 14).length:Nat):Int)=S.words;grind
 ·show(((List.replicate S.ae.toNat bT).length:Nat):Int)=S.ae;grind
 ·show 0≤S.start∧S.start<4611686018427387904;omega
 ·show wB (q8 (List.replicate S.ae.toNat bT) j)∧(q8 (List.replicate S.ae.toNat bT) j).1≤S.start;rw[lkz];exact⟨by trivial,q4.1⟩
 ·have r0:Cc (yq S):=by
   have Q:=qWa so;refine⟨Q.wd,by rw[Q.n];grind,λz hz=>?_⟩;rw[Q.s]at hz;grind
  grind[Ql,yq,bA]
 ·grind
 ·rw[List.getElem?_map]at ht;by_cases hi:i<S.ad.toNat
  ·rw[List.getElem?_range hi]at ht;have ht:=Option.some.inj ht;subst ht;have rs:∀l∈(((jobs.take 4)[i]?).getD []),(zi l).2=0∧Quiet l:=λl hl=>by
    grind
   have O:yK (gr i S (((jobs.take 4)[i]?).getD [])):=qwe q4.1 rs;have hh:=kT so;have me:max 0 (min (i:Int) ((jk S).ad-1))=(i:Int):=by grind
   refine⟨O,gk _,(Jm so ?_ hh).toThrLk⟩;grind
  grind
 ·have hj:(q8 (List.replicate S.ae.toNat bT) j).2.1=true:=hj;rw[lkz]at hj;cases hj
end
section
abbrev gS:Type:=Nat→List Cl
def hv (G:gS) (w0:List Int):Nat→Int→Int
 | 0,p=>qC w0 p
 |k+1,p=>(jO p (G (k+1))).getD (hv G w0 k p)
theorem qWT {G:gS} {w0:List Int} {p:Int}:∀(d a:Nat),(∀k,a<k→k≤a+d→jO p (G k)=none)→hv G w0 (a+d) p=hv G w0 a p:=by
 intro d
 induction d with
 |zero=>simp
 |succ d ih=>intro a h;show(jO p (G (a+d+1))).getD (hv G w0 (a+d) p)=_;grind
theorem I4 {G:gS} {w0:List Int} {p:Int} {a b:Nat} (nu:a≤b) (h:∀k,a<k→k≤b→jO p (G k)=none):hv G w0 b p=hv G w0 a p:=by obtain⟨d,rfl⟩:=Nat.exists_eq_add_of_le nu;simp_all[qWT]
theorem Sw {G G':gS} {w0:List Int} {p:Int}:∀(a:Nat),(∀k,k≤a→jO p (G' k)=jO p (G k))→hv G' w0 a p=hv G w0 a p:=by
 intro a
 induction a with
 |zero=>intro _;rfl
 |succ a ih=>intro h;show(jO p (G' (a+1))).getD _=(jO p (G (a+1))).getD _;grind
theorem Xp {p:Int} {l:List Cl}:jO p l=none↔∀c∈l,c.1≠p:=by
 induction l with
 |nil=>exact⟨λ_ c hc=>(by grind),λ_=>rfl⟩
 |cons a l ih=>
  unfold jO
  grind
def mB (S:jD) (p:Int):Int:=ofM p S.ae S.wide
def Touch (S:jD) (cs:List Cl) (j:Int):Prop:=∃q∈cs,mB S q.1=j
theorem Touch.none {S:jD} {cs:List Cl} {p:Int} (h:¬Touch S cs (mB S p)):jO p cs=none :=
 Xp.2 λc hc e=>h ⟨c,hc,by rw[e]⟩
def xr (t:qe):Option jw:=if t.state=1 then(match t.now with |some x=>if x.state=6 then x.c else none |none=>none)else none
structure Env where
  M:zZ
  G:gS
  C:Nat→Option jw
def xO (m:yj) (G:gS):Env:=⟨m.m,G,λi=>(m.t[i]?).bind xr⟩
variable {S:jD} {w0:List Int} {E F:Env}
def hY (E:Env) (T j:Int):Prop:=∀i c,E.C i=some c→c.state=4→c.now+1≤T→j∉c.s
def Gd (S:jD) (E:Env) (j a b:Int):Prop:=∀s:Int,a<s→s≤b→¬Touch S (E.G (s-S.start).toNat) j
structure nV (S:jD) (E:Env) (T j v:Int):Prop where
  le:v≤T
  q:Gd S E j v T
  np:hY E T j
def RT (S:jD) (w0:List Int) (E:Env) (T:Int) (K:List Cl):Prop:=∀c∈K,c.2=hv E.G w0 (T-S.start).toNat c.1∧hY E T (mB S c.1)
def bU (c:jw):Prop:=c.state=5∨c.state=6
def mC (E:Env) (j:Int):Prop:=∃i c,E.C i=some c∧bU c∧holds c j
structure yd (S:jD) (E F:Env):Prop where
  n:E.M.n≤F.M.n
  g:∀k:Nat,F.G k=E.G k∨(E.M.n-S.start).toNat<k∨(E.G k=[]∧∃i c,E.C i=some c∧c.state=4∧(c.now+1-S.start).toNat=k∧F.G k=c.cells)
  p:∀i c,F.C i=some c→c.state=4→E.M.n<c.now+1∨∃d,E.C i=some d∧d.state=4∧d.now=c.now∧d.s=c.s∧d.cells=c.cells
  v:∀j:Int,0≤j→j<S.ae→(q8 E.M.l j).1≤(q8 F.M.l j).1
  w:∀j:Int,0≤j→j<S.ae→mC E j→mC F j∨(q8 E.M.l j).1<(q8 F.M.l j).1
  b:∀(k:Nat) (j:Int),0≤j→j<S.ae→k≤(E.M.n-S.start).toNat→Touch S (F.G k) j→Touch S (E.G k) j∨mC F j∨(q8 E.M.l j).1<(q8 F.M.l j).1
structure Yb (S:jD) (E:Env):Prop where
  start:S.start≤E.M.n
  dM:∀i c,E.C i=some c→(∀q∈c.cells,mB S q.1∈c.s)∧(4≤c.state→c.state≤6→S.start≤c.now∧c.now+1≤E.M.n)
theorem hY.later {T j:Int} (h:hY E T j) (L:yd S E F) (hT:T≤E.M.n):hY F T j:=λi c hc h4 hle=>by
 rcases L.p i c hc h4 with h1 |⟨d,h1,h2,h3,h5,_⟩
 ·omega
 ·rw[← h5];exact h i d h1 h2 omQ
theorem yd.Sx (L:yd S E F) (O:Yb S E) {T p:Int} (_:S.start≤T) (hT:T≤E.M.n) (np:hY E T (mB S p)) {k:Nat} (hk:k≤(T-S.start).toNat):jO p (F.G k)=jO p (E.G k):=by
 rcases L.g k with h |h |⟨h1,i,c,hc,h4,hs,hg⟩
 ·rw[h]
 ·omega
 ·have hn:=(O.dM i c hc).2 omQ omQ;have:=np i c hc h4 omQ;rw[h1,hg];show jO p c.cells=none;exact Xp.2 λq hq e=>this (e▸(O.dM i c hc).1 q hq)
theorem nV.later {T j v:Int} (h:nV S E T j v) (L:yd S E F) (O:Yb S E) (hT:T≤E.M.n):nV S F T j v:=by
 refine⟨h.le,λs h1 h2 ht=>?_,h.np.later L hT⟩;have hq:=h.q s h1 h2;have hs0:=O.start;rcases L.g (s-S.start).toNat with e |e |⟨e1,i,c,hc,h4,hs,hg⟩
 ·grind
 ·omega
 ·have hn:=(O.dM i c hc).2 omQ omQ;have:=h.np i c hc h4 omQ;rw[hg]at ht;obtain⟨q,ui,uj⟩:=ht;exact this (uj▸(O.dM i c hc).1 q ui)
theorem RT.later {T:Int} {K:List Cl} (h:RT S w0 E T K) (L:yd S E F) (O:Yb S E) (h0:S.start≤T) (hT:T≤E.M.n):RT S w0 F T K:=λc hc=>by
 obtain⟨h1,h2⟩:=h c hc;refine⟨?_,h2.later L hT⟩;rw[h1];exact(Sw _ λk hk=>L.Sx O h0 hT h2 hk).symm
theorem Mw {p v a b:Int} (h0:S.start≤a) (h1:S.start≤b) (rR:v≤a) (Pd:v≤b) (ha:Gd S E (mB S p) v a) (hb:Gd S E (mB S p) v b):hv E.G w0 (a-S.start).toNat p=hv E.G w0 (b-S.start).toNat p:=by
 have key:∀c,S.start≤c→v≤c→Gd S E (mB S p) v c→hv E.G w0 (c-S.start).toNat p=hv E.G w0 (max v S.start-S.start).toNat p:=λc hc hvc hq=>by
  refine I4 omQ λk h1 h2=>?_;have:=hq (S.start+k) omQ omQ;grind[Touch.none]
 grind
theorem yd.trans {D:Env} (a:yd S D E) (b:yd S E F) (O:Yb S D):yd S D F:=by
 have h0:=O.start;refine⟨Int.le_trans a.n b.n,λk=>?_,λi c hc h4=>?_,λj j0 j1=>Int.le_trans (a.v j j0 j1) (b.v j j0 j1),λj j0 j1 h=>?_,λk j j0 j1 hk ht=>?_⟩
 ·have hn:=a.n;rcases b.g k with e |e |⟨e,i,c,hc,h4,hs,hg⟩
  ·rw[e];exact a.g k
  ·omega
  ·rcases a.p i c hc h4 with h |⟨d,hd,d4,dn,_,dc⟩
   ·omega
   ·rcases a.g k with g |g |⟨g,_⟩
    all_goals grind
 ·have hn:=a.n;rcases b.p i c hc h4 with h |⟨d,hd,d4,dn,ds,dc⟩
  ·omega
  ·rcases a.p i d hd d4 with h |⟨e,he,e4,en,es,ec⟩
   all_goals grind
 ·have h1:=a.v j j0 j1;have h2:=b.v j j0 j1;rcases a.w j j0 j1 h with h |h
  ·rcases b.w j j0 j1 h with h |h
   all_goals grind
  omega
 ·have hn:=a.n;have h1:=a.v j j0 j1;have h2:=b.v j j0 j1;rcases b.b k j j0 j1 omQ ht with h |h |h
  ·rcases a.b k j j0 j1 hk h with h |h |h
   ·grind
   ·rcases b.w j j0 j1 h with h |h
    all_goals grind
   omega
  all_goals grind
end
section
structure Dv (S:jD) (n:Int) (c:jw):Prop where
  cY:c.s.Pairwise (· < ·)
  s:∀z∈c.s,0≤z∧z<S.ae
  cells:∀q∈c.cells,1≤q.1∧q.1<S.words
  s1:c.state=1→c.lk.2=(false,0)∧c.lk.1≤n
  s3:c.state=3→c.now<4611686018427387903
  s4:4≤c.state→c.state≤6→c.now+1≤n
  full:2≤c.state→c.state≤6→c.ax.length=c.s.length
  a7:6≤c.state→c.at_<c.ax.length
theorem wU.nH {S:jD} {n me:Int} {c:jw} (C:wU S n c me) (hp:c.p.fin=0):Dv S n c:=by have h:=C.ok.ar;unfold zf at h;exact⟨C.ok.cY,C.s,C.cells,C.s1,C.s3,C.s4,λ_ _=>by omega,λ_=>by omega⟩
theorem Dv.mono {S:jD} {n n':Int} {c:jw} (C:Dv S n c) (h:n≤n'):Dv S n' c :=
 ⟨C.cY,C.s,C.cells,λh1=>⟨(C.s1 h1).1,Int.le_trans (C.s1 h1).2 h⟩,C.s3,λa b=>Int.le_trans (C.s4 a b) h,C.full,C.a7⟩
structure Gi (S:jD) (n:Int) (c:jw) (i:Nat):Prop where
  lk:Dv S n c
  fin:c.p.fin=0
  lU:∀q∈c.cells,mB S q.1∈c.s
  un:lR c.cells
  ne:c.cells≠[]
  now:3≤c.state→c.state≤6→S.start≤c.now∧∀w∈c.ax,w.1≤c.now
structure xG (S:jD) (w0:List Int) (E:Env):Prop where
  st:S.start≤E.M.n
  ml:kD S E.M
  dM:∀i c,E.C i=some c→Gi S E.M.n c i
  hold:∀i c,E.C i=some c→∀(k:Nat) (z:Int) (w:di),c.s[k]? =some z→c.ax[k]? =some w→(6≤c.state→c.at_≤k)→q8 E.M.l z=(w.1,true,(i:Int))
  ru:∀i c,E.C i=some c→bU c→E.G (c.now+1-S.start).toNat=c.cells
  tL:∀i c,E.C i=some c→c.state=4→E.G (c.now+1-S.start).toNat=[]
  eO:∀i j c d,E.C i=some c→E.C j=some d→4≤c.state→c.state≤6→4≤d.state→d.state≤6→c.now=d.now→i=j
  tM:∀k:Nat,(E.M.n-S.start).toNat<k→E.G k=[]
  g0:E.G 0=[]
  dX:∀j s:Int,0≤j→j<S.ae→(q8 E.M.l j).1<s→s≤E.M.n→Touch S (E.G (s-S.start).toNat) j→∃i c,E.C i=some c∧bU c∧c.now+1=s∧holds c j
  mem:∀p:Int,1≤p→p<S.words→qC E.M.w p=hv E.G w0 (E.M.n-S.start).toNat p∨∃i c,E.C i=some c∧c.state=5∧∃(k:Nat) (q:Cl),c.at_≤k∧c.cells[k]? =some q∧q.1=p
variable {S:jD} {w0:List Int} {E:Env} {i:Nat} {c d:jw}
theorem xG.env (I:xG S w0 E):Yb S E :=
 ⟨I.st,λi c hc=>⟨(I.dM i c hc).lU,λh4 h6=>⟨((I.dM i c hc).now omQ h6).1,(I.dM i c hc).lk.s4 h4 h6⟩⟩⟩
theorem Gi.full {n:Int} (I:Gi S n c i) (h2:2≤c.state) (h6:c.state≤6):c.ax.length=c.s.length:=I.lk.full h2 h6
theorem Gi.holds {n:Int} (I:Gi S n c i) (h2:2≤c.state) (h5:c.state≤5) {j:Int} (hj:j∈c.s):holds c j:=by obtain⟨k,hk,e⟩:=List.mem_iff_getElem.1 hj;have:=I.full h2 omQ;exact⟨k,by grind,by omega,λh=>by omega⟩
theorem xG.own (I:xG S w0 E) (hc:E.C i=some c) {j:Int} (h:holds c j):(q8 E.M.l j).2.1=true∧(q8 E.M.l j).2.2=(i:Int):=by obtain⟨k,h1,h2,h3⟩:=h;have:=I.hold i c hc k j _ h1 (iW h2) h3;grind
theorem xG.one (I:xG S w0 E) {i':Nat} {c':jw} (hc:E.C i=some c) (bE:E.C i'=some c') {j:Int} (h:holds c j) (h':holds c' j):i'=i∧c'=c:=by
 have a:=(I.own hc h).2;have b:=(I.own bE h').2;grind
theorem xG.free (I:xG S w0 E) {j T:Int} (j0:0≤j) (j1:j<S.ae) (hf:(q8 E.M.l j).2.1=false) (hv:(q8 E.M.l j).1≤T) (hT:T≤E.M.n):nV S E T j (q8 E.M.l j).1:=by
 have no:∀i c,E.C i=some c→¬holds c j:=λi c hc h=>by
  rw[(I.own hc h).1]at hf;grind
 refine⟨hv,λs h1 h2 ht=>?_,λi c hc h4 _ hj=>no i c hc ((I.dM i c hc).holds omQ omQ hj)⟩;obtain⟨i,c,hc,_,_,hh⟩:=I.dX j s j0 j1 h1 omQ ht;grind
theorem xG.nr (I:xG S w0 E) (hc:E.C i=some c) (hw:¬bU c) {j T:Int} (j0:0≤j) (j1:j<S.ae) (hh:holds c j) (hv:(q8 E.M.l j).1≤T) (hT:T≤E.M.n) (h4:c.state=4→T≤c.now):nV S E T j (q8 E.M.l j).1:=by
 refine⟨hv,λs h1 h2 ht=>?_,λi' c' bE sU hle hj=>?_⟩
 ·obtain⟨i',c',bE,dR,_,fU⟩:=I.dX j s j0 j1 h1 omQ ht;obtain⟨_,rfl⟩:=I.one hc bE hh fU;grind
 ·obtain⟨_,rfl⟩:=I.one hc bE hh ((I.dM i' c' bE).holds omQ omQ hj);grind
theorem xG.word (I:xG S w0 E) {p:Int} (h1:1≤p) (h2:p<S.words) (no:∀i c,E.C i=some c→bU c→¬holds c (mB S p)):qC E.M.w p=hv E.G w0 (E.M.n-S.start).toNat p:=by
 rcases I.mem p h1 h2 with h |⟨i,c,hc,h5,k,q,_,hq,rfl⟩
 ·grind
 ·exact absurd ((I.dM i c hc).holds omQ omQ ((I.dM i c hc).lU q (List.mem_of_getElem? hq))) (no i c hc (.inl h5))
theorem mC.keep {M:zZ} {G:gS} {C:Nat→Option jw} {o:Option jw} {M':zZ} {G':gS} {j:Int} (h:mC ⟨M,G,C⟩ j) (hn:∀c,C i=some c→¬bU c):mC ⟨M',G',λk=>if k=i then o else C k⟩ j:=by
 obtain⟨i',c',bE,dR,fU⟩:=h;have:i'≠i:=λe=>by grind
 exact⟨i',c',by grind,dR,fU⟩
def cR (C:Nat→Option jw) (i:Nat) (o:Option jw):Nat→Option jw:=λj=>if j=i then o else C j
theorem Jo {C:Nat→Option jw} {o:Option jw}:cR C i o i=o:=iJ rfl
theorem jL {C:Nat→Option jw} {o:Option jw} {j:Nat} {e:jw} (h:cR C i o j=some e):(j=i∧o=some e)∨(j≠i∧C j=some e):=by
 grind[cR]
theorem ge {C:Nat→Option jw} {o:Option jw} {j:Nat} (h:j≠i):cR C i o j=C j:=iQ h
theorem xG.same {M':zZ} (I:xG S w0 E) (h:M'.w=E.M.w∧M'.l=E.M.l∧M'.n=E.M.n):xG S w0 ⟨M',E.G,E.C⟩ :=
 ⟨by show S.start≤M'.n;rw[h.2.2];exact I.st,I.ml.same h,by show∀i c,E.C i=some c→Gi S M'.n c i;rw[h.2.2];exact I.dM,by show∀i c,E.C i=some c→∀(k:Nat) (z:Int) (w:di),c.s[k]? =some z→c.ax[k]? =some w→(6≤c.state→c.at_≤k)→q8 M'.l z=(w.1,true,(i:Int));rw[h.2.1];exact I.hold,
  I.ru,I.tL,I.eO,by show∀k:Nat,(M'.n-S.start).toNat<k→E.G k=[];rw[h.2.2];exact I.tM,I.g0,
  by show∀j s:Int,0≤j→j<S.ae→(q8 M'.l j).1<s→s≤M'.n→Touch S (E.G (s-S.start).toNat) j→∃i c,E.C i=some c∧bU c∧c.now+1=s∧holds c j;rw[h.2.1,h.2.2];exact I.dX,
  by show∀p:Int,1≤p→p<S.words→qC M'.w p=hv E.G w0 (M'.n-S.start).toNat p∨∃i c,E.C i=some c∧c.state=5∧∃(k:Nat) (q:Cl),c.at_≤k∧c.cells[k]? =some q∧q.1=p;rw[h.1,h.2.2];exact I.mem⟩
structure jKi (S:jD) (E:Env) (i:Nat) (d:jw):Prop where
  dM:Gi S E.M.n d i
  hold:∀(k:Nat) (z:Int) (w:di),d.s[k]? =some z→d.ax[k]? =some w→(6≤d.state→d.at_≤k)→q8 E.M.l z=(w.1,true,(i:Int))
  nw:¬bU d
  p4:d.state=4→∃c,E.C i=some c∧c.state=4∧c.now=d.now∧c.s=d.s∧c.cells=d.cells
theorem xG.swap (I:xG S w0 E) (hn:∀c,E.C i=some c→¬bU c) {o:Option jw} (ho:∀d,o=some d→jKi S E i d):xG S w0 ⟨E.M,E.G,cR E.C i o⟩∧yd S E ⟨E.M,E.G,cR E.C i o⟩:=by
 refine⟨⟨I.st,I.ml,λj e he=>?_,λj e he=>?_,λj e he hw=>?_,λj e he h4=>?_,λj k e f he hf a1 a2 b1 b2 hq=>?_,I.tM,I.g0,λj s j0 j1 h1 h2 ht=>?_,λp p0 p1=>?_⟩,⟨Int.le_refl _,λk=>.inl rfl,λj e he h4=>?_,λ_ _ _=>Int.le_refl _,λj _ _ h=>.inl (h.keep hn),λ_ _ _ _ _ h=>.inl h⟩⟩
 ·rcases jL he with⟨rfl,h⟩ |⟨_,h⟩
  ·exact(ho e h).dM
  ·exact I.dM j e h
 ·rcases jL he with⟨rfl,h⟩ |⟨_,h⟩
  ·exact(ho e h).hold
  ·exact I.hold j e h
 ·rcases jL he with⟨rfl,h⟩ |⟨_,h⟩
  ·exact absurd hw (ho e h).nw
  ·exact I.ru j e h hw
 ·rcases jL he with⟨rfl,h⟩ |⟨_,h⟩
  ·obtain⟨c,hc,sU,F8,_⟩:=(ho e h).p4 h4;show E.G (e.now+1-S.start).toNat=[];rw[← F8];exact I.tL _ c hc sU
  ·exact I.tL j e h h4
 ·have B7:∀{e},o=some e→4≤e.state→e.state≤6→e.state=4:=λ{e} h a b=>by
   have:=(ho e h).nw;grind[bU]
  rcases jL he with⟨rfl,h⟩ |⟨hj,h⟩<;>rcases jL hf with⟨rfl,h'⟩ |⟨hk,h'⟩
  ·rfl
  ·obtain⟨c,hc,sU,F8,_⟩:=(ho e h).p4 (B7 h a1 a2);exact I.eO _ _ c f hc h' omQ omQ b1 b2 omQ
  ·obtain⟨c,hc,sU,F8,_⟩:=(ho f h').p4 (B7 h' b1 b2);exact I.eO _ _ e c h hc a1 a2 omQ omQ omQ
  ·exact I.eO j k e f h h' a1 a2 b1 b2 hq
 ·obtain⟨i',c',bE,dR,eh,fU⟩:=I.dX j s j0 j1 h1 h2 ht;have:i'≠i:=λe=>by grind
  exact⟨i',c',(ge this).trans bE,dR,eh,fU⟩
 ·rcases I.mem p p0 p1 with h |⟨i',c',bE,h5,hr⟩
  ·grind
  ·have:i'≠i:=λe=>by subst e;exact hn c' bE (.inl h5)
   exact .inr ⟨i',c',(ge this).trans bE,h5,hr⟩
 ·rcases jL he with⟨rfl,h⟩ |⟨_,h⟩
  ·obtain⟨c,hc,sU,F8,eh⟩:=(ho e h).p4 h4;grind
  grind
theorem Yc (I:xG S w0 E) {z j:Int} {x:di} (z0:0≤z) (z1:z<S.ae) (j0:0≤j):q8 (E.M.l.set z.toNat x) j=if z=j then x else q8 E.M.l j:=by have:=I.ml.l;simp_all[ZR,omQ]
theorem xG.take (I:xG S w0 E) (hc:E.C i=some c) (h1:c.state=1) (hi:i<4) {z:Int} (hz:c.s[c.ax.length]? =some z) (hl:q8 E.M.l z=c.lk) {k:Int} (hd:Gi S E.M.n (zV { c with ax:=c.ax++[c.lk] }) i) :
  xG S w0 ⟨{ E.M with l:=E.M.l.set z.toNat (c.lk.1,true,(i:Int)),bh:=k },E.G,cR E.C i (some (zV { c with ax:=c.ax++[c.lk] }))⟩∧
   yd S E ⟨{ E.M with l:=E.M.l.set z.toNat (c.lk.1,true,(i:Int)),bh:=k },E.G,cR E.C i (some (zV { c with ax:=c.ax++[c.lk] }))⟩:=by
 have CI:=I.dM i c hc;have fA:=CI.lk.s z (List.mem_of_getElem? hz);obtain⟨l1,l2⟩:=CI.lk.s1 h1;have bZ:(zV { c with ax:=c.ax++[c.lk] }).state=0∨(zV { c with ax:=c.ax++[c.lk] }).state=2:=by
  unfold zV;grind
 have hs:(zV { c with ax:=c.ax++[c.lk] }).s=c.s:=rfl;have hws:(zV { c with ax:=c.ax++[c.lk] }).ax=c.ax++[c.lk]:=rfl;generalize zV { c with ax:=c.ax++[c.lk] }=d at*;have hnw:¬bU d:=by grind[bU]
 have fD:∀c',E.C i=some c'→¬bU c':=λc' bE=>by
  grind[bU]
 have other:∀j e,E.C j=some e→j≠i→∀y,holds e y→z≠y:=λj e he _ y hy h=>by
  subst h;have:=(I.own he hy).1;grind
 have vs:∀j,0≤j→(q8 (E.M.l.set z.toNat (c.lk.1,true,(i:Int))) j).1=(q8 E.M.l j).1:=λj j0=>by
  grind[Yc]
 refine⟨⟨I.st,I.ml.put (x:=(c.lk.1,true,(i:Int))) fA.1 fA.2 (by rw[Ug];have:=I.ml.n;omega) l2 k,λj e he=>?_,λj e he q y w h2 h3 h4=>?_,λj e he hw=>?_,λj e he h4=>?_,λj q e f he hf a1 a2 b1 b2 hq=>?_,I.tM,I.g0,λj s j0 j1 g1 g2 ht=>?_,λp p0 p1=>?_⟩,⟨Int.le_refl _,λk=>.inl rfl,λj e he h4=>?_,λj j0 _=>by grind,λj _ _ h=>.inl (h.keep fD),λ_ _ _ _ _ h=>.inl h⟩⟩
 ·rcases jL he with⟨rfl,h⟩ |⟨_,h⟩
  ·grind
  ·exact I.dM j e h
 ·show q8 (E.M.l.set z.toNat (c.lk.1,true,(i:Int))) y=_;rcases jL he with⟨rfl,h⟩ |⟨hj,h⟩
  ·cases h;have fw:=CI.lk.s y (by grind);rw[Yc I fA.1 fA.2 fw.1];rw[hs]at h2;rw[hws]at h3;by_cases hq:q<c.ax.length
   ·rw[List.getElem?_append_left hq]at h3;rw[iQ λe=>?_,I.hold _ c hc q y w h2 h3 λh6=>by omega];subst e;have:=qZE CI.lk.cY h2 hz;omega
   grind
  ·have hy:holds e y:=⟨q,h2,(List.getElem?_eq_some_iff.1 h3).1,h4⟩;rw[Yc I fA.1 fA.2 ((I.dM j e h).lk.s y (List.mem_of_getElem? h2)).1,iQ (other j e h hj y hy)];exact I.hold j e h q y w h2 h3 h4
 ·rcases jL he with⟨rfl,h⟩ |⟨_,h⟩
  ·grind
  ·exact I.ru j e h hw
 ·rcases jL he with⟨rfl,h⟩ |⟨_,h⟩
  ·grind
  ·exact I.tL j e h h4
 ·rcases jL he with⟨rfl,h⟩ |⟨hj,h⟩
  ·grind
  ·rcases jL hf with⟨rfl,h'⟩ |⟨hk,h'⟩
   ·grind
   ·exact I.eO j q e f h h' a1 a2 b1 b2 hq
 ·have g1:(q8 (E.M.l.set z.toNat (c.lk.1,true,(i:Int))) j).1<s:=g1;rw[vs j j0]at g1;obtain⟨i',c',bE,dR,eh,fU⟩:=I.dX j s j0 j1 g1 g2 ht;have:i'≠i:=λe=>by
   grind
  exact⟨i',c',(ge this).trans bE,dR,eh,fU⟩
 ·rcases I.mem p p0 p1 with h |⟨i',c',bE,h5,hr⟩
  ·grind
  ·have:i'≠i:=λe=>by
    grind
   exact .inr ⟨i',c',(ge this).trans bE,h5,hr⟩
 ·rcases jL he with⟨rfl,h⟩ |⟨_,h⟩
  all_goals grind
theorem xG.raise (I:xG S w0 E) (hc:E.C i=some c) (h3:c.state=3) (hq:E.M.n=c.now) {k:Int} (hd:Gi S (c.now+1) { c with state:=4 } i) :
  xG S w0 ⟨{ E.M with n:=c.now+1,bh:=k },E.G,cR E.C i (some { c with state:=4 })⟩∧yd S E ⟨{ E.M with n:=c.now+1,bh:=k },E.G,cR E.C i (some { c with state:=4 })⟩:=by
 have CI:=I.dM i c hc;have bZ:=I.st;have fD:∀c',E.C i=some c'→¬bU c':=λc' bE=>by
  grind[bU]
 have mw:=CI.lk.s3 h3;have gf:E.G (c.now+1-S.start).toNat=[]:=I.tM _ omQ;have oK:∀j e,E.C j=some e→4≤e.state→e.state≤6→e.now+1≤E.M.n:=λj e he a b=>(I.dM j e he).lk.s4 a b;refine⟨⟨by grind,⟨I.ml.w,I.ml.l,by have:=I.ml.n;grind,λj a b=>⟨(I.ml.lk j a b).1,by have:=(I.ml.lk j a b).2;grind⟩⟩,λj e he=>?_,λj e he q y w g2 g3 g4=>?_,λj e he hw=>?_,λj e he h4=>?_,λj q e f he hf a1 a2 b1 b2 iL=>?_,λq iL=>I.tM q (by grind),I.g0,λj s j0 j1 g1 g2 ht=>?_,λp p0 p1=>?_⟩,⟨by grind,λk=>.inl rfl,λj e he h4=>?_,λ_ _ _=>Int.le_refl _,λj _ _ h=>.inl (h.keep fD),λ_ _ _ _ _ h=>.inl h⟩⟩
 ·rcases jL he with⟨rfl,h⟩ |⟨_,h⟩
  ·grind
  ·have:=I.dM j e h;exact⟨this.lk.mono (by grind),this.fin,this.lU,this.un,this.ne,this.now⟩
 ·rcases jL he with⟨rfl,h⟩ |⟨_,h⟩
  ·cases h;exact I.hold _ c hc q y w g2 g3 λh6=>by omega
  ·exact I.hold j e h q y w g2 g3 g4
 ·rcases jL he with⟨rfl,h⟩ |⟨_,h⟩
  ·cases h;rcases hw with h |h<;>cases h
  ·exact I.ru j e h hw
 ·rcases jL he with⟨rfl,h⟩ |⟨_,h⟩
  ·grind
  ·exact I.tL j e h h4
 ·rcases jL he with⟨rfl,h⟩ |⟨hj,h⟩<;>rcases jL hf with⟨rfl,h'⟩ |⟨hk,h'⟩
  ·rfl
  ·grind
  ·grind
  ·exact I.eO j q e f h h' a1 a2 b1 b2 iL
 ·have g2:s≤c.now+1:=g2;by_cases hs:s=c.now+1
  ·grind[Touch]
  ·obtain⟨i',c',bE,dR,eh,fU⟩:=I.dX j s j0 j1 g1 omQ ht;have:i'≠i:=λe=>by
    grind
   exact⟨i',c',(ge this).trans bE,dR,eh,fU⟩
 ·have e:hv E.G w0 (c.now+1-S.start).toNat p=hv E.G w0 (E.M.n-S.start).toNat p :=
   I4 omQ λq h1 h2=>by
    rw[I.tM q h1];rfl
  rcases I.mem p p0 p1 with h |⟨i',c',bE,h5,hr⟩
  ·grind
  ·have:i'≠i:=λe=>by
    grind
   exact .inr ⟨i',c',(ge this).trans bE,h5,hr⟩
 ·rcases jL he with⟨rfl,h⟩ |⟨_,h⟩
  all_goals grind
def UD (G:gS) (k:Nat) (cs:List Cl):gS:=λj=>if j=k then cs else G j
theorem xG.aP (I:xG S w0 E) (hc:E.C i=some c) (h4:c.state=4) (hd:Gi S E.M.n d i) (e5:d.state=5) (ea:d.at_=0) (es:d.s=c.s) (ew:d.ax=c.ax) (ec:d.cells=c.cells) (en:d.now=c.now) :
  xG S w0 ⟨E.M,UD E.G (c.now+1-S.start).toNat c.cells,cR E.C i (some d)⟩∧yd S E ⟨E.M,UD E.G (c.now+1-S.start).toNat c.cells,cR E.C i (some d)⟩:=by
 have CI:=I.dM i c hc;have bZ:=I.st;have fD:∀c',E.C i=some c'→¬bU c':=λc' bE=>by
  grind[bU]
 have mw:=(CI.now omQ omQ).1;have nL:=CI.lk.s4 omQ omQ;have gp:=I.tL i c hc h4;have idx:∀j e,E.C j=some e→j≠i→4≤e.state→e.state≤6→(e.now+1-S.start).toNat≠(c.now+1-S.start).toNat:=λj e he hj a b h=>by
  have:=((I.dM j e he).now omQ b).1;exact hj (I.eO j i e c he hc a b omQ omQ omQ)
 have pg:∀k,k≠(c.now+1-S.start).toNat→UD E.G (c.now+1-S.start).toNat c.cells k=E.G k:=λk h=>iQ h;have pk:UD E.G (c.now+1-S.start).toNat c.cells (c.now+1-S.start).toNat=c.cells:=iJ rfl;refine⟨⟨I.st,I.ml,λj e he=>?_,λj e he q y w g2 g3 g4=>?_,λj e he hw=>?_,λj e he sU=>?_,λj q e f he hf a1 a2 b1 b2 iL=>?_,λk hk=>?_,?_,λj s j0 j1 g1 g2 ht=>?_,λp p0 p1=>?_⟩,⟨Int.le_refl _,λk=>?_,λj e he sU=>?_,λ_ _ _=>Int.le_refl _,λj _ _ h=>.inl (h.keep fD),λk j _ _ hk ht=>?_⟩⟩
 ·rcases jL he with⟨rfl,h⟩ |⟨_,h⟩
  ·grind
  ·exact I.dM j e h
 ·rcases jL he with⟨rfl,h⟩ |⟨_,h⟩
  ·cases h;exact I.hold _ c hc q y w (by grind) (by grind) λh6=>by omega
  ·exact I.hold j e h q y w g2 g3 g4
 ·rcases jL he with⟨rfl,h⟩ |⟨hj,h⟩
  ·grind
  ·show UD _ _ _ (e.now+1-S.start).toNat=_;rw[pg _ (idx j e h hj (by grind[bU]) (by grind[bU]))];exact I.ru j e h hw
 ·rcases jL he with⟨rfl,h⟩ |⟨hj,h⟩
  ·grind
  ·show UD _ _ _ (e.now+1-S.start).toNat=_;rw[pg _ (idx j e h hj omQ omQ)];exact I.tL j e h sU
 ·rcases jL he with⟨rfl,h⟩ |⟨hj,h⟩<;>rcases jL hf with⟨rfl,h'⟩ |⟨hk,h'⟩
  ·rfl
  ·grind
  ·grind
  ·exact I.eO j q e f h h' a1 a2 b1 b2 iL
 ·have hk:(E.M.n-S.start).toNat<k:=hk;show UD _ _ _ k=_;rw[pg k omQ];exact I.tM k hk
 ·show UD _ _ _ 0=_;rw[pg 0 omQ];exact I.g0
 ·have ht:Touch S (UD E.G (c.now+1-S.start).toNat c.cells (s-S.start).toNat) j:=ht;by_cases hs:(s-S.start).toNat=(c.now+1-S.start).toNat
  ·rw[hs,pk]at ht;obtain⟨q,ui,uj⟩:=ht;refine⟨i,d,Jo,.inl e5,by grind,hd.holds omQ omQ ?_⟩;rw[es,← uj];exact CI.lU q ui
  ·rw[pg _ hs]at ht;obtain⟨i',c',bE,dR,eh,fU⟩:=I.dX j s j0 j1 g1 g2 ht;have:i'≠i:=λe=>by
    grind
   exact⟨i',c',(ge this).trans bE,dR,eh,fU⟩
 ·by_cases hp:∃q∈c.cells,q.1=p
  ·obtain⟨q,hq,hqp⟩:=hp;obtain⟨k,hk,e⟩:=List.mem_iff_getElem.1 hq;exact .inr ⟨i,d,Jo,e5,k,q,by grind,by grind,hqp⟩
  ·have bW:jO p c.cells=none:=Xp.2 λq hq e=>hp ⟨q,hq,e⟩;have e:hv (UD E.G (c.now+1-S.start).toNat c.cells) w0 (E.M.n-S.start).toNat p=hv E.G w0 (E.M.n-S.start).toNat p :=
    Sw _ λk _=>by
     by_cases hk:k=(c.now+1-S.start).toNat
     ·subst hk;rw[pk,gp,bW];rfl
     grind
   rcases I.mem p p0 p1 with h |⟨i',c',bE,h5,hr⟩
   ·grind
   ·have:i'≠i:=λe=>by
     grind
    exact .inr ⟨i',c',(ge this).trans bE,h5,hr⟩
 ·grind
 ·rcases jL he with⟨rfl,h⟩ |⟨_,h⟩
  all_goals grind
 ·have ht:Touch S (UD E.G (c.now+1-S.start).toNat c.cells k) j:=ht;by_cases sV:k=(c.now+1-S.start).toNat
  ·subst sV;rw[pk]at ht;obtain⟨q,ui,uj⟩:=ht;exact .inr (.inl ⟨i,d,Jo,.inl e5,hd.holds omQ omQ (by rw[es,← uj];exact CI.lU q ui)⟩)
  grind
end
end Go.Proofs.YtolpbdncppeohaaGreatDoor
