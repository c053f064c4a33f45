/- Lemmas for 'quietus/quietuslaw26.AttemptPlays': Programs that are drawn: parts shut;all of it;A programs run on a whole heap, as the laws of 21 do it;two that are alike;An attempt: by the program: its ... No condition. -/
import Derived.Test.YtpbpkcdebchbbaaGreatDoorAttemptPlaysM4
import Derived.Test.YtpbpkcdebchbbaaGreatDoorAttemptPlaysM3
import Derived.Test.YtpbpkcdebchbbaaGreatDoorAttemptPlaysM2
namespace Go.Proofs.YtpbpkcdebchbbaaGreatDoor
open Go Go.Ae
set_option maxRecDepth 100000
section
variable {g h:AH} {L R:List SP}
theorem qJ2 (l:List Int):jV (l.map (AV.int .i64))=true:=by unfold jV;rw[List.all_eq_true];intro y hy;obtain⟨z,_,rfl⟩:=List.mem_map.1 hy;rfl
theorem kX (l:List qe) (st:List Int):(zY l st).length=st.length:=by simp[zY]
theorem Se {l:List qe} {st:List Int} (hn:st≠[]):(zY l st)[st.length-1]? =some (cg l st):=by have hl:=List.length_pos_iff.2 hn;rw[qJB hn,List.getLast?_eq_getElem?,kX,iW (by grind[kX])];rfl
theorem V2 {l:List qe} {st:List Int}:(JE l st).length=l.length+1:=by simp[JE]
theorem O4 {n:Nat} (hn:1≤n) {calm:Bool} {l:List qe} {st:List Int} {lv ov:AV} (B:cV calm l st) (bG:st≠[]) (ho:cg l st=14∨cg l st=17∨cg l st=18) (hl:l.length≤1000)
  (H:HS g h (xf lv l::Yr ov (zY l st)::R)) :
  af n 37 [lv,ov] h λr h'=>∃fj pI,r=.bm [fj,pI]∧HS g h' (xf fj (JE l st)::Yr pI (zY (JE l st) (YB l st))::R):=by
 refine aG rfl omQ λk hk=>?_;unfold S37;try simp only[iZ]
 have hp:=List.length_pos_iff.2 bG;have h5:=B.oM;have ea:=kX l st;have da:=Se (l:=l) bG;obtain⟨B2,rG⟩:=B.shut bG ho;rw[rG];have H0:HS g h (qF 77 5 l.length lv (l.flatMap jG)::qF 3 1 (zY l st).length ov ((zY l st).map (.int .i64))::R):=H;refine qd H0 e_1 ?_;rw[ea];refine jK omQ ?_;rw[show(st.length:Int)-((1:Nat):Int)=((st.length-1:Nat):Int) by omega];refine jN (H0.sl e_1) (by rw[List.getElem?_map,da];rfl) ?_;have hdl:(zY l st).dropLast=(zY l st).take (st.length-1):=by rw[List.dropLast_eq_take,ea]
 have tail:∀(op:Int),(cg l st=14∧op=15∨cg l st=18∧op=19)→
   wp (zg (λs5 h6=>some ((.bm [s5.2.1,s5.1]),h6)) λj7=>jf [(.int .i64 ((0:Nat):Int)),(.int .i64 ((0:Nat):Int)),(.int .i64 ((0:Nat):Int)),(.int .i64 ((0:Nat):Int)),(.int .u64 ((0:Nat):Int))] [(0,1,(.int .i64 op))] λv8=>
    zR h 77 [(.int .i64 ((0:Nat):Int)),(.int .i64 ((0:Nat):Int)),(.int .i64 ((0:Nat):Int)),(.int .i64 ((0:Nat):Int)),(.int .u64 ((0:Nat):Int))] 1 [(0,5,v8)] λv9 dK=>
    z6 dK 77 5 lv v9 λv11 eY=>yX eY 3 1 ov none (some (.int .i64 ((st.length-1:Nat):Int))) λfm=>
    ve ov (some (3*65536+1)) fm dK eY h.nx<| j7 (fm,v11,()) eY)
   λr h'=>∃fj pI,r=.bm [fj,pI]∧HS g h' (xf fj (JE l st)::Yr pI ((zY l st).dropLast++(if cg l st=17 then[18]else[]))::R):=by
  intro op fL;refine qG ?_
  try dsimp only
  refine qy rfl<|qr (l:=jG (one op)) (sz:=5) H0 rfl rfl rfl rfl λv9 dK cC=>?_;have S:Sl (λ_=>True) dK 5 [one op].length v9 ([one op].flatMap jG):=cC.sl .here;refine QK (cC.ah (P:=xf lv l) e_1) S (by grind) λv11 eY dU=>?_;refine gM (hi:=st.length-1) (dU.ah (P:=qF 3 1 (zY l st).length ov ((zY l st).map (.int .i64))) e_2) omQ omQ λfm tU=>?_;refine Zr cC (s:=e_2) dU e_2 H0 e_1 omQ omQ rfl ?_;rw[Nat.mul_one,← List.map_take,← hdl]at tU;have lV:¬cg l st=17:=by omega
  rw[iQ lV,List.append_nil];refine qY ⟨v11,fm,rfl,?_⟩;have e:JE l st=l++[one op]:=by
   grind[JE,gB]
  rw[e];unfold Yr;rw[show(zY l st).dropLast.length=st.length-1 by grind];exact tU.pk [1,0] 1
 by_cases rH:cg l st=14
 ·refine qj rH (qX ?_);exact tail 15 (.inl ⟨rH,rfl⟩)
 refine qV rH (qJ ?_);by_cases La:cg l st=17
 ·refine qj La (qX ?_);refine gM (hi:=st.length-1) (H0.ah e_1) omQ omQ λfG H2=>?_;rw[Nat.mul_one,← List.map_take,← hdl]at H2;have I9:(zY l st).dropLast.length=st.length-1:=by grind
  have S:Sl (λ_=>True) h 1 (st.length-1) fG ((zY l st).dropLast.map (.int .i64)):=H2.sl .here;refine jh (H2.ad) S omQ omQ (qJ2 _) λiF h3 H3=>?_;rw[List.nil_append,Nat.zero_add]at H3;refine qr H3 rfl rfl rfl rfl λfi h4 H4=>?_;refine jh (H4.ah e_1) (H4.sl .here) omQ omQ rfl λv20 h5 H5=>?_;refine qy rfl<|qr H5 rfl rfl rfl rfl λmM h6 H6=>?_;have S6:Sl (λ_=>True) h6 5 [one 18].length mM ([one 18].flatMap jG):=H6.sl .here;refine QK (H6.ah e_4) S6 (by grind) λlK h7 H7=>?_;rw[iJ La];refine qY ⟨lK,v20,rfl,?_⟩;have e:JE l st=l++[one 18]:=by grind[JE,gB]
  rw[e];unfold Yr;rw[List.length_append,I9,List.map_append];exact H7.pk [0,1] 3
 ·refine qV La (qJ ?_);exact tail 19 (.inr ⟨by omega,rfl⟩)
def Jt (o:List Int):Nat:=(o.map λx=>if x=17 then 2 else 1).sum
theorem ZI (a b:List Int):Jt (a++b)=Jt a+Jt b:=by simp[Jt]
theorem qv3 (o:List Int):Jt o≤2*o.length:=by
 induction o with
 |nil=>simp[Jt]
 |cons x o ih=>simp only[Jt,List.map_cons,List.sum_cons,List.length_cons]at*;grind
theorem qGp {l:List qe} {st:List Int} (bG:st≠[]):Jt ((zY l st).dropLast++(if cg l st=17 then[18]else[]))+1=Jt (zY l st):=by
 have h1:zY l st≠[]:=by intro h;have:=congrArg List.length h;simp_all[kX,iA]
 have h2:=List.dropLast_concat_getLast h1;have h3:(zY l st).getLast h1=cg l st:=by grind[qJB,List.getLast?_eq_some_getLast]
 grind[Jt,zY,cg,ZI]
def oN (l:List qe) (st:List Int):Prop:=∀o∈zY l st,o=14∨o=17∨o=18
theorem oN.at {l:List qe} {st:List Int} (h:oN l st) (bG:st≠[]):cg l st=14∨cg l st=17∨cg l st=18:=h _ (List.mem_of_getElem? (Se bG))
set_option maxHeartbeats 8000000 in
theorem qqs {n:Nat} (hn:5≤n) {calm:Bool} {ks:List qe} {kv:AV} {most:Int} (hN:∀x∈ks,0≤x.2.2.2.2∧x.2.2.2.2<18446744073709551616) (hm:1≤most∧most≤40) (H:HS g h R) (S:Rd g R 5 ks.length kv (ks.flatMap jG)) :
  af n 7 [kv,.int .i64 most,.bool calm] h λr h'=>∃lv l,r=.agg [lv]∧cV calm l []∧0<l.length∧(l.length:Int)≤most∧HS g h' (xf lv l::R):=by
 refine b8 (S:=S7) rfl omQ λk hk=>?_;unfold S7;try simp only[iZ]
 refine qH H rfl λb0 h1 H1=>?_;clear H;have H1:=(H1.ad (e:=3) (sz:=1)).ad (e:=77) (sz:=5);refine jq [] (λs h'=>∃(l:List qe) (st:List Int) (lv ov:AV),s=(ov,lv,.ptr b0 0,())∧cV calm l st∧oN l st∧(l.length:Int)+2*st.length≤most∧HS g h' (xf lv l::Yr ov (zY l st)::qx b0 [.ad]::R)) ?_ ?_
 rotate_left
 ·rintro s h2 ⟨l,st,lv,ov,rfl,B,OK,hle,H2⟩;have hW:(l.length:Int)+Jt (zY l st)≤most:=by
   have:=qv3 (zY l st);rw[kX]at this;omega
  refine jF (λm s h'=>∃(l:List qe) (st:List Int) (lv ov:AV),s=(ov,lv,.ptr b0 0,())∧m=Jt (zY l st)∧cV calm l st∧oN l st∧(l.length:Int)+Jt (zY l st)≤most∧HS g h' (xf lv l::Yr ov (zY l st)::qx b0 [.ad]::R))
   ?_ (m:=Jt (zY l st)) omQ ⟨l,st,lv,ov,rfl,rfl,B,OK,hW,H2⟩
  clear H2 hW hle OK B st lv ov l;rintro m ih s h3 aY ⟨l,st,lv,ov,rfl,rfl,B,OK,hW,H⟩;have ea:=kX l st;refine qd (n:=(zY l st).length) (H:HS g h3 (xf lv l::qF 3 1 (zY l st).length ov ((zY l st).map (.int .i64))::qx b0 [.ad]::R)) e_1 ?_;rw[ea];by_cases h0:st=[]
  ·subst h0;refine zV aA (qJ ?_);refine jq [] (λs h'=>∃(l:List qe) (lv:AV),s=(lv,.ptr b0 0,())∧cV calm l []∧0<l.length∧(l.length:Int)≤most∧HS g h' (xf lv l::qx b0 [.ad]::R)) ?_ ?_
   ·intro j hj;refine qd (n:=l.length) (H:HS g h3 (qF 77 5 l.length lv (l.flatMap jG)::Yr ov (zY l [])::qx b0 [.ad]::R)) .here ?_;by_cases iD:l.length=0
    ·refine qj omQ (qX ?_);obtain rfl:=iA iD;refine qy (l:=jG (1,0,0,0,1)) rfl<|qr (n:=1) (l:=jG (1,0,0,0,1)) (sz:=5) H rfl rfl rfl rfl λnE h4 H4=>?_;have S1:Sl (λ_=>True) h4 5 [((1,0,0,0,1):qe)].length nE ([((1,0,0,0,1):qe)].flatMap jG):=H4.sl .here;refine QK (H4.ah (P:=xf lv []) e_1) S1 aA λrV h5 H5=>?_;refine hj _ _ ⟨_,rV,rfl,B.flat (x:=(1,0,0,0,1)) ⟨by decide,by decide,by decide,λ_=>by decide⟩ (by unfold Flat;decide) od,by simp,by simp;omega,H5.sub (.cons .here (.drop (.drop (.cons .here .refl))))⟩
    ·refine qV omQ (qJ ?_);exact hj _ _ ⟨l,lv,rfl,B,by omega,by omega,H.sub (.cons .here (.drop (.cons .here .refl)))⟩
   ·rintro s h5 ⟨l,lv,rfl,B,iD,hlm,H5⟩;have ol:=H5.one (e:=77) (sz:=5) (n:=l.length) .here;refine qy (l:=[lv]) (by simp only[vG,ol.1];rfl)<|qh H5 (b:=b0) e_1 rfl aA (by show jV [lv]=true;simp[jV,ol.2]) λh6 H6=>?_;have H6:HS g h6 (qx b0 [lv]::xf lv l::R):=H6;refine qg (qD H6 (b:=b0) (off:=0) .here rfl omQ (l:=[lv]) rfl ?_);exact qY ⟨lv,l,rfl,B,iD,hlm,H6.drop⟩
  ·have hp:=List.length_pos_iff.2 h0;refine zv omQ (qX ?_);refine qW (O4 omQ B h0 (OK.at h0) omQ H) ?_;rintro _ h4 ⟨fj,pI,rfl,H4⟩;obtain⟨B2,rG⟩:=B.shut h0 (OK.at h0);have hw:=qGp (l:=l) h0;rw[← rG]at hw;refine qA rfl (qA rfl ?_);refine aY (Jt (zY (JE l st) (YB l st))) _ _ omQ ⟨_,_,fj,pI,rfl,rfl,B2,?_,by rw[V2];omega,H4⟩;intro o ho;rw[rG]at ho;rcases List.mem_append.1 ho with ho |ho
   ·exact OK o ((List.dropLast_sublist _).subset ho)
   ·split at ho
    ·rw[List.mem_singleton]at ho;omega
    ·cases ho
 intro j5 hj5;refine jF (λm s h'=>∃(i:Nat) (l:List qe) (st:List Int) (lv ov:AV),s=(.int .i64 (i:Int),ov,lv,.ptr b0 0,.bool calm,.int .i64 most,kv,())∧m=41-l.length∧i≤l.length∧cV calm l st∧oN l st∧(l.length:Int)+2*st.length≤most∧HS g h' (xf lv l::Yr ov (zY l st)::qx b0 [.ad]::R))
  ?_ (m:=41) (by show _<1000000000;omega) ⟨0,[],[],.ad,.ad,rfl,rfl,by simp,cV.nil calm,(λo ho=>by cases ho),by simp;omega,H1⟩
 clear H1;rintro m ih s h2 aY ⟨i,l,st,lv,ov,rfl,rfl,p0,B,OK,hle,H⟩;refine zH (S.sl H.drop.drop.drop)<|zK (λae=>qX ?_) λeL=>qJ (hj5 _ _ ⟨l,st,lv,ov,rfl,B,OK,hle,H⟩);have ae:i<ks.length:=by omega
 refine zj (l:=jG ks[i]) (S.sl H.drop.drop.drop) ae omQ (gO (sz:=5) (λ_=>rfl) (iW ae)) ?_;have Sf:=hN ks[i] (List.getElem_mem ae);generalize ks[i]=kx at*;refine qH H rfl λb3 h3 H3=>qh H3 .here rfl (by show 0+5≤5;omega) rfl λh5 H5=>?_;have H5:HS g h5 (qx b3 (jG kx)::xf lv l::Yr ov (zY l st)::qx b0 [.ad]::R):=H5;have H6:HS g h5 (qx b3 (jG kx)::qF 77 5 l.length lv (l.flatMap jG)::qF 3 1 (zY l st).length ov ((zY l st).map (.int .i64))::qx b0 [.ad]::R):=H5;clear H H3;have ea:=kX l st;refine qd H6 e_2 ?_;rw[ea];refine qd H6 e_1<|N0 omQ (qS omQ (qS omQ ?_));refine yz (λhg=>qX (hj5 _ _ ⟨l,st,lv,ov,rfl,B,OK,hle,H5.drop⟩)) λhg=>qJ<|qQ (qZ H5 (b:=b3) .here rfl ?_);refine qW (zr omQ omQ omQ omQ) ?_;rintro _ h5 ⟨rfl,rfl⟩;have hwb:=zm kx.1 (show(((0:Nat):Int))≤((40:Nat):Int) by omega);generalize jt kx.1 ((0:Nat):Int) ((40:Nat):Int)=w at*;refine jq [] (λs h'=>∃(l':List qe) (st':List Int) (fj pI:AV),s=(.int .i64 (i:Int),pI,fj,.ptr b0 0,.bool calm,.int .i64 most,kv,())∧cV calm l' st'∧oN l' st'∧(l'.length:Int)+2*st'.length≤most∧l.length<l'.length∧HS g h' (xf fj l'::Yr pI (zY l' st')::qx b0 [.ad]::R)) ?_ ?_
 rotate_left
 ·rintro s h7 ⟨l',st',fj,pI,rfl,B',OK',uh,uq,H7⟩;dsimp only;refine qS omQ<|aY (41-l'.length) _ _ omQ ⟨i+1,l',st',fj,pI,rfl,rfl,by omega,B',OK',uh,H7⟩
 intro j hj;have hfive:=B.oM;have r9:l.length≤100:=by omega
 have same:∀{t:List qe},oN (l++t) st:=λ{t} o ho=>OK o (by rw[Yq B.tz]at ho;exact ho);have fK:∀{t:List qe},zY (l++t) st=zY l st:=Yq B.tz
 have ej:wp (q8 h5 (.ptr b3 0) 5 λv218=>jC (callT tab qv k) (.fn 39 [] []) [v218] h5 λSg Sh=>zR Sh 77 [(.int .i64 ((0:Nat):Int)),(.int .i64 ((0:Nat):Int)),(.int .i64 ((0:Nat):Int)),(.int .i64 ((0:Nat):Int)),(.int .u64 ((0:Nat):Int))] 1 [(0,5,Sg)] λSi Sj=>
   z6 Sj 77 5 lv Si λSk Sm=>j (.int .i64 (i:Int),ov,Sk,.ptr b0 0,.bool calm,.int .i64 most,kv,()) Sm []) (λr h'=>∃lv l,r=.agg [lv]∧cV calm l []∧0<l.length∧(l.length:Int)≤most∧HS g h' (xf lv l::R)):=by
  refine qD H5 (b:=b3) (off:=0) .here rfl omQ (l:=jG kx) rfl<|qW (YO omQ Sf H5) ?_;rintro _ h7 ⟨x,rfl,hx,H7⟩;refine qr (n:=1) (l:=jG x) (sz:=5) H7 rfl rfl rfl rfl λv8 h8 H8=>?_;have S1:Sl (λ_=>True) h8 5 [x].length v8 ([x].flatMap jG):=by simpa using H8.sl .here
  refine QK (H8.ah (P:=xf lv l) e_2) S1 (by simp;omega) λv9 h9 H9=>?_;refine hj _ _ ⟨l++[x],st,v9,ov,rfl,B.flat (hx.ok calm) hx.flat hx.nj,same,by simp;omega,by simp,?_⟩;rw[fK];exact H9.sub (.cons .here (.drop (.drop (.cons .here (.cons .here .refl)))))
 have Sn:∀op:Int,op=14∨op=17→st.length<5→wp (zR h5 77 [(.int .i64 ((0:Nat):Int)),(.int .i64 ((0:Nat):Int)),(.int .i64 ((0:Nat):Int)),(.int .i64 ((0:Nat):Int)),(.int .u64 ((0:Nat):Int))] 1 [(0,5,.agg (jG (one op)))] λnS Ci=>z6 Ci 77 5 lv nS λpA h66=>
   zR h66 3 [(.int .i64 ((0:Nat):Int))] 1 [(0,1,(.int .i64 op))] λsY FC=>z6 FC 3 1 ov sY λoy Dw=>j (.int .i64 (i:Int),oy,pA,.ptr b0 0,.bool calm,.int .i64 most,kv,()) Dw []) (λr h'=>∃lv l,r=.agg [lv]∧cV calm l []∧0<l.length∧(l.length:Int)≤most∧HS g h' (xf lv l::R)):=by
  intro op fL hs5;refine qr (n:=1) (l:=jG (one op)) (sz:=5) H5 rfl rfl rfl rfl λv8 h8 H8=>?_;have S1:Sl (λ_=>True) h8 5 [one op].length v8 ([one op].flatMap jG):=by simpa using H8.sl .here
  refine QK (H8.ah (P:=xf lv l) e_2) S1 (by simp;omega) λv9 h9 H9=>?_;refine qr (n:=1) (l:=[.int .i64 op]) (sz:=1) H9 rfl rfl rfl rfl λv10 dK cC=>?_;refine jh (cC.ah (P:=qF 3 1 (zY l st).length ov ((zY l st).map (.int .i64))) e_4) (cC.sl .here) omQ omQ rfl λv11 bY dv=>?_;obtain⟨B2,ho2⟩:=B.begin fL hs5;refine hj _ _ ⟨l++[one op],st++[(l.length:Int)],v9,v11,rfl,B2,?_,by simp;omega,by simp,?_⟩
  ·intro o ho;rw[ho2]at ho;rcases List.mem_append.1 ho with ho |ho
   ·exact OK o ho
   ·rw[List.mem_singleton]at ho;omega
  ·rw[ho2];unfold Yr;rw[List.length_append,List.map_append];exact dv.sub (.cons e_2 (.cons .here (.drop (.drop (.drop (.cons .here .refl))))))
 have shu:0<st.length→wp (jC (callT tab qv k) (.fn 37 [] []) [lv,ov] h5 λAQ h99=>zX AQ 0 λBZ=>zX AQ 1 λlA=>j (.int .i64 (i:Int),lA,BZ,.ptr b0 0,.bool calm,.int .i64 most,kv,()) h99 []) (λr h'=>∃lv l,r=.agg [lv]∧cV calm l []∧0<l.length∧(l.length:Int)≤most∧HS g h' (xf lv l::R)):=by
  intro hp;have bG:=List.length_pos_iff.1 hp;refine qW (O4 omQ B bG (OK.at bG) omQ (H5.sub (L':=xf lv l::Yr ov (zY l st)::qx b3 (jG kx)::qx b0 [.ad]::R) (.cons e_1 (.cons e_1 (.cons .here (.cons .here .refl)))))) ?_;rintro _ h7 ⟨fj,pI,rfl,H7⟩;obtain⟨B2,rG⟩:=B.shut bG (OK.at bG);have sx:(YB l st).length≤st.length:=by unfold YB;split<;>simp<;>omega
  refine qA rfl (qA rfl ?_);refine hj _ _ ⟨_,_,fj,pI,rfl,B2,?_,by rw[V2];omega,by rw[V2];omega,H7.sub (.cons .here (.cons .here (.drop (.cons .here .refl))))⟩;intro o ho;rw[rG]at ho;rcases List.mem_append.1 ho with ho |ho
  ·exact OK o ((List.dropLast_sublist _).subset ho)
  ·split at ho
   ·rw[List.mem_singleton]at ho;omega
   ·cases ho
 have und:cg l st=14→wp (zR h5 77 [(.int .i64 ((0:Nat):Int)),(.int .i64 ((0:Nat):Int)),(.int .i64 ((0:Nat):Int)),(.int .i64 ((0:Nat):Int)),(.int .u64 ((0:Nat):Int))] 1 [(0,5,.agg (jG (one 16)))] λv8 h8=>z6 h8 77 5 lv v8 λv9 h9=>j (.int .i64 (i:Int),ov,v9,.ptr b0 0,.bool calm,.int .i64 most,kv,()) h9 []) (λr h'=>∃lv l,r=.agg [lv]∧cV calm l []∧0<l.length∧(l.length:Int)≤most∧HS g h' (xf lv l::R)):=by
  intro im;refine qr (n:=1) (l:=jG (one 16)) (sz:=5) H5 rfl rfl rfl rfl λv8 h8 H8=>?_;have S1:Sl (λ_=>True) h8 5 [one 16].length v8 ([one 16].flatMap jG):=by simpa using H8.sl .here
  refine QK (H8.ah (P:=xf lv l) e_2) S1 (by simp;omega) λv9 h9 H9=>?_;refine hj _ _ ⟨l++[one 16],st,v9,ov,rfl,B.R9 im,same,by simp;omega,by simp,?_⟩;rw[fK];exact H9.sub (.cons .here (.drop (.drop (.cons .here (.cons .here .refl)))))
 have pair:∀(x y:qe) (h7:AH),HS g h7 (qx b3 (jG kx)::xf lv l::Yr ov (zY l st)::qx b0 [.ad]::R)→cV calm (l++[x,y]) st→(l.length:Int)+2*st.length+5≤most→wp (zR h7 77 [(.int .i64 ((0:Nat):Int)),(.int .i64 ((0:Nat):Int)),(.int .i64 ((0:Nat):Int)),(.int .i64 ((0:Nat):Int)),(.int .u64 ((0:Nat):Int))] 2 [(0,5,.agg (jG x)),(5,5,.agg (jG y))] λv8 h8=>
   z6 h8 77 5 lv v8 λv9 h9=>j (.int .i64 (i:Int),ov,v9,.ptr b0 0,.bool calm,.int .i64 most,kv,()) h9 []) (λr h'=>∃lv l,r=.agg [lv]∧cV calm l []∧0<l.length∧(l.length:Int)≤most∧HS g h' (xf lv l::R)):=by
  intro x y h7 H7 B7 hm7;refine qr (n:=2) (l:=jG x++jG y) (sz:=5) H7 rfl rfl rfl rfl λv8 h8 H8=>?_;have S1:Sl (λ_=>True) h8 5 [x,y].length v8 ([x,y].flatMap jG):=by simpa using H8.sl .here
  refine QK (H8.ah (P:=xf lv l) e_2) S1 (by simp;omega) λv9 h9 H9=>?_;refine hj _ _ ⟨l++[x,y],st,v9,ov,rfl,B7,same,by simp;omega,by simp,?_⟩;rw[fK];exact H9.sub (.cons .here (.drop (.drop (.cons .here (.cons .here .refl)))))
 have zer:∀r:Int,0≤r∧r≤6→Gd calm (13,r,0,((l.length:Int)+((2:Nat):Int)),0):=λr hr=>⟨qY4 omQ omQ,by show(13:Int)≠23;decide,by show(0:Int)≤0∧(0:Int)<18446744073709551616;decide,λ_=>by show(13:Int)≠20∧(13:Int)≠22∧(13:Int)≠12;decide⟩
 have two:∀op:Int,op=20∨op=22→calm=false→wp (jC (callT tab qv k) (.fn 38 [] []) [.int .i64 kx.2.1] h5 λv131 ry=>xi lv λSp=>jY .add Sp (.int .i64 ((2:Nat):Int)) λCb=>
   jf [(.int .i64 ((0:Nat):Int)),(.int .i64 ((0:Nat):Int)),(.int .i64 ((0:Nat):Int)),(.int .i64 ((0:Nat):Int)),(.int .u64 ((0:Nat):Int))] [(0,1,(.int .i64 ((13:Nat):Int))),(1,1,v131),(3,1,Cb)] λSq=>jf [(.int .i64 ((0:Nat):Int)),(.int .i64 ((0:Nat):Int)),(.int .i64 ((0:Nat):Int)),(.int .i64 ((0:Nat):Int)),(.int .u64 ((0:Nat):Int))] [(0,1,(.int .i64 op))] λCc=>
   zR ry 77 [(.int .i64 ((0:Nat):Int)),(.int .i64 ((0:Nat):Int)),(.int .i64 ((0:Nat):Int)),(.int .i64 ((0:Nat):Int)),(.int .u64 ((0:Nat):Int))] 2 [(0,5,Sq),(5,5,Cc)] λv8 h8=>z6 h8 77 5 lv v8 λv9 h9=>j (.int .i64 (i:Int),ov,v9,.ptr b0 0,.bool calm,.int .i64 most,kv,()) h9 []) (λr h'=>∃lv l,r=.agg [lv]∧cV calm l []∧0<l.length∧(l.length:Int)≤most∧HS g h' (xf lv l::R)):=by
  intro op fL fA;refine qW (YX omQ) ?_;rintro _ h5 ⟨rfl,rfl⟩;have hr:=zm kx.2.1 (show(0:Int)≤6 by omega);refine qd (n:=l.length) H6 e_1 (qS omQ ?_);refine qy (l:=jG (13,jt kx.2.1 0 6,0,((l.length:Int)+((2:Nat):Int)),0)) rfl<|qy (l:=jG (one op)) rfl<|pair _ _ _ H5 (B.two (zer _ hr) ⟨by rcases fL with rfl |rfl<;>decide,by dsimp only;omega,by show(0:Int)≤0∧(0:Int)<18446744073709551616;decide,λhh=>by rw[fA]at hh;cases hh⟩ (by show Flat 13;unfold Flat;decide) (by unfold Flat;dsimp only;omega) (λ_=>rfl) (λhh=>by dsimp only at hh;omega)) omQ
 have ovr:wp (zg (α:=AV×AV×AV×AV×AV×AV×AV×Unit→AH→Go.Ae.R) (λfk CL=>j (fk.1,fk.2.1,fk.2.2.1,fk.2.2.2.1,fk.2.2.2.2.1,fk.2.2.2.2.2.1,fk.2.2.2.2.2.2.1,()) CL []) λCM=>
   jC (callT tab qv k) (.fn 38 [] []) [.int .i64 kx.2.2.1] h5 λCe mB=>xi lv λuI=>jY .add uI (.int .i64 ((2:Nat):Int)) λuJ=>
   jf [(.int .i64 ((0:Nat):Int)),(.int .i64 ((0:Nat):Int)),(.int .i64 ((0:Nat):Int)),(.int .i64 ((0:Nat):Int)),(.int .u64 ((0:Nat):Int))] [(0,1,(.int .i64 ((13:Nat):Int))),(1,1,Ce),(3,1,uJ)] λCf=>q8 mB (.ptr b3 0) 5 λHs=>jC (callT tab qv k) (.fn 39 [] []) [Hs] mB λCg Sr=>
   zR Sr 77 [(.int .i64 ((0:Nat):Int)),(.int .i64 ((0:Nat):Int)),(.int .i64 ((0:Nat):Int)),(.int .i64 ((0:Nat):Int)),(.int .u64 ((0:Nat):Int))] 2 [(0,5,Cf),(5,5,Cg)] λv193 Ss=>z6 Ss 77 5 lv v193 λSu Sv=>
   ve (.ptr b3 0) (some 5) Hs h5 mB h5.nx<| CM (.int .i64 (i:Int),ov,Su,.ptr b0 0,.bool calm,.int .i64 most,kv,()) Sv) (λr h'=>∃lv l,r=.agg [lv]∧cV calm l []∧0<l.length∧(l.length:Int)≤most∧HS g h' (xf lv l::R)):=by
  refine qG ?_
  try dsimp only
  refine qW (YX omQ) ?_;rintro _ h5 ⟨rfl,rfl⟩;have hr:=zm kx.2.2.1 (show(0:Int)≤6 by omega);refine qd (n:=l.length) H6 e_1 (qS omQ ?_);refine qy (l:=jG (13,jt kx.2.2.1 0 6,0,((l.length:Int)+((2:Nat):Int)),0)) rfl<|qD H5 (b:=b3) (off:=0) .here rfl omQ (l:=jG kx) rfl<|qW (YO omQ Sf H5) ?_;rintro _ h7 ⟨x,rfl,hx,H7⟩;refine qr (n:=2) (l:=jG (13,jt kx.2.2.1 0 6,0,((l.length:Int)+((2:Nat):Int)),0)++jG x) (sz:=5) H7 rfl rfl rfl rfl λv8 h8 H8=>?_;have S1:Sl (λ_=>True) h8 5 [((13,jt kx.2.2.1 0 6,0,((l.length:Int)+((2:Nat):Int)),0):qe),x].length v8 ([((13,jt kx.2.2.1 0 6,0,((l.length:Int)+((2:Nat):Int)),0):qe),x].flatMap jG):=by simpa using H8.sl .here
  refine QK (H8.ah (P:=xf lv l) e_2) S1 (by simp;omega) λv9 h9 H9=>?_;refine zO H5 (b:=b3) .here rfl H5 .here rfl rfl omQ (HS.lt H5 .here)<|hj _ _ ⟨_,st,v9,ov,rfl,B.two (zer _ hr) (hx.ok calm) (by show Flat 13;unfold Flat;decide) hx.flat (λ_=>rfl) (λhh=>by have:=hx.nj;omega),same,by simp;omega,by simp,?_⟩;rw[fK];exact H9.sub (.cons .here (.drop (.drop (.cons .here (.cons .here .refl)))))
 have bak:calm=false→wp (zg (α:=AV×AV×AV×AV×AV×AV×AV×Unit→AH→Go.Ae.R) (λfk CL=>j (fk.1,fk.2.1,fk.2.2.1,fk.2.2.2.1,fk.2.2.2.2.1,fk.2.2.2.2.2.1,fk.2.2.2.2.2.2.1,()) CL []) λCM=>
   q8 h5 (.ptr b3 0) 5 λSw=>jC (callT tab qv k) (.fn 39 [] []) [Sw] h5 λv206 CN=>qI (.ptr b3 0) 2 λv208=>ql CN v208 λHt=>
   jC (callT tab qv k) (.fn 38 [] []) [Ht] CN λv210 Sx=>xi lv λv212=>
   jf [(.int .i64 ((0:Nat):Int)),(.int .i64 ((0:Nat):Int)),(.int .i64 ((0:Nat):Int)),(.int .i64 ((0:Nat):Int)),(.int .u64 ((0:Nat):Int))] [(0,1,(.int .i64 ((13:Nat):Int))),(1,1,v210),(3,1,v212)] λSy=>
   zR Sx 77 [(.int .i64 ((0:Nat):Int)),(.int .i64 ((0:Nat):Int)),(.int .i64 ((0:Nat):Int)),(.int .i64 ((0:Nat):Int)),(.int .u64 ((0:Nat):Int))] 2 [(0,5,v206),(5,5,Sy)] λSz SA=>z6 SA 77 5 lv Sz λSC SD=>
   ve v208 none Ht h5 CN h5.nx<| CM (.int .i64 (i:Int),ov,SC,.ptr b0 0,.bool calm,.int .i64 most,kv,()) SD) (λr h'=>∃lv l,r=.agg [lv]∧cV calm l []∧0<l.length∧(l.length:Int)≤most∧HS g h' (xf lv l::R)):=by
  intro fA;refine qG ?_
  try dsimp only
  refine qD H5 (b:=b3) (off:=0) .here rfl omQ (l:=jG kx) rfl<|qW (YO omQ Sf H5) ?_;rintro _ h7 ⟨x,rfl,hx,H7⟩;refine qQ (qZ H7 (b:=b3) .here rfl ?_);refine qW (YX omQ) ?_;rintro _ h7 ⟨rfl,rfl⟩;have hr:=zm kx.2.2.1 (show(0:Int)≤6 by omega);have H7':HS g h7 (qx b3 (jG kx)::qF 77 5 l.length lv (l.flatMap jG)::Yr ov (zY l st)::qx b0 [.ad]::R):=H7;refine qd (n:=l.length) H7' e_1<|qy (l:=jG (13,jt kx.2.2.1 0 6,0,(l.length:Int),0)) rfl<|qr (n:=2) (l:=jG x++jG (13,jt kx.2.2.1 0 6,0,(l.length:Int),0)) (sz:=5) H7 rfl rfl rfl rfl λv8 h8 H8=>?_;have S1:Sl (λ_=>True) h8 5 [x,((13,jt kx.2.2.1 0 6,0,(l.length:Int),0):qe)].length v8 ([x,((13,jt kx.2.2.1 0 6,0,(l.length:Int),0):qe)].flatMap jG):=by simpa using H8.sl .here
  refine QK (H8.ah (P:=xf lv l) e_2) S1 (by simp;omega) λv9 h9 H9=>?_;refine qu H5 (b:=b3) .here rfl H7 .here rfl (HS.lt H5 .here)<|hj _ _ ⟨l++[x,(13,jt kx.2.2.1 0 6,0,(l.length:Int),0)],st,v9,ov,rfl,B.two (hx.ok calm) ⟨qY4 omQ omQ,by show(13:Int)≠23;decide,by show(0:Int)≤0∧(0:Int)<18446744073709551616;decide,λ_=>by show(13:Int)≠20∧(13:Int)≠22∧(13:Int)≠12;decide⟩ hx.flat (by show Flat 13;unfold Flat;decide) (λhh=>by have:=hx.nj;omega) (λ_=>⟨rfl,fA⟩),same,by simp;omega,by simp,?_⟩;rw[fK];exact H9.sub (.cons .here (.drop (.drop (.cons .here (.cons .here .refl)))))
 have hd:(w=20∧st.length<5)∨(w=20∧¬st.length<5)∨(w=21∧st.length<5)∨(w=21∧¬st.length<5)∨(w=22∧st.length<5)∨(w=22∧¬st.length<5)∨(w=23∧0<st.length)∨(w=23∧¬0<st.length)∨(w=24∧0<st.length)∨(w=24∧¬0<st.length)∨(w=25∧0<st.length)∨(w=25∧¬0<st.length)∨(w=26∧calm=true)∨(w=26∧calm=false∧0<st.length)∨(w=26∧calm=false∧¬0<st.length)∨(w=27∧calm=true)∨(w=27∧calm=false∧0<st.length)∨(w=27∧calm=false∧¬0<st.length)∨(w=28∧calm=true)∨(w=28∧calm=false)∨(w=29∧calm=true)∨(w=29∧calm=false)∨(w=30)∨(w=31)∨(w=32∧calm=true)∨(w=32∧calm=false)∨(w<20∨32<w):=by
  cases calm<;>simp only[reduceCtorEq,and_true,true_and,and_false,false_and,false_or]<;>omega
 rcases hd with⟨fO,nT⟩ |⟨fO,nT⟩ |⟨fO,nT⟩ |⟨fO,nT⟩ |⟨fO,nT⟩ |⟨fO,nT⟩ |⟨fO,nT⟩ |⟨fO,nT⟩ |⟨fO,nT⟩ |⟨fO,nT⟩ |⟨fO,nT⟩ |⟨fO,nT⟩ |⟨fO,rfl⟩ |⟨fO,rfl,nT⟩ |⟨fO,rfl,nT⟩ |⟨fO,rfl⟩ |⟨fO,rfl,nT⟩ |⟨fO,rfl,nT⟩ |⟨fO,rfl⟩ |⟨fO,rfl⟩ |⟨fO,rfl⟩ |⟨fO,rfl⟩ |fO |fO |⟨fO,rfl⟩ |⟨fO,rfl⟩ |fO
 all_goals repeat (first |with_reducible refine qV omQ ?_ |with_reducible refine qj omQ ?_ |(with_reducible refine qG ?_;try dsimp only) |(with_reducible refine qR ?_;try dsimp only) |(with_reducible refine qf ?_;try dsimp only) |(with_reducible refine qT ?_;try dsimp only) |(with_reducible refine qM ?_;try dsimp only) |with_reducible refine qC ?_ |with_reducible refine qB ?_ |with_reducible refine qX ?_ |with_reducible refine qJ ?_ |with_reducible refine jB omQ ?_ |with_reducible refine jk omQ ?_ |with_reducible refine zv omQ ?_ |with_reducible refine zV omQ ?_ |with_reducible refine jQ ?_ |with_reducible refine jg ?_ |with_reducible refine jK omQ ?_ |with_reducible refine qQ ?_ |(with_reducible refine jT ?_;try dsimp only) |with_reducible refine qZ H6 .here rfl ?_ |with_reducible refine qy rfl ?_)
 ·exact Sn 14 (.inl rfl) omQ
 ·exact ej
 ·exact Sn 17 (.inr rfl) omQ
 ·exact ej
 ·exact Sn 17 (.inr rfl) omQ
 ·exact ej
 ·exact shu omQ
 ·exact ej
 ·exact shu omQ
 ·exact ej
 ·rw[show(st.length:Int)-((1:Nat):Int)=((st.length-1:Nat):Int) by omega];refine jN (H6.sl e_2) (x:=.int .i64 (cg l st)) (by rw[List.getElem?_map,Se (List.length_pos_iff.1 nT)];rfl) ?_;by_cases im:cg l st=14
  ·refine qj im<|qC (qX (qy rfl ?_));exact und im
  ·refine qV im<|qC (qJ (qV omQ ?_));refine qG<|qM<|qV omQ<|qB (qG ?_);(try dsimp only);refine qT<|qB (qG ?_);(try dsimp only);refine qT<|qB (qJ (qV omQ ?_));refine qG<|qT<|qB (qJ (qV omQ ?_));refine qG<|qT<|qB (qJ (qV omQ ?_));refine qG<|qM<|qV omQ<|qB (qJ (qV omQ ?_));refine qG<|qT<|qB (qJ ?_)
   exact ej
 ·exact ej
 ·exact ej
 ·exact two 20 (.inl rfl) rfl
 ·exact ej
 ·exact ej
 ·exact two 20 (.inl rfl) rfl
 ·exact ej
 ·exact ej
 ·exact two 20 (.inl rfl) rfl
 ·exact ej
 ·exact two 22 (.inr rfl) rfl
 ·exact ovr
 ·exact ovr
 ·exact ej
 ·exact bak rfl
 ·exact ej
end
section
variable {g h:AH} {L R:List SP}
theorem Y2 {p:Int} {c:Cl} {l:List Cl}:zc p (c::l)=if c.1=p then some c.2 else zc p l:=rfl
theorem qk1 (zs:List Int) {i:Nat} (h0:0<i) (h:i<lT zs.length):zc (i:Int) (kW zs)=some (QN zs i):=by
 have e:kW zs=(kW zs).take (i-1)++[((i:Int),QN zs i)]++(kW zs).drop i:=by have hk:=Rr zs (show i-1+1<lT zs.length by omega);rw[show i-1+1=i by omega]at hk;have:=List.take_add_one (l:=kW zs) (i:=i-1);grind[Option.toList_some,List.take_append_drop]
 have hg:∀(l1 l2:List Cl),zc (i:Int) l1=none→zc (i:Int) (l1++l2)=zc (i:Int) l2:=by
  intro l1 l2
  induction l1 with
  |nil=>simp
  |cons c l ih=>
   intro hn;rw[Y2]at hn
   split at hn
   all_goals simp_all[Y2]
 rw[e,List.append_assoc,hg _ _ (qxl zs omQ)];show zc (i:Int) (((i:Int),QN zs i)::_)=_;rw[Y2,iJ rfl]
theorem ZU {zs:List Int} {m:Int} (hz:∀z∈zs,0≤z∧z<18446744073709551616):ju (kl zs m):=by
 refine⟨qWL zs m,?_,?_⟩
 ·intro c hc;obtain⟨i,_,rfl⟩:=List.mem_map.1 hc;unfold QN;cases hzi:zs[i+1]? with
  |none=>simp
  |some z=>exact hz z (List.mem_of_getElem? hzi)
 simp[kl]
theorem Y3 {b o:Nat} {K:AV→Go.Ae.R} {Q:AV→AH→Prop} (w:wp (K (.bool false)) Q):wp (lJ .ptr false (.ptr b o) .au K) Q:=w
theorem Nt {b o:Nat} {K:AV→Go.Ae.R} {Q:AV→AH→Prop} (w:wp (K (.bool true)) Q):wp (lJ .ptr true (.ptr b o) .au K) Q:=w
theorem qgt {s:List UInt8} {K:AV→Go.Ae.R} {Q:AV→AH→Prop} (w:wp (K (.bool true)) Q):wp (XF .eql (.str s) (.str s) K) Q:=by show wp (K (.bool (ig s s))) Q;rw[Wx];exact w
theorem qWf (op a n:Int) (s:IM) (V:VM):(zW op a n s V).bf=false:=by grind[zW]
theorem qQl {mt:List Int} {s:IM} {V:VM} {x:qe} (h:1≤x.1∧x.1≤23) (h1:x.1≠20) (h3:x.1≠23):(aZ mt s V x).bf=false:=by
 unfold aZ;by_cases c1:x.1=1
 ·grind
 rw[iQ c1];by_cases c2:x.1=2
 ·grind
 rw[iQ c2];by_cases c3:x.1=3
 ·grind
 rw[iQ c3];by_cases c4:x.1=4
 ·grind
 rw[iQ c4];by_cases c5:x.1=5
 ·grind
 rw[iQ c5];by_cases c6:x.1=6
 ·grind
 rw[iQ c6];by_cases c7:x.1=7
 ·grind
 rw[iQ c7];by_cases iw:x.1=12
 ·grind
 rw[iQ iw];by_cases lD:x.1=13
 ·grind
 rw[iQ lD];by_cases iM:x.1=21
 ·grind
 rw[iQ iM];by_cases lN:x.1=22
 ·grind
 rw[iQ lN];by_cases c8:x.1=8∨x.1=9∨x.1=10∨x.1=11
 ·grind
 rw[iQ c8];unfold yL;by_cases t1:x.1=14∨x.1=17
 ·simp_all[qWf]
 grind
def Calm (l:List qe):Prop:=∀x∈l,x.1≠20
theorem qxb {l:List qe} (F:Fit l) (Q:Quiet l) (C:Calm l):∀(n:Nat) {s:IM} {V:VM},GI l s V→bA V.lv+n<9000→(zw l (qb l) n s V).kind≠3:=by
 intro n
 induction n with
 |zero=>
  grind[wc]
 |succ n ih=>
  intro s V G hf;rw[kw]
  split
  ·simp
  ·rename_i h0;obtain⟨i,hi,p0⟩:=G.pc;have ae:i<l.length:=by omega
   rw[hi];have S:=YY F G hi ae omQ (Q.at ae).2 (Q.at ae).1;have hb:(aZ (qb l) s V (qU l i)).bf=false:=by have hw:=yZ (F.ok i ae);have hb:=I2 hw.1 (Q.at ae).1;refine qQl omQ ?_ (Q.at ae).1;rw[xq ae];exact C _ (List.getElem_mem ae)
   generalize aZ (qb l) s V (qU l i)=D at*;rw[hb]
   split
   ·rename_i h1;rw[iQ aA];have A3:=S.fr;exact ih (S.next h1 hb) omQ
   grind
theorem qV2 {l:List qe} (F:Fit l) (Q:Quiet l) {zs:List Int} {n:Nat} {s:IM} {V:VM} (G:GI l s V) (hK:V.K=kW zs) (hs:V.sz=lT zs.length) (hf:bA V.lv+n<9000):(zw l (qb l) n s V).kind≠1:=by intro h;obtain⟨_,_,_,d,_⟩:=RN F Q n G hf;obtain⟨_,d1,d2,d3⟩:=d h;generalize(zw l (qb l) n s V).v.aw=p at*;obtain⟨i,rfl⟩:∃i:Nat,p=i:=⟨p.toNat,by omega⟩;rw[hK,qk1 zs omQ omQ]at d3;grind
theorem qXn {l:List qe} {zs:List Int} {m:Int} (hz:CK zs):GI l XQ (kl zs m):=OA rfl (ZU hz)
theorem qWt (zs:List Int) (m:Int):bA (kl zs m).lv=0:=by rfl
section
variable {x y v u:Nat} {l l':List qe} {b b':Int} {mt mt':List Int} {s s':IM} {e e' f f' n1 n2 nx CE:Int} {V W:VM}
end
end
section
variable {g h:AH} {L R:List SP}
section
variable {n a:Nat} {x:jd} {q:ZR}
theorem UA {K:AV→Go.Ae.R} {Q:AV→AH→Prop} (w:wp (K (.bool false)) Q):wp (lJ .ptr true .au .au K) Q:=w
theorem qQ8 {K:AV→Go.Ae.R} {Q:AV→AH→Prop} (w:wp (K (.bool true)) Q):wp (lJ .ptr false .au .au K) Q:=w
theorem cm.P {vb:Nat} {p:u5} {rv bv:AV} {gv:Int} (H:HS g h (cm vb (.prog p) rv bv gv::R)):∃ib nx,(rv=.ptr ib 0∧bv=.ad∧gv=0)∧HS g h (aB ib vb p.l 0 (qb p.l) p.s p.err p.fin p.left nx::R):=by obtain⟨z,H⟩:=(show HS g h (.ex (λz:Nat×Int=>SP.all [.di (rv=.ptr z.1 0∧bv=.ad∧gv=0),aB z.1 vb p.l 0 (qb p.l) p.s p.err p.fin p.left z.2])::R)from H).dj;exact⟨z.1,z.2,H.bS.cX⟩
theorem cm.PI {vb ib:Nat} {p:u5} {nx:Int} {rv bv:AV} {gv:Int} (e:rv=.ptr ib 0∧bv=.ad∧gv=0) (H:HS g h (aB ib vb p.l 0 (qb p.l) p.s p.err p.fin p.left nx::R)):HS g h (cm vb (.prog p) rv bv gv::R) :=
 show HS g h (.ex (λz:Nat×Int=>SP.all [.di (rv=.ptr z.1 0∧bv=.ad∧gv=0),aB z.1 vb p.l 0 (qb p.l) p.s p.err p.fin p.left z.2])::R)from
  HS.dE (ib,nx) (HS.allI (HS.dF e H))
theorem cm.S {vb k:Nat} {bs:List Int} {rv bv:AV} {gv:Int} (H:HS g h (cm vb (.aV bs k) rv bv gv::R)):(rv=.au∧gv=(k:Int))∧HS g h (qF 3 1 bs.length bv (bs.map (.int .i64))::R) :=
 ((show HS g h (SP.all [.di (rv=.au∧gv=(k:Int)),qF 3 1 bs.length bv (bs.map (.int .i64))]::R)from H).bS).cX
theorem cm.SI {vb k:Nat} {bs:List Int} {rv bv:AV} {gv:Int} (e:rv=.au∧gv=(k:Int)) (H:HS g h (qF 3 1 bs.length bv (bs.map (.int .i64))::R)):HS g h (cm vb (.aV bs k) rv bv gv::R) :=
 show HS g h (SP.all [.di (rv=.au∧gv=(k:Int)),qF 3 1 bs.length bv (bs.map (.int .i64))]::R)from HS.allI (HS.dF e H)
theorem qvo {l:List Int} {k:Nat} (h:k<l.length):(l.map (.int .i64))[k]? =some (AV.int .i64 l[k]):=by simp
theorem qyM (hn:16≤n) (hg:ju x.v) (_:bA x.v.lv<9000) (hj:bQ True x.v x.aW) (H:HS g h (qx a (xP x q)::cm q.vb x.aW q.rv q.bv q.gv::ab q.vb x.v::R)) :
  af n 109 [.ptr a 0] h λr h'=>r=.bm [.int .i64 (xu x).1.1,.int .i64 (xu x).1.2]∧
   ∃gv,HS g h' (qx a (xP (xu x).2 { q with gv:=gv })::cm q.vb (xu x).2.aW q.rv q.bv gv::ab q.vb (xu x).2.v::R):=by
 refine ag (S:=S109) rfl omQ λk hk=>?_;unfold S109;try simp only[iZ]
 unfold xu;cases hx:x.aW with
 |prog p=>
  rw[hx]at H hj;obtain⟨F,Q,gb,hr,hl⟩:=hj;obtain⟨G,h0,h1,h2⟩:=hr trivial;obtain⟨ib,nx,⟨e1,e2,e3⟩,H1⟩:=cm.P (H.ah e_1);refine qK (qQ (qZ H (b:=a) .here (x:=.ptr ib 0) (by rw[← e1];rfl) ?_));refine Nt (qX (qG ?_))
  try dsimp only
  refine qK (qQ (qZ H (b:=a) .here (x:=.ptr ib 0) (by rw[← e1];rfl) ?_));rw[h0,h1]at H1;refine qW (qgm omQ F Q G h2 omQ (H1.pk [0,1,0] 0)) ?_;rintro _ h3 ⟨rfl,CE,H3⟩;refine qK (qQ (qZ H3 (b:=a) e_2 (x:=.ptr ib 0) (by rw[← e1];rfl) ?_));refine qW (qk0 omQ H3) ?_;rintro _ _ ⟨rfl,rfl⟩;refine qu H .here (by rw[← e1];rfl) H3 e_2 (by rw[← e1];rfl) (HS.lt H .here)<|qY ⟨rfl,0,?_⟩;have H4:=(cm.PI (p:=⟨p.l,(zw p.l (qb p.l) p.left p.s x.v).s,if(zw p.l (qb p.l) p.left p.s x.v).kind=1 then 0 else(zw p.l (qb p.l) p.left p.s x.v).kind,(zw p.l (qb p.l) p.left p.s x.v).err,(zw p.l (qb p.l) p.left p.s x.v).left⟩) ⟨e1,e2,rfl⟩ H3).sub (.cons e_2 (.cons .here (.cons .here .refl)));have eg:xP x q=xP x { q with gv:=0 }:=by grind[xP]
  rw[eg]at H4;exact H4
 |aV bs k=>
  rw[hx]at H hj;obtain⟨⟨e1,e2⟩,H1⟩:=cm.S (H.ah e_1);refine qK (qQ (qZ H (b:=a) .here (x:=.au) (by rw[← e1];rfl) ?_));refine UA (qJ ?_);have mO:=hj.1;have oI:=hj.2;dsimp only;generalize hG:xI x.v (bs.drop k) k=G
  refine jF (λm s h'=>s=(.ptr a 0,())∧∃(i:Nat) (V:VM),i≤bs.length∧m=bs.length-i∧ju V∧xI V (bs.drop i) i=G∧
    HS g h' (qx a (xP x { q with gv:=(i:Int) })::qF 3 1 bs.length q.bv (bs.map (.int .i64))::ab q.vb V::R))
   ?_ (m:=bs.length-k) omQ ⟨rfl,k,x.v,mO,rfl,hg,hG,by
    have:q={ q with gv:=(k:Int) }:=by rw[← e2]
    rw[← this]
    exact H1.pk [1,0] 0⟩
  clear H H1 hG;rintro m ih s h1 aY ⟨rfl,i,V,hi,rfl,hV,hG,H⟩;refine qK (qQ (qZ H (b:=a) .here rfl ?_));refine qK (qQ (qZ H (b:=a) .here rfl ?_));refine qd H e_1 ?_;by_cases ae:i<bs.length
  ·refine jB (by grind) (qX ?_);refine qK (qQ (qZ H (b:=a) .here rfl ?_));refine qK (qQ (qZ H (b:=a) .here rfl ?_));refine qK (qQ (qZ H (b:=a) .here rfl ?_));refine jN (H.sl e_1) (qvo ae)<|qW (qYU (b:=bs[i]) omQ (H.ah e_2) hV.ok) ?_;rintro _ h2 ⟨rfl,H2⟩;rw[List.drop_eq_getElem_cons ae]at hG;by_cases h0:(xj V bs[i]).1=0
   ·refine qj h0 (qX ?_);refine qK (qQ (qZ H2 (b:=a) e_1 (x:=.int .i64 (i:Int)) rfl ?_));refine qS omQ<|qK (qQ ?_);refine qw H2 (b:=a) e_1 ⟨rfl,rfl⟩ (by simp[xP]) λh3 H3=>?_;refine aY (bs.length-(i+1)) _ _ omQ ⟨rfl,i+1,(xj V bs[i]).2,by omega,rfl,hV.tg.1,?_,H3.pk [0,1,0] 0⟩;rw[show xI V (bs[i]::bs.drop (i+1)) i=xI (xj V bs[i]).2 (bs.drop (i+1)) (i+1)from iJ h0]at hG;grind
   ·rw[show xI V (bs[i]::bs.drop (i+1)) i=((i,(xj V bs[i]).1),(xj V bs[i]).2)from iQ h0]at hG;subst hG;refine qV h0 (qJ ?_);have H3:=(cm.SI (vb:=q.vb) (k:=i) ⟨e1,rfl⟩ (H2.sub (.cons e_2 (.cons e_1 (.cons .here .refl))))).sub (.cons e_1 (.cons .here (.cons .here .refl)));by_cases bY:(xj V bs[i]).1=11
    ·refine qj bY (qX (qg (qY ⟨?_,(i:Int),?_⟩)))
     ·grind
     trivial
    ·refine qV bY (qJ (qg (qY ⟨?_,(i:Int),?_⟩)))
     ·grind
     trivial
  ·obtain rfl:i=bs.length:=by omega
   rw[List.drop_length,show xI V [] bs.length=((bs.length,0),V)from rfl]at hG;subst hG;refine jk (by simp) (qJ (qg (qY ⟨rfl,(bs.length:Int),?_⟩)));have H3:=(cm.SI (vb:=q.vb) (k:=bs.length) ⟨e1,rfl⟩ (H.sub (.cons e_1 (.cons .here (.cons .here .refl))))).sub (.cons e_1 (.cons .here (.cons .here .refl)));exact H3
theorem KA {st:Int} {t b:Nat} (hn:1≤n) (H:HS g h (qx a (xP x q)::R)):af n 114 [.ptr a 0,.int .i64 st,.iface t (.ptr b 0)] h λ_ h'=>HS g h' (qx a (xP { x with state:=st } { q with iv:=.iface t (.ptr b 0) })::R):=by
 refine b8 rfl omQ λk hk=>?_;unfold S114;try simp only
 refine qK (qQ (qw H .here ⟨rfl,rfl⟩ (by simp[xP]) λh1 H1=>?_));refine qK (qQ (qw H1 .here ⟨rfl,rfl⟩ (by simp[xP]) λh2 H2=>?_));exact qY H2
theorem qXT {p:Int} (hn:3≤n) (hp:p<4611686018427387904) (H:HS g h (qx a (xP x q)::R)):af n 110 [.ptr a 0,.int .i64 p] h λ_ h'=>
  ∃b,HS g h' (qx b (wM (XE x p).f)::qx a (xP (XE x p) { q with iv:=.iface 98 (.ptr b 0),fv:=.ptr b 0 })::R):=by
 refine aG rfl omQ λk hk=>?_;unfold S110;try simp only[iZ]
 refine qG ?_
 try dsimp only
 refine qK (qQ (qZ H .here rfl ?_));refine qK (qQ (qc (qc (qZ H .here rfl ?_))));refine qK (qQ (qc (qc (qZ H .here rfl ?_))));refine qW (qYf omQ hp) ?_;rintro _ _ ⟨rfl,rfl⟩;refine qK (qQ (qc (qZ H .here rfl ?_)));refine qK (qQ (qZ H .here rfl ?_));refine qW (qvR omQ H) ?_;rintro _ h1 ⟨b,rfl,H1⟩;refine qK (qQ ?_);refine qw H1 e_1 ⟨rfl,rfl⟩ (by simp[xP]) λh2 H2=>?_;refine qu H .here rfl H .here rfl (HS.lt H .here)<|qu H .here rfl H .here rfl (HS.lt H .here)<|qu H .here rfl H .here rfl (HS.lt H .here) ?_;have H3:HS g h2 (qx a (xP { x with f:=U1 x.me p (ofM p x.set.aj x.set.wide) x.set.spins x.ak } { q with fv:=.ptr b 0 })::qx b (wM (U1 x.me p (ofM p x.set.aj x.set.wide) x.set.spins x.ak))::R):=H2;refine qK (qQ (qZ H3 .here rfl ?_));refine qW (KA omQ H3) λ_ h4 H4=>qY ⟨b,H4.pk [1,0] 0⟩
theorem MA {st:Int} (hn:4≤n) (hr:x.r.length≤16) (H:HS g h (qx a (xP x q)::bW q.db x.r::R)):af n 112 [.ptr a 0,.int .i64 st] h λ_ h'=>
  ∃b,HS g h' (bZ b (Jz x st).e::qx a (xP (Jz x st) { q with iv:=.iface 99 (.ptr b 0),ev:=.ptr b 0 })::bW q.db x.r::R):=by
 refine aG rfl omQ λk hk=>?_;unfold S112;try simp only
 refine qG ?_
 try dsimp only
 refine qK (qQ (qZ H .here rfl ?_));refine qK (qQ (qc (qZ H .here rfl ?_)));refine qK (qQ (qZ H .here rfl ?_));refine qW (OC omQ omQ (H.ah e_1)) λv h1 H1=>?_;refine qW (qkC (sp:=x.set.spins) omQ omQ H1) ?_;rintro _ h2 ⟨b,rfl,H2⟩;refine qK (qQ ?_);refine qw H2 e_2 ⟨rfl,rfl⟩ (by simp[xP]) λh3 H3=>?_;refine qu H .here rfl H1 e_2 rfl (HS.lt H .here)<|qu H .here rfl H1 e_2 rfl (HS.lt H .here) ?_;have H4:HS g h3 (qx a (xP { x with e:=Gf x.me x.set.spins x.r } { q with ev:=.ptr b 0 })::bZ b (Gf x.me x.set.spins x.r)::bW q.db x.r::R):=H3;refine qK (qQ (qZ H4 .here rfl ?_));refine qW (KA omQ H4) λ_ h5 H5=>qY ⟨b,H5.pk [1,0] 0⟩
end
end
section
variable {g h:AH} {L R:List SP}
section
variable {st:Int} {f:kT} {e:wQ} {c:Option zG} {iv fv ev cv:AV} {b:Nat}
theorem aL.mE (bK:st=3) (hc:c=none) (q:cv=.au∧fv=.ptr b 0∧iv=.iface 98 (.ptr b 0)) (H:HS g h (qx b (wM f)::R)):HS g h (aL st f e c iv fv ev cv::R):=by subst bK;subst hc;exact HS.dE b (HS.allI (HS.dF q H))
theorem aL.nK (bK:st=3) (hc:c=none) (H:HS g h (aL st f e c iv fv ev cv::R)):∃b,(cv=.au∧fv=.ptr b 0∧iv=.iface 98 (.ptr b 0))∧HS g h (qx b (wM f)::R):=by grind[aL.fet]
theorem aL.mF (bK:st=4∨st=5) (hc:c=none) (q:cv=.au∧ev=.ptr b 0∧iv=.iface 99 (.ptr b 0)) (H:HS g h (bZ b e::R)):HS g h (aL st f e c iv fv ev cv::R):=by subst hc;unfold aL;rw[iQ omQ,iJ bK];exact HS.dE b (HS.allI (HS.dF q H))
theorem aL.mG (bK:st=4∨st=5) (hc:c=none) (H:HS g h (aL st f e c iv fv ev cv::R)):∃b,(cv=.au∧ev=.ptr b 0∧iv=.iface 99 (.ptr b 0))∧HS g h (bZ b e::R):=by subst hc;unfold aL at H;dsimp only at H;rw[iQ omQ,iJ bK]at H;obtain⟨b,H⟩:=H.dj;exact⟨b,H.bS.cX⟩
theorem aL.mg (bK:st≠3∧st≠4∧st≠5) (hc:c=none) (q:cv=.au) (H:HS g h R):HS g h (aL st f e c iv fv ev cv::R):=by simp_all[aL,omQ,HS.dF]
theorem aL.tB (hc:c=none) (H:HS g h (aL st f e c iv fv ev cv::R)):cv=.au∧HS g h R:=by grind[aL.nil]
theorem aL.lG {d:zG} (hc:c=some d) (q:cv=.ptr b 0∧(st=6→iv=.iface 100 (.ptr b 0))) (H:HS g h (ao b d::R)):HS g h (aL st f e c iv fv ev cv::R):=by subst hc;exact HS.dE b (HS.allI (HS.dF q H))
theorem aL.hP {d:zG} (hc:c=some d) (H:HS g h (aL st f e c iv fv ev cv::R)):∃b,(cv=.ptr b 0∧(st=6→iv=.iface 100 (.ptr b 0)))∧HS g h (ao b d::R):=by subst hc;obtain⟨b,H⟩:=(show HS g h (.ex (λb':Nat=>SP.all [.di (cv=.ptr b' 0∧(st=6→iv=.iface 100 (.ptr b' 0))),ao b' d])::R)from H).dj;exact⟨b,H.bS.cX⟩
end
section
variable {n a:Nat} {x:jd} {q:ZR}
theorem Z1 (hn:18≤n) (B:Qh x) (hj:bQ True x.v x.aW) (hc:x.c=none) (dV:q.cv=.au) (H:HS g h (qx a (xP x q)::cm q.vb x.aW q.rv q.bv q.gv::ab q.vb x.v::bW q.db x.r::R)) :
  af n 64 [.ptr a 0] h λ_ h'=>HS g h' (ax a (kC x)::R):=by
 refine ag (S:=S64) rfl omQ λk hk=>?_;unfold S64;try simp only[iZ]
 have D:=Uk B.ap B.fr hj;unfold kC;refine qW (qyM omQ B.ap B.fr hj H) ?_;rintro _ h1 ⟨rfl,gv,H1⟩;clear H;generalize(xu x).1.1=kd at*;generalize(xu x).1.2=er at*;generalize(xu x).2=y at*;obtain⟨e1,e2,e3,e4,e5⟩:=D.same;have rX:y.c=none:=by grind
 have fQ:y.r.length≤16:=by rw[e3];exact B.r
 rw[← e3]at H1;generalize hA:wC y kd er=A;refine qA rfl (qA rfl ?_);refine jq [] (λ_ h'=>HS g h' (ax a A::R)) (λj hj=>?_) λ_ h' H'=>qg (qY H');unfold wC at hA;have iC:=D.ap.ok.hi;by_cases c1:kd=1
 ·rw[iJ c1]at hA;subst hA;refine qj c1 (qX ?_);have hnd:=D.aw c1;have hk:=D.kept.1;refine qK (qQ (qZ H1 (b:=a) .here rfl ?_));refine qW (Vf omQ (H1.ah (P:=ab q.vb y.v) e_2)) ?_;rintro _ _ ⟨rfl,rfl⟩;refine qW (qXT omQ omQ H1) ?_;rintro _ h2 ⟨b,H2⟩;refine hj _ _ (ax.I (q:={ q with gv:=gv,iv:=.iface 98 (.ptr b 0),fv:=.ptr b 0 }) ?_);have H3:=aL.mE (st:=3) (e:=y.e) (ev:=q.ev) rfl rX ⟨dV,rfl,rfl⟩ H2;exact H3.pk [1,1,1,1,0] 0
 rw[iQ c1]at hA;refine qV c1 (qJ ?_);by_cases c3:kd=3
 ·rw[iJ c3]at hA;subst hA;refine qj c3 (qX ?_);refine qK (qQ ?_);refine qw H1 (b:=a) .here ⟨rfl,rfl⟩ (by simp[xP]) λh2 H2=>?_;have H2:HS g h2 (qx a (xP { y with aH:=true } { q with gv:=gv })::cm q.vb y.aW q.rv q.bv gv::ab q.vb y.v::bW q.db y.r::R):=H2;refine qW (MA (x:={ y with aH:=true }) (q:={ q with gv:=gv }) omQ fQ (H2.pk [0,2] 0)) ?_;rintro _ h3 ⟨b,H3⟩;refine hj _ _ (ax.I (q:={ q with gv:=gv,iv:=.iface 99 (.ptr b 0),ev:=.ptr b 0 }) ?_);have H4:=aL.mF (st:=5) (f:=y.f) (fv:=q.fv) (c:=y.c) (cv:=q.cv) (.inr rfl) rX ⟨dV,rfl,rfl⟩ H3;exact H4.pk [1,2,2,1,0] 0
 rw[iQ c3]at hA;refine qV c3 (qJ ?_);have gone:∀{fin err:Int} {h2:AH},HS g h2 (qx a (xP (yG y fin err (-1)) { q with gv:=gv })::cm q.vb y.aW q.rv q.bv gv::ab q.vb y.v::bW q.db y.r::R)→HS g h2 (ax a (yG y fin err (-1))::R):=λ{fin err h2} H2=>by
  refine ax.I (q:={ q with gv:=gv }) ?_;have H3:=aL.mg (st:=7) (f:=y.f) (e:=y.e) (c:=y.c) (iv:=q.iv) (fv:=q.fv) (ev:=q.ev) (cv:=q.cv) od rX dV H2;exact H3.pk [1,1,1,1,0] 0
 by_cases c4:kd=4
 ·rw[iJ c4]at hA;subst hA;refine qj c4 (qX ?_);refine qW (Qi omQ H1) λ_ h2 H2=>?_;exact hj _ _ (gone H2)
 rw[iQ c4]at hA;refine qV c4 (qJ ?_);refine qK (qQ (qZ H1 (b:=a) .here rfl ?_));refine qW (Ma omQ (H1.ah (P:=ab q.vb y.v) e_2) D.ap.ok) λv h2 H2=>?_;have AG:=Gv D.ap.ok;refine qd H2 .here ?_;by_cases c5:jL y.v.lv=[]
 ·rw[iJ c5]at hA;subst hA;refine qj (by grind) (qX ?_);refine qW (Qi omQ (H2.pk [2,2,1,1] 1)) λ_ h3 H3=>?_;exact qY (gone H3)
 ·rw[iQ c5]at hA;have mL:0<(jL y.v.lv).length:=List.length_pos_iff.2 c5;refine qV omQ (qJ ?_);refine qG ?_
  try dsimp only
  refine qK (qQ (qZ H2 (b:=a) e_2 rfl ?_));refine qK (qQ (qc (qZ H2 (b:=a) e_2 rfl ?_)));refine qK (qQ (qZ H2 (b:=a) e_2 rfl ?_));refine qK (qQ (qZ H2 e_2 rfl ?_));refine qW (OC omQ omQ (H2.ah e_4)) λv2 h3 H3=>?_;refine qK (qQ (qc (qc (qZ H3 e_4 rfl ?_))));refine qK (qQ (qc (qc (qZ H3 e_4 rfl ?_))));refine qW (qkO (sp:=y.set.spins) (w:=y.set.wide) (r:=y.r) (cs:=jL y.v.lv) omQ omQ mL omQ (λc h=>by grind) (H3.pk [0,1] 0)) ?_;rintro _ h4 ⟨b,rfl,H4⟩;refine qK (qQ ?_);refine qw H4 (b:=a) e_3 (x:=.ptr b 0) ⟨rfl,rfl⟩ (by simp[xP]) λh5 H5=>?_;refine qu H2 e_2 rfl H3 e_4 rfl (HS.lt H2 e_2)<|qu H2 e_2 rfl H3 e_4 rfl (HS.lt H2 e_2)<|qu H2 e_2 rfl H3 e_4 rfl (HS.lt H2 e_2)<|qu H2 e_2 rfl H3 e_4 rfl (HS.lt H2 e_2)<|qu H2 e_2 rfl H3 e_4 rfl (HS.lt H2 e_2) ?_;have H6:HS g h5 (qx a (xP { y with c:=some (Kt y.me y.set.spins y.ak y.r (jL y.v.lv) y.set.aj y.set.wide) } { q with gv:=gv,cv:=.ptr b 0 })::ao b (Kt y.me y.set.spins y.ak y.r (jL y.v.lv) y.set.aj y.set.wide)::bW q.db y.r::ab q.vb y.v::cm q.vb y.aW q.rv q.bv gv::R):=H5;refine qK (qQ (qZ H6 (b:=a) .here rfl ?_));refine qW (KA omQ H6) λ_ h6 H7=>?_;subst hA;refine hj _ _ (ax.I (q:={ q with gv:=gv,cv:=.ptr b 0,iv:=.iface 100 (.ptr b 0) }) ?_);have H8:=aL.lG (st:=6) (f:=y.f) (e:=y.e) (fv:=q.fv) (ev:=q.ev) rfl ⟨rfl,λ_=>rfl⟩ (H7.ah e_1);exact H8.pk [1,3,2,1,0] 0
theorem qGo (r:List xA) (x:xA):(gV r x).1=0∨(gV r x).2=r:=by
 unfold gV
 grind
theorem O5 (hn:20≤n) (B:Qh x) (hj:bQ True x.v x.aW) (hw:0≤x.f.word∧x.f.word<18446744073709551616) (hc:x.c=none) {b:Nat} (hq:q.cv=.au∧q.fv=.ptr b 0) (H:HS g h (qx a (xP x q)::cm q.vb x.aW q.rv q.bv q.gv::ab q.vb x.v::bW q.db x.r::qx b (wM x.f)::R)) :
  af n 170 [.ptr a 0] h λ_ h'=>HS g h' (ax a (yE x)::R):=by
 refine ag (S:=S170) rfl omQ λk hk=>?_;unfold S170;try simp only[iZ]
 generalize hA:yE x=A;unfold yE at hA;refine qK (qQ (qZ H (b:=a) .here (x:=.ptr b 0) (by rw[← hq.2];rfl) ?_));refine qW (K7 omQ H (s:=e_4)) ?_;rintro _ _ ⟨rfl,rfl⟩;by_cases c6:x.f.p.fin=6
 ·rw[iJ c6]at hA;subst hA;refine qj c6 (qX ?_);refine qW (MA (q:=q) omQ B.r (H.pk [0,2] 0)) ?_;rintro _ h3 ⟨b',H3⟩;refine qY (ax.I (q:={ q with iv:=.iface 99 (.ptr b' 0),ev:=.ptr b' 0 }) ?_);have H4:=aL.mF (st:=4) (f:=x.f) (fv:=q.fv) (c:=x.c) (cv:=q.cv) (.inl rfl) hc ⟨hq.1,rfl,rfl⟩ H3;exact H4.pk [1,2,2,1,0] 1
 rw[iQ c6]at hA;refine qV c6 (qJ ?_);refine qG ?_
 try dsimp only
 refine qK (qQ (qZ H (b:=a) .here rfl ?_));refine qK (qQ (qZ H (b:=a) .here (x:=.ptr b 0) (by rw[← hq.2];rfl) ?_));refine qW (qY6 omQ H e_4) ?_;rintro _ h1 ⟨rfl,H1⟩;refine qW (qvu (x:=xE x.f) omQ B.r (H1.ah (P:=bW q.db x.r) e_3)) ?_;rintro _ h2 ⟨rfl,H2⟩;refine qu H .here rfl H1 .here rfl (HS.lt H .here)<|jq [] (λ_ h'=>HS g h' (ax a A::R)) (λj tc=>?_) λ_ h' H'=>qg (qY H');have hx:=X9 hw;by_cases c0:(gV x.r (xE x.f)).1=0
 ·rw[iJ c0]at hA;subst hA;refine qj c0 (qX ?_);refine qG ?_
  try dsimp only
  refine qK (qQ (qZ H2 (b:=a) e_1 rfl ?_));refine qK (qQ (qZ H2 (b:=a) e_1 rfl ?_));refine qW (Vf omQ (H2.ah (P:=ab q.vb x.v) e_3)) ?_;rintro _ _ ⟨rfl,rfl⟩;refine qK (qQ (qZ H2 (b:=a) e_1 (x:=.ptr b 0) (by rw[← hq.2];rfl) ?_));refine qW (qq2 omQ H2 e_4) ?_;rintro _ _ ⟨rfl,rfl⟩;refine qW (qjr (p:=x.v.aw) (x:=xp x.f) omQ (H2.ah (P:=ab q.vb x.v) e_3) B.ap.ok) ?_;rintro _ h3 ⟨rfl,H3⟩;refine qu H2 e_1 (x:=.ptr b 0) (by rw[← hq.2];rfl) H2 e_1 (by rw[← hq.2];rfl) (HS.lt H2 e_1)<|qu H2 e_1 rfl H2 e_1 rfl (HS.lt H2 e_1)<|qu H2 e_1 rfl H2 e_1 rfl (HS.lt H2 e_1)<|qW (Z1 (x:={ x with r:=(gV x.r (xE x.f)).2,v:=(yd x.v x.v.aw (xp x.f)).2 }) (q:=q) (R:=R) omQ ?_ (hj.oL hx) hc hq.1 (H3.pk [2,2,0,0] 1)) λ_ h4 H4=>tc _ _ H4;exact⟨B.set,Xi B.ap hx,by show((yd x.v x.v.aw (xp x.f)).2.sz:Int)=x.set.words;rw[kp.2];exact B.sz,by show bA (yd x.v x.v.aw (xp x.f)).2.lv<9000;rw[kp.1];exact B.fr,Gc B.r,(hj.oL hx).same λh=>h.elim,B.c⟩
 rw[iQ c0]at hA;refine qV c0 (qJ ?_);have fK:(gV x.r (xE x.f)).2=x.r:=(qGo x.r (xE x.f)).resolve_left c0;rw[fK]at H2;have gone:∀{fin err:Int} {h2:AH},HS g h2 (qx a (xP (yG x fin err (-1)) q)::bW q.db x.r::cm q.vb x.aW q.rv q.bv q.gv::ab q.vb x.v::qx b (wM x.f)::R)→HS g h2 (ax a (yG x fin err (-1))::R):=λ{fin err h2} H2=>by
  refine ax.I (q:=q) ?_;have H3:=aL.mg (st:=7) (f:=x.f) (e:=x.e) (c:=x.c) (iv:=q.iv) (fv:=q.fv) (ev:=q.ev) (cv:=q.cv) od hc hq.1 H2;exact H3.pk [1,2,2,1,0] 1
 by_cases rH:(gV x.r (xE x.f)).1=14
 ·rw[iJ rH]at hA;subst hA;refine qj rH (qX ?_);refine qW (Qi omQ (H2.ah e_1)) λ_ h3 H3=>?_;exact tc _ _ (gone H3)
 ·rw[iQ rH]at hA;subst hA;refine qV rH (qJ ?_);refine qW (Qi omQ (H2.ah e_1)) λ_ h3 H3=>?_;exact tc _ _ (gone H3)
theorem XI (hn:4≤n) (_:∀c,x.c=some c→xY c) (H:HS g h (ax a x::R)):af n 32 [.ptr a 0] h λr h'=>r=.bool (zM x)∧HS g h' (ax a x::R):=by
 refine ag rfl omQ λk hk=>?_;unfold S32;try simp only[iZ]
 obtain⟨q,H1⟩:=ax.E H;refine qK (qQ (qZ H1 .here rfl ?_));unfold zM;by_cases c8:x.state=8
 ·rw[iV (λh=>h c8),Bool.false_and];refine q9 c8<|qG<|qT<|qB (qG ?_);refine qT<|qG<|jT<|qG<|qT<|qB ?_
  exact qY ⟨rfl,H⟩
 rw[iG (show x.state≠8 from c8),Bool.true_and];refine jJ c8 ?_;cases hc:x.c with
 |none=>
  obtain⟨e,H2⟩:=aL.tB hc (H1.ah e_4);refine qG<|qR<|qK (qQ (qZ ‹_› .here rfl ?_))
  rw[e];refine UA (qC (qG ?_));refine qT<|qG<|jT<|qG<|qT<|qB ?_
  exact qY ⟨rfl,H⟩
 |some c=>
  obtain⟨b,e,H2⟩:=aL.hP hc (H1.ah e_4);refine qG<|qR<|qK (qQ (qZ ‹_› e_1 rfl ?_))
  rw[e.1];refine Nt (qC (qG ?_));(try dsimp only);refine qR<|qK (qQ (qZ ‹_› e_1 rfl ?_))
  rw[e.1];refine qW (ZB omQ H2) ?_;rintro _ _ ⟨rfl,rfl⟩;cases hw:zl c with
  |true=>
   refine qG<|qf<|qG<|qR<|qC (qC ?_)
   exact qY ⟨rfl,H⟩
  |false=>
   refine qG<|qM<|qK (qQ (qZ ‹_› e_1 rfl ?_))
   rw[e.1];refine qW (UZ omQ H2) ?_;rintro _ _ ⟨rfl,rfl⟩;by_cases c2:c.p.fin=2
   ·refine qj c2 ?_;rw[iG c2];refine qG<|qR<|qB (qC ?_)
    exact qY ⟨rfl,H⟩
   ·refine qV c2 ?_;rw[iV c2];refine qG<|qR<|qB (qC ?_)
    exact qY ⟨rfl,H⟩
theorem qWr (hn:22≤n) (O:zE x) (h3:3≤x.state) (h6:x.state≤6) (H:HS g h (ax a x::R)):af n 115 [.ptr a 0] h λ_ h'=>HS g h' (ax a (yy x)::R):=by
 refine ag rfl omQ λk hk=>?_;unfold S115;try simp only[iZ]
 obtain⟨q,H1⟩:=ax.E H;clear H;generalize hA:yy x=A;unfold yy at hA;refine qK (qQ (qZ H1 .here rfl ?_));refine jq [] (λ_ h'=>HS g h' (ax a A::R)) (λj hj=>?_) λ_ h' H'=>qg (qY H');by_cases c3:x.state=3
 ·rw[iJ c3]at hA;subst hA;refine qj c3 (qX ?_);obtain⟨b,e,H2⟩:=aL.nK c3 (O.c0 omQ) (H1.ah e_4);refine qW (O5 omQ O.b (O.aW.same λ_=>by omega) (O.f c3).2 (O.c0 omQ) ⟨e.1,e.2.1⟩ (H2.pk [1,1,1,1,0] 0)) λ_ h3 H3=>hj _ _ H3
 rw[iQ c3]at hA;refine qV c3 (qJ ?_);by_cases c4:x.state=4
 ·rw[iJ c4]at hA;subst hA;refine qj c4 (qX ?_);have hnd:=O.aw omQ omQ;have iC:=O.ap.ok.hi;obtain⟨b,e,H2⟩:=aL.mG (.inl c4) (O.c0 omQ) (H1.ah e_4);obtain⟨sv,H3⟩:=bZ.E H2;refine qK (qQ (qZ H1 .here (x:=.ptr b 0) (by rw[← e.2.1];rfl) ?_));refine qW (Mj omQ H3 .here) ?_;rintro _ _ ⟨rfl,rfl⟩;refine qK (qQ ?_);refine qw H2 (b:=a) e_1 ⟨rfl,rfl⟩ (by simp[xP]) λh4 H4=>?_;have H4:HS g h4 (qx a (xP { x with ak:=yC x.e } q)::bZ b x.e::cm q.vb x.aW q.rv q.bv q.gv::ab q.vb x.v::bW q.db x.r::R):=H4;refine qK (qQ (qZ H4 (b:=a) .here rfl ?_));refine qW (Vf omQ (H4.ah (P:=ab q.vb x.v) e_3)) ?_;rintro _ _ ⟨rfl,rfl⟩;refine qW (qXT omQ omQ H4) ?_;rintro _ h5 ⟨b',H5⟩;refine hj _ _ (ax.I (q:={ q with iv:=.iface 98 (.ptr b' 0),fv:=.ptr b' 0 }) ?_);have H6:=aL.mE (st:=3) (e:=x.e) (ev:=q.ev) (c:=x.c) (cv:=q.cv) rfl (O.c0 omQ) ⟨e.1,rfl,rfl⟩ H5;exact H6.pk [1,2,2,2,0] 1
 rw[iQ c4]at hA;refine qV c4 (qJ ?_);by_cases c5:x.state=5
 ·rw[iJ c5]at hA;subst hA;refine qj c5 (qX ?_);obtain⟨b,e,H2⟩:=aL.mG (.inr c5) (O.c0 omQ) (H1.ah e_4);obtain⟨sv,H3⟩:=bZ.E H2;refine qK (qQ (qZ H1 (b:=a) .here (x:=.ptr b 0) (by rw[← e.2.1];rfl) ?_));refine qW (Mj omQ H3 .here) ?_;rintro _ _ ⟨rfl,rfl⟩;refine qK (qQ ?_);refine qw H2 (b:=a) e_1 ⟨rfl,rfl⟩ (by simp[xP]) λh4 H4=>?_;have H4:HS g h4 (qx a (xP { x with ak:=yC x.e } q)::bZ b x.e::cm q.vb x.aW q.rv q.bv q.gv::ab q.vb x.v::bW q.db x.r::R):=H4;refine qW (Qi omQ H4) λ_ h5 H5=>?_;refine hj _ _ (ax.I (q:=q) ?_);have H6:=aL.mg (st:=7) (f:=x.f) (e:=x.e) (c:=x.c) (iv:=q.iv) (fv:=q.fv) (ev:=q.ev) (cv:=q.cv) od (O.c0 omQ) e.1 H5;exact H6.pk [1,2,2,2,0] 1
 rw[iQ c5]at hA;refine qV c5 (qJ ?_);have c6:x.state=6:=by omega
 refine qj c6 (qX ?_)
 split at hA
 ·rename_i c hc;subst hA;obtain⟨b,e,H2⟩:=aL.hP hc (H1.ah e_4);refine qG ?_
  try dsimp only
  refine qK (qQ (qZ H1 (b:=a) .here (x:=.ptr b 0) (by rw[← e.1];rfl) ?_));refine qW (UZ omQ H2) ?_;rintro _ _ ⟨rfl,rfl⟩;refine qK (qQ (qZ H1 (b:=a) .here (x:=.ptr b 0) (by rw[← e.1];rfl) ?_));refine qW (qx0 omQ H2) ?_;rintro _ _ ⟨rfl,rfl⟩;refine qW (Qi omQ (H2.ah e_1)) λ_ h5 H5=>?_;refine qu H1 .here (x:=.ptr b 0) (by rw[← e.1];rfl) H1 .here (by rw[← e.1];rfl) (HS.lt H1 .here)<|hj _ _ (ax.I (q:=q) ?_);have H6:=aL.lG (st:=7) (f:=x.f) (e:=x.e) (iv:=q.iv) (fv:=q.fv) (ev:=q.ev) (b:=b) hc ⟨e.1,λh=>by grind⟩ (H5.ah (P:=ao b c) e_1);exact H6.pk [1,1,1,1,0] 0
 ·rename_i hc;exact absurd hc (O.c6 c6)
end
end
section
variable {g h:AH} {L R:List SP}
section
variable {n a:Nat} {x:jd} {q:ZR}
theorem aL.out {st st':Int} {f:kT} {e:wQ} {c:Option zG} {iv fv ev cv:AV} (h7:st'=7∨st'=8) (H:HS g h (aL st f e c iv fv ev cv::R)):HS g h (aL st' f e c iv fv ev cv::R):=by
 cases c with
 |none=>obtain⟨q,H⟩:=aL.tB rfl H;exact aL.mg omQ rfl q H
 |some d=>obtain⟨b,q,H⟩:=aL.hP rfl H;exact aL.lG rfl ⟨q.1,λh=>by omega⟩ H
theorem Ur (hn:24≤n) (O:zE x) (h3:3≤x.state) (h6:x.state≤6) (H:HS g h (ax a x::R)):af n 65 [.ptr a 0] h λ_ h'=>HS g h' (ax a (wA x)::R):=by
 (refine qE rfl omQ λk hk=>?_;show wp (S65 (callT tab qv k) _ _) _;unfold S65;try simp only[iI,iZ])
 obtain⟨q,H1⟩:=ax.E H;have fin:∀{K2:AV→AH→Go.Ae.R} {Q:AV→AH→Prop},wp (K2 (.int .i64 (yi x).1) h) Q→wp (yp (callT tab qv k) [(47,27),(98,213),(99,218),(100,92),(266,145)] q.iv [] h K2) Q:=λ{K2 Q} w=>by
  unfold yi at w;by_cases c3:x.state=3
  ·rw[iJ c3]at w;obtain⟨b,e,H2⟩:=aL.nK c3 (O.c0 omQ) (H1.ah e_4);rw[e.2.2];refine kf rfl (K7 omQ H2 .here) ?_;rintro _ _ ⟨rfl,rfl⟩;exact w
  ·rw[iQ c3]at w;by_cases c6:x.state=6
   ·rw[iJ c6]at w
    split at w
    ·rename_i c hc;obtain⟨b,e,H2⟩:=aL.hP hc (H1.ah e_4);rw[e.2 c6];refine kf rfl (UZ omQ H2) ?_;rintro _ _ ⟨rfl,rfl⟩;exact w
    ·rename_i hc;exact absurd hc (O.c6 c6)
   ·rw[iQ c6]at w;obtain⟨b,e,H2⟩:=aL.mG omQ (O.c0 omQ) (H1.ah e_4);obtain⟨sv,H3⟩:=bZ.E H2;rw[e.2.2];refine kf rfl (qXs omQ H3 .here) ?_;rintro _ _ ⟨rfl,rfl⟩;exact w
 have bM:∀{K2:AV→AH→Go.Ae.R} {Q:AV→AH→Prop},wp (K2 (.int .i64 (yi x).2) h) Q→wp (yp (callT tab qv k) [(47,31),(98,413),(99,421),(100,424),(266,416)] q.iv [] h K2) Q:=λ{K2 Q} w=>by
  unfold yi at w;by_cases c3:x.state=3
  ·rw[iJ c3]at w;obtain⟨b,e,H2⟩:=aL.nK c3 (O.c0 omQ) (H1.ah e_4);rw[e.2.2];refine kf rfl (qyN omQ H2 .here) ?_;rintro _ _ ⟨rfl,rfl⟩;exact w
  ·rw[iQ c3]at w;by_cases c6:x.state=6
   ·rw[iJ c6]at w
    split at w
    ·rename_i c hc;obtain⟨b,e,H2⟩:=aL.hP hc (H1.ah e_4);rw[e.2 c6];refine kf rfl (qy2 omQ H2) ?_;rintro _ _ ⟨rfl,rfl⟩;exact w
    ·rename_i hc;exact absurd hc (O.c6 c6)
   ·rw[iQ c6]at w;obtain⟨b,e,H2⟩:=aL.mG omQ (O.c0 omQ) (H1.ah e_4);obtain⟨sv,H3⟩:=bZ.E H2;rw[e.2.2];refine kf rfl (qyn omQ H3 .here) ?_;rintro _ _ ⟨rfl,rfl⟩;exact w
 refine qK (qQ (qZ H1 .here rfl (fin ?_)));have OL:=Ng O h3 h6;show wp _ λ_ h'=>HS g h' (ax a (yV (xU x))::R);refine jq [] (λs h'=>s=(.ptr a 0,())∧HS g h' (ax a (xU x)::R)) (λj hj=>?_) ?_
 rotate_left
 ·rintro _ h2 ⟨rfl,H2⟩;refine qW (XI omQ OL.c H2) ?_;rintro _ h3 ⟨rfl,H3⟩;unfold yV;cases hw:zM (xU x)with
  |false=>exact qJ (qg (qY H3))
  |true=>
   refine qX ?_;have oX:∃c,(xU x).c=some c:=by
    unfold zM at hw;grind
   obtain⟨c,hc⟩:=oX;obtain⟨q2,H4⟩:=ax.E H3;obtain⟨b,e,H5⟩:=aL.hP hc (H4.ah e_4);refine qK (qQ (qZ H4 (b:=a) .here (x:=.ptr b 0) (by rw[← e.1];rfl) ?_));refine qW (qVu omQ (OL.c c hc).now H5) ?_;rintro _ _ ⟨rfl,rfl⟩;refine qK (qQ ?_);refine qw H4 .here ⟨rfl,rfl⟩ (by simp[xP]) λh5 H6=>qg (qY ?_);rw[iJ rfl];have H7:HS g h5 (qx a (xP { xU x with ak:=gQ c } q2)::cm q2.vb (xU x).aW q2.rv q2.bv q2.gv::ab q2.vb (xU x).v::bW q2.db (xU x).r::aL (xU x).state (xU x).f (xU x).e (xU x).c q2.iv q2.fv q2.ev q2.cv::R):=H6;grind[ax.I]
 generalize hL:xU x=Y at*;unfold xU at hL;by_cases c0:(yi x).1=0
 ·rw[iJ c0]at hL;subst hL;exact qj c0 (qX (hj _ _ ⟨rfl,H⟩))
 rw[iQ c0]at hL;refine qV c0 (qJ ?_);by_cases c5:(yi x).1=5
 ·rw[iJ c5]at hL;subst hL;refine qj c5 (qX ?_);refine qK (qQ (qZ H1 (b:=a) .here rfl (bM ?_)));refine qW (Qi omQ H1) λ_ h2 H2=>hj _ _ ⟨rfl,ax.I (q:=q) ?_⟩;have H3:=aL.out (st':=7) (.inl rfl) (H2.ah e_4);exact H3.pk [1,1,1,1,0] 0
 ·rw[iQ c5]at hL;subst hL;refine qV c5 (qJ ?_);exact qW (qWr omQ O h3 h6 H) λ_ h2 H2=>hj _ _ ⟨rfl,H2⟩
theorem qzN {an:cT} (hn:26≤n) (O:zE x) (ha:Kd an) (H:HS g h (ax a x::R)):af n 15 [.ptr a 0,.agg (jI an)] h λ_ h'=>HS g h' (ax a (yc x an)::R):=by
 (refine qE (g:=W15) rfl omQ λk hk=>?_;show wp (S15 (callT tab qv k) _ _ _) _;unfold S15;try simp only[iI,iZ])
 have bK:=O.st;obtain⟨q,H0⟩:=ax.E H;refine qH H0 rfl λb0 h1 H1=>?_;have H1:HS g h1 (qx b0 (jI an)::CI a x q R):=H1;clear H H0;generalize hA:yc x an=A;unfold yc at hA;refine qK (qQ (qZ H1 (b:=a) e_1 rfl ?_));by_cases c8:x.state=8
 ·rw[iJ c8]at hA;subst hA;exact qj c8 (qX (qY (ax.I (q:=q) H1.drop)))
 rw[iQ c8]at hA;refine qV c8 (qJ ?_);refine qQ (qZ H1 (b:=b0) .here (x:=.int .i64 an.err) rfl ?_);by_cases ce:an.err=0
 rotate_left
 ·rw[iJ ce]at hA;subst hA;refine jJ ce (qX ?_);refine qQ (qZ H1 (b:=b0) .here (x:=.int .i64 an.err) rfl ?_);refine qW (Qi omQ (H1.ah e_1)) λ_ h2 H2=>?_;refine qK (qQ ?_);refine qw H2 (b:=a) .here ⟨rfl,rfl⟩ (by simp[xP]) λh3 H3=>qY (ax.I (q:=q) ?_);have H4:=aL.out (st':=8) (.inr rfl) (H3.ah e_5);exact H4.pk [1,2,2,2,0] 1
 rw[iQ (λh=>h ce)]at hA;refine q9 ce (qJ ?_);refine qK (qQ (qZ H1 (b:=a) e_1 rfl ?_));refine jq [] (λ_ h'=>HS g h' (ax a A::R)) (λj hj=>?_) λ_ h' H'=>qg (qY H');by_cases c0:x.state=0
 ·rw[iJ c0]at hA;subst hA;refine qj c0 (qX ?_);refine qK (qQ ?_);refine qw H1 (b:=a) e_1 ⟨rfl,rfl⟩ (by simp[xP]) λh2 H2=>hj _ _ (ax.I (q:=q) ?_);obtain⟨e,H3⟩:=aL.tB (O.c0 omQ) (H2.ah e_5);have H4:=aL.mg (st:=1) (f:=x.f) (e:=x.e) (c:=x.c) (iv:=q.iv) (fv:=q.fv) (ev:=q.ev) od (O.c0 omQ) e H3;exact H4.pk [1,2,2,2,0] 1
 rw[iQ c0]at hA;refine qV c0 (qJ ?_);by_cases c1:x.state=1
 ·rw[iJ c1]at hA;subst hA;refine qj c1 (qX ?_);refine qG ?_
  try dsimp only
  refine qQ (qZ H1 (b:=b0) .here (x:=.int .u64 an.word) rfl ?_);refine qQ (qZ H1 (b:=b0) .here (x:=.int .u64 an.word) rfl ?_);refine qK (qQ ?_);refine qw H1 (b:=a) e_1 ⟨rfl,rfl⟩ (by simp[xP]) λh2 H2=>?_;refine qK (qQ ?_);refine qw H2 (b:=a) .here ⟨rfl,rfl⟩ (by simp[xP]) λh3 H3=>?_;refine qK (qQ ?_);refine qw H3 (b:=a) .here ⟨rfl,rfl⟩ (by simp[xP]) λh4 H4=>?_;refine qu H2 e_1 rfl H3 e_1 rfl (HS.lt H1 .here)<|qu H1 .here rfl H2 e_1 rfl (HS.lt H1 .here)<|qu H1 .here rfl H2 e_1 rfl (HS.lt H1 .here)<|qK (qQ ?_);refine qw H4 (b:=a) .here ⟨rfl,rfl⟩ (by simp[xP]) λh5 H5=>hj _ _ (ax.I (q:=q) ?_);obtain⟨e,H6⟩:=aL.tB (O.c0 omQ) (H5.ah e_5);have H7:=aL.mg (st:=2) (f:=x.f) (e:=x.e) (c:=x.c) (iv:=q.iv) (fv:=q.fv) (ev:=q.ev) od (O.c0 omQ) e H6;exact H7.pk [1,2,2,2,0] 1
 rw[iQ c1]at hA;refine qV c1 (qJ ?_);by_cases c2:x.state=2
 ·rw[iJ c2]at hA;subst hA;refine qj c2 (qX ?_);obtain⟨e,H3⟩:=aL.tB (O.c0 omQ) (H1.ah e_5);exact qW (Z1 (q:=q) (R:=R) omQ O.b (O.aW.same λ_=>by omega) (O.c0 omQ) e (H3.pk [1,1,1,1] 1)) λ_ h4 H4=>hj _ _ H4
 rw[iQ c2]at hA;refine qV c2 (qJ ?_);by_cases c7:x.state=7
 ·rw[iJ c7]at hA;subst hA;refine qj c7 (qX ?_);refine qK (qQ ?_);refine qw H1 (b:=a) e_1 ⟨rfl,rfl⟩ (by simp[xP]) λh2 H2=>hj _ _ (ax.I (q:=q) ?_);have H3:=aL.out (st':=8) (.inr rfl) (H2.ah e_5);exact H3.pk [1,2,2,2,0] 1
 rw[iQ c7]at hA;refine qV c7 (qJ ?_);refine qK (qQ (qZ H1 (b:=a) e_1 rfl ?_));refine qD H1 (b:=b0) (off:=0) .here rfl omQ (l:=jI an) rfl ?_;have DI:∀{y:jd},y.state=x.state→3≤y.state∧y.state≤6:=λh=>by omega
 by_cases c3:x.state=3
 ·rw[iJ c3]at hA;subst hA;obtain⟨b,e,H2⟩:=aL.nK c3 (O.c0 omQ) (H1.ah e_5);rw[e.2.2];refine kf rfl (qqO (a:=an) omQ (O.f c3).1 H2) λ_ h3 H3=>?_;have H4:=aL.mE (st:=x.state) (e:=x.e) (ev:=q.ev) c3 (O.c0 omQ) e H3;have O':zE { x with f:=xQ x.f an }:=⟨O.set,O.ap,O.sz,O.fr,O.r,O.aW,O.st,λh=>⟨Jc (O.f h).1,Yj (O.f h).2 ha⟩,O.aw,O.e,O.c,O.c0,O.c6⟩;exact qW (Ur (x:={ x with f:=xQ x.f an }) omQ O' (DI rfl).1 (DI rfl).2 (ax.I (q:=q) (H4.pk [2,2,2,2,0] 1))) λ_ h5 H5=>hj _ _ H5
 rw[iQ c3]at hA;by_cases c6:x.state=6
 ·rw[iJ c6]at hA;subst hA;cases hc:x.c with
  |none=>exact absurd hc (O.c6 c6)
  |some c=>obtain⟨b,e,H2⟩:=aL.hP hc (H1.ah e_5);rw[e.2 c6];have Oc:=O.c c hc;refine kf rfl (qxe (a:=an) omQ Oc H2) λ_ h3 H3=>?_;have H4:=aL.lG (st:=x.state) (f:=x.f) (e:=x.e) (fv:=q.fv) (ev:=q.ev) (c:=some (zD c an)) rfl e H3;have O':zE { x with c:=some (zD c an) }:=⟨O.set,O.ap,O.sz,O.fr,O.r,O.aW,O.st,O.f,O.aw,O.e,λc' h=>by grind[Yk],λh=>absurd h (by grind),λ_ h=>by grind⟩;rw[hc]at hj;exact qW (Ur (x:={ x with c:=some (zD c an) }) omQ O' (DI rfl).1 (DI rfl).2 (ax.I (q:=q) (H4.pk [2,2,2,2,0] 1))) λ_ h5 H5=>hj _ _ H5
 rw[iQ c6]at hA;subst hA;obtain⟨b,e,H2⟩:=aL.mG omQ (O.c0 omQ) (H1.ah e_5);rw[e.2.2];refine kf rfl (qqc (a:=an) omQ (O.e omQ omQ) H2) λ_ h3 H3=>?_;have H4:=aL.mF (st:=x.state) (f:=x.f) (fv:=q.fv) omQ (O.c0 omQ) e H3;have O':zE { x with e:=xM x.e an }:=⟨O.set,O.ap,O.sz,O.fr,O.r,O.aW,O.st,O.f,O.aw,λh1 h2=>Jn (O.e h1 h2),O.c,O.c0,O.c6⟩;exact qW (Ur (x:={ x with e:=xM x.e an }) omQ O' (DI rfl).1 (DI rfl).2 (ax.I (q:=q) (H4.pk [2,2,2,2,0] 1))) λ_ h5 H5=>hj _ _ H5
theorem qjM (hn:4≤n) (O:zE x) (H:HS g h (ax a x::R)):af n 12 [.ptr a 0] h λr h'=>r=tu (yI x)∧HS g h' (ax a x::R):=by
 (refine qE rfl omQ λk hk=>?_;show wp (S12 (callT tab qv k) _ _) _;unfold S12;try simp only[iI,uU,iZ])
 have bK:=O.st;obtain⟨q,H0⟩:=ax.E H;refine qH H0 rfl λb0 h1 H1=>?_;clear H H0;refine qK (qQ (qZ H1 e_1 rfl ?_));unfold yI;have rI:∀{o:dR} {h':AH},HS g h' (qx b0 (jn o)::CI a x q R)→wp (q8 h' (.ptr b0 0) 10 λv=>some (.bm [v,.bool true],h')) λr h'=>r=tu (some o)∧HS g h' (ax a x::R):=λ{o h'} H'=>by
  refine qD H' .here rfl omQ rfl<|qY ⟨rfl,ax.I H'.drop⟩
 by_cases c0:x.state=0
 ·rw[iJ c0];refine qj c0 (qX ?_);refine qK (qQ (qZ H1 e_1 rfl ?_));refine qy rfl<|qh H1 .here rfl (by simp) rfl λh3 H3=>rI H3
 rw[iQ c0];refine qV c0 (qJ ?_);by_cases c1:x.state=1
 ·rw[iJ c1];refine qj c1 (qX ?_);refine qy rfl<|qh H1 .here rfl (by simp) rfl λh3 H3=>rI H3
 rw[iQ c1];refine qV c1 (qJ ?_);by_cases c2:x.state=2
 ·rw[iJ c2];refine qj c2 (qX ?_);refine qK (qQ (qZ H1 e_1 rfl ?_));refine qK (qQ (qZ H1 e_1 rfl ?_));refine JX (qy rfl ?_);exact qh H1 .here rfl (by simp) rfl λh3 H3=>rI H3
 rw[iQ c2];refine qV c2 (qJ ?_);by_cases c7:x.state=7
 ·rw[iJ c7];refine qj c7 (qX ?_);refine qK (qQ (qZ H1 e_1 rfl ?_));refine qy rfl<|qh H1 .here rfl (by simp) rfl λh3 H3=>rI H3
 rw[iQ c7];refine qV c7 (qJ ?_);by_cases c8:x.state=8
 ·rw[iJ c8];refine qj c8 (qX ?_);refine qy rfl<|qh H1 .here rfl (by simp) rfl λh3 H3=>?_;refine qD H3 .here rfl omQ rfl<|qY ⟨rfl,ax.I H3.drop⟩
 rw[iQ c8];refine qV c8 (qJ ?_);refine qK (qQ (qZ H1 e_1 rfl ?_));have SE:∀{o:Option dR} {h':AH},HS g h' (qx b0 (jn (ck 0 0 0))::CI a x q R)→wp (zX (tu o) 0 λv=>zX (tu o) 1 λv2=>qn h' (.ptr b0 0) v 10 λh2=>q8 h2 (.ptr b0 0) 10 λv3=>some (.bm [v3,v2],h2)) λr h'=>r=tu o∧HS g h' (ax a x::R):=λ{o h'} H'=>by
  refine qA rfl (qA rfl ?_);refine qh H' .here rfl (by trivial) rfl λh3 H3=>?_;refine qD H3 .here rfl omQ rfl<|qY ⟨rfl,ax.I H3.drop⟩
 by_cases c3:x.state=3
 ·rw[iJ c3];obtain⟨b,e,H2⟩:=aL.nK c3 (O.c0 omQ) (H1.ah e_5);rw[e.2.2];refine kf rfl (qYd omQ H2) ?_;rintro _ h3 ⟨rfl,H3⟩;have H4:=aL.mE (st:=x.state) (e:=x.e) (ev:=q.ev) c3 (O.c0 omQ) e H3;exact SE (H4.pk [1,1,1,1,1,0] 0)
 rw[iQ c3];by_cases c6:x.state=6
 ·rw[iJ c6];cases hc:x.c with
  |none=>exact absurd hc (O.c6 c6)
  |some c=>obtain⟨b,e,H2⟩:=aL.hP hc (H1.ah e_5);rw[e.2 c6];refine kf rfl (qY1 omQ (O.c c hc) H2) ?_;rintro _ h3 ⟨rfl,H3⟩;have H4:=aL.lG (st:=x.state) (f:=x.f) (e:=x.e) (fv:=q.fv) (ev:=q.ev) hc e H3;exact SE (H4.pk [1,1,1,1,1,0] 0)
 rw[iQ c6];obtain⟨b,e,H2⟩:=aL.mG omQ (O.c0 omQ) (H1.ah e_5);rw[e.2.2];refine kf rfl (qYo omQ (O.e omQ omQ) H2) ?_;rintro _ h3 ⟨rfl,H3⟩;have H4:=aL.mF (st:=x.state) (f:=x.f) (fv:=q.fv) omQ (O.c0 omQ) e H3;exact SE (H4.pk [1,1,1,1,1,0] 0)
end
end
section
variable {g h:AH} {L R:List SP}
section
variable {n:Nat} {s S:xn}
abbrev zb (S:xn):List AV:=[.int .i64 S.words,.int .i64 S.aj,.int .i64 S.wide,.int .i64 S.aF,.int .u64 S.start]
abbrev xC (S:xn):List AV:=[.int .i64 S.words,.int .i64 S.aj,.int .i64 S.wide,.int .i64 S.aF,.int .u64 S.start,.int .i64 S.spins,.int .i64 S.writes,.int .i64 S.fuel]
theorem ZQ (hn:1≤n) (H:HS g h R):af n 83 [.agg (zb s)] h λr h'=>r=.agg (zb (ja s))∧HS g h' R:=by
 refine ag rfl omQ λk hk=>?_;unfold S83;try simp only[iZ]
 refine qH H rfl λb0 h1 H1=>?_;refine qH H1 rfl λb1 h2 H2=>?_;refine qQ (qZ H2 e_1 rfl (zS (zu ?_)));refine qQ (qZ H2 e_1 rfl (zS (zu ?_)));refine qQ (qZ H2 e_1 rfl (zS (zu ?_)));refine qQ (qZ H2 e_1 rfl (zS (zu ?_)));refine qQ (qZ H2 e_1 rfl (zS ?_));refine qy rfl<|qh H2 .here rfl (by simp) rfl λh3 H3=>?_;refine qD H3 .here rfl omQ rfl<|qY ⟨rfl,H3.drop.drop⟩
theorem qjf (hn:2≤n) (H:HS g h R):af n 94 [.agg (xC s)] h λr h'=>r=.agg (xC (ja s))∧HS g h' R:=by
 refine ag rfl omQ λk hk=>?_;unfold S94;try simp only[iZ]
 refine qH H rfl λb0 h1 H1=>?_;refine qH H1 rfl λb1 h2 H2=>?_;refine qG ?_
 try dsimp only
 refine qQ (qD H2 e_1 rfl omQ rfl ?_);refine qW (ZQ omQ H2) ?_;rintro _ h3 ⟨rfl,H3⟩;refine qQ (qZ H3 e_1 rfl (zS (zu ?_)));refine qQ (qZ H3 e_1 rfl (zS (zu ?_)));refine qQ (qZ H3 e_1 rfl (zS (zu ?_)));refine qy rfl<|qh H3 .here rfl (by simp) rfl λh4 H4=>?_;refine qu H2 e_1 rfl H3 e_1 rfl (HS.lt H2 e_1)<|qu H2 e_1 rfl H3 e_1 rfl (HS.lt H2 e_1)<|qu H2 e_1 rfl H3 e_1 rfl (HS.lt H2 e_1)<|qD H4 .here rfl omQ rfl<|qY ⟨rfl,H4.drop.drop⟩
theorem qv6 {w:Int} (hn:1≤n) (hw:32≤w∧w≤256) (H:HS g h R):af n 84 [.int .i64 w] h λr h'=>∃b v,r=.ptr b 0∧HS g h' (qx b [v]::qF 22 1 w.toNat v ((List.replicate w.toNat (0:Int)).map (.int .u64))::R):=by
 refine ag rfl omQ λk hk=>?_;unfold S84;try simp only[iZ]
 refine zS (zu ?_);rw[show max ((32:Nat):Int) (min w ((256:Nat):Int))=((w.toNat:Nat):Int) by omega];refine kO H omQ λv h1 H1=>?_;rw[show List.replicate w.toNat (AV.int .u64 ((0:Nat):Int))=(List.replicate w.toNat (0:Int)).map (.int .u64) by simp]at H1;have o1:=H1.one .here;refine qy (by simp only[vG,o1.1];rfl)<|qH H1 (by simp only[jV,List.all_cons,o1.2];rfl) λb h2 H2=>qY ⟨b,v,rfl,H2⟩
theorem qkf {w:Int} (hn:1≤n) (hw:1≤w∧w≤4) (H:HS g h R):af n 87 [.int .i64 w] h λr h'=>∃b v,r=.ptr b 0∧HS g h' (qx b [v]::qF 22 1 w.toNat v ((List.replicate w.toNat (0:Int)).map (.int .u64))::R):=by
 refine ag rfl omQ λk hk=>?_;unfold S87;try simp only[iZ]
 refine zS (zu ?_);rw[show max ((1:Nat):Int) (min w ((4:Nat):Int))=((w.toNat:Nat):Int) by omega];refine kO H omQ λv h1 H1=>?_;rw[show List.replicate w.toNat (AV.int .u64 ((0:Nat):Int))=(List.replicate w.toNat (0:Int)).map (.int .u64) by simp]at H1;have o1:=H1.one .here;refine qy (by simp only[vG,o1.1];rfl)<|qH H1 (by simp only[jV,List.all_cons,o1.2];rfl) λb h2 H2=>qY ⟨b,v,rfl,H2⟩
theorem qJ3:∀k:Nat,gA [AV.int .u64 ((0:Nat):Int),.bool false,.int .i64 ((0:Nat):Int)] k=(List.replicate k cZ).flatMap jS:=by
 intro k
 induction k with
 |zero=>rfl
 |succ k ih=>rw[List.replicate_succ,List.flatMap_cons,← ih];rfl
theorem qwD {w z:Int} (hn:2≤n) (hw:1≤w∧w≤16) (hz:1≤z∧z≤16) (H:HS g h R):af n 85 [.int .i64 w,.int .i64 z] h λr h'=>∃b v,r=.ptr b 0∧HS g h' (qx b [v,.int .i64 z]::qF 54 3 w.toNat v ((List.replicate w.toNat cZ).flatMap jS)::R):=by
 refine aG rfl omQ λk hk=>?_;unfold S85;try simp only[iZ]
 refine qW (Uv omQ) ?_;rintro _ _ ⟨rfl,rfl⟩;rw[show max 1 (min w ((16:Nat):Int))=((w.toNat:Nat):Int) by omega];refine JG (ln:=w.toNat) (cp:=w.toNat) H rfl (Nat.le_refl _) omQ λv h1 H1=>?_;rw[List.take_of_length_le (by simp[vI]),qJ3]at H1;refine qW (Uv omQ) ?_;rintro _ _ ⟨rfl,rfl⟩;rw[show max 1 (min z ((16:Nat):Int))=z by omega];have o1:=H1.one .here;refine qy (by simp only[vG,o1.1];rfl)<|qH H1 (by simp only[jV,List.all_cons,o1.2];rfl) λb h2 H2=>qY ⟨b,v,rfl,H2⟩
theorem qk5 {w:Int} (hn:1≤n) (hw:w≤4611686018427387903) (H:HS g h R):af n 86 [.int .u64 w] h λr h'=>∃b,r=.ptr b 0∧HS g h' (qx b [.int .u64 w]::R):=by
 refine ag rfl omQ λk hk=>?_;unfold S86;try simp only[iZ]
 refine zS ?_;rw[show min w ((4611686018427387903:Nat):Int)=w by omega];refine qy rfl<|qH H rfl λb h2 H2=>qY ⟨b,rfl,H2⟩
theorem qv9 (hn:4≤n) (hs:0≤s.start) (H:HS g h R):af n 26 [.agg (zb s)] h λr h'=>∃p,r=.ptr p 0∧HS g h' (bt p (ja s) (J0 (ja s))::R):=by
 refine ag rfl omQ λk hk=>?_;unfold S26;try simp only[iZ]
 have O:=YL hs;refine qH H rfl λb0 h1 H1=>?_;refine qD H1 .here rfl omQ rfl<|qW (ZQ omQ H1) ?_;rintro _ h2 ⟨rfl,H2⟩;clear H H1;refine qh H2 .here rfl (by simp) rfl λh3 H3=>?_;generalize ja s=S at*;refine qG ?_
 try dsimp only
 refine qD H3 .here rfl omQ rfl<|qQ (qZ H3 .here rfl ?_);refine qW (qv6 omQ O.words H3) ?_;rintro _ h4 ⟨hb,wv,rfl,H4⟩;refine qQ (qZ H4 e_2 rfl ?_);refine qQ (qZ H4 e_2 rfl ?_);refine qW (qwD omQ O.aj O.wide H4) ?_;rintro _ h5 ⟨tb,lv,rfl,H5⟩;refine qQ (qZ H5 e_4 rfl ?_);refine qW (qk5 omQ O.start.2 H5) ?_;rintro _ h6 ⟨cb,rfl,H6⟩;refine qQ (qZ H6 (b:=b0) e_5 rfl ?_);refine qW (qkf omQ O.aF H6) ?_;rintro _ h7 ⟨sb,sv,rfl,H7⟩;refine qy (l:=[.int .i64 S.words,.int .i64 S.aj,.int .i64 S.wide,.int .i64 S.aF,.int .u64 S.start,.ptr hb 0,.ptr tb 0,.ptr cb 0,.ptr sb 0,.int .i64 0]) rfl<|qH H7 rfl λp h8 H8=>?_;refine qu H5 e_4 rfl H6 e_5 rfl (HS.lt H3 .here)<|qu H4 e_2 rfl H5 e_4 rfl (HS.lt H3 .here)<|qu H3 .here rfl H4 e_2 rfl (HS.lt H3 .here)<|qu H4 e_2 rfl H5 e_4 rfl (HS.lt H3 .here)<|qu H3 .here rfl H4 e_2 rfl (HS.lt H3 .here)<|qu H3 .here rfl H4 e_2 rfl (HS.lt H3 .here)<|qu H3 .here rfl H4 e_2 rfl (HS.lt H3 .here)<|zO H6 e_5 rfl H7 e_7 rfl rfl omQ (HS.lt H3 .here)<|zO H5 e_4 rfl H6 e_5 rfl rfl omQ (HS.lt H3 .here)<|zO H4 e_2 rfl H5 e_4 rfl rfl omQ (HS.lt H3 .here)<|zO H3 .here rfl H4 e_2 rfl rfl omQ (HS.lt H3 .here)<|qY ⟨p,rfl,bt.I (hb:=hb) (tb:=tb) (cb:=cb) (sb:=sb) (wv:=wv) (lv:=lv) (sv:=sv) ?_⟩;unfold CG J0;simp only[List.length_replicate];exact H8.pk [0,5,5,3,3,2,0,0] 1
theorem MX {m:Nat} {e:TypeId} {v:AV} {xs:List AV} {R2:List SP} (hn:1≤n) (H:HS g h L) (s:aR L (qF e 1 m v xs) R2) (ha:jV xs=true) (hm:m≤1000000) :
  af n 46 [v] h λr h'=>HS g h' (qF 3 1 m r xs::L):=by
 refine ag rfl omQ λk hk=>?_;unfold S46;try simp only[iZ]
 refine Xo H s (λh1 h2=>?_) (qJ ?_)
 ·subst h1 h2;obtain rfl:xs=[]:=iA (by simpa using H.dl s);exact qX (qY H.ad)
 ·refine qr (l:=[]) H rfl rfl rfl rfl λv2 h2 H2=>?_;refine jh H2 (H2.sl (.there s)) omQ omQ ha λv3 h3 H3=>?_;rw[Nat.zero_add,List.nil_append]at H3;exact qY H3
theorem VB {me:Int} (hn:6≤n) (_:0≤s.start) (H:HS g h R):af n 40 [.int .i64 me,.agg (xC s)] h λr h'=>∃a vb db,r=.ptr a 0∧
  HS g h' (qx a (xP (VW me (ja s) (.aV [] 0)) ⟨.au,.ad,.cN,.au,.au,.au,0,vb,db⟩)::bW db []::ab vb (Vl (ja s).words (ja s).writes)::R):=by
 refine aG rfl omQ λk hk=>?_;unfold S40;try simp only[iZ]
 refine qH H rfl λb0 h1 H1=>?_;refine qD H1 .here rfl omQ rfl<|qW (qjf omQ H1) ?_;rintro _ h2 ⟨rfl,H2⟩;refine qh H2 .here rfl (by simp) rfl λh3 H3=>?_;generalize ja s=S at*;refine qG ?_
 try dsimp only
 refine qD H3 .here rfl omQ rfl<|qQ (qc (qZ H3 .here rfl ?_));refine qQ (qZ H3 .here rfl ?_);refine qW (qg5 omQ H3) ?_;rintro _ h4 ⟨vb,rfl,H4⟩;refine qW (qvl omQ H4) ?_;rintro _ h5 ⟨db,rfl,H5⟩;refine qy rfl<|qH H5 rfl λa h6 H6=>?_;refine zO H4 e_1 rfl H5 e_2 rfl rfl omQ (HS.lt H3 .here)<|zO H3 .here rfl H4 e_1 rfl rfl omQ (HS.lt H3 .here)<|qY ⟨a,vb,db,rfl,H6.pk [0,0,0] 1⟩
theorem qkh {me:Int} {l:List qe} {sv:AV} (hn:10≤n) (hs:0≤s.start) (hc:(yu l).2=0) (S:Rd g R 5 l.length sv (l.flatMap jG)) (H:HS g h R) :
  af n 8 [.int .i64 me,.agg (xC s),.agg [sv]] h λr h'=>∃a,r=.ptr a 0∧HS g h' (ax a (YZ me s l)::R):=by
 refine b8 rfl omQ λk hk=>?_;unfold S8;try simp only
 have hle:=(Kk hc).le;refine qH H rfl λb0 h1 H1=>?_;refine qH H1 (ya (wq (S.sl H))) λb1 h2 H2=>?_;refine qD H2 e_1 rfl omQ rfl<|qW (VB omQ hs H2) ?_;rintro _ h3 ⟨a,vb,db,rfl,H3⟩;refine qD H3 e_3 rfl omQ rfl<|qK (qQ (qZ H3 .here rfl ?_));refine qK (qQ (qc (qZ H3 .here rfl ?_)));refine qW (qga omQ H3 S.more.more.more.more.more omQ) ?_;rintro _ h4 ⟨ib,rfl,H4⟩;refine qK (qQ ?_);refine qw H4 e_1 (x:=.ptr ib 0) ⟨rfl,rfl⟩ (by simp[xP]) λh5 H5=>qY ⟨a,rfl,?_⟩;have hm:UP l=qb l:=by simp_all[UP]
 rw[hm,hc]at H5;refine ax.I (q:=⟨.ptr ib 0,.ad,.cN,.au,.au,.au,0,vb,db⟩) ?_;have H6:=cm.PI (p:=⟨l,XQ,0,0,wz (ja s).fuel⟩) ⟨rfl,rfl,rfl⟩ (H5.ah e_1);have H7:=aL.mg (st:=0) (f:=U1 0 0 0 0 0) (e:=Gf 0 0 []) (c:=none) (iv:=.cN) (fv:=.au) (ev:=.au) od rfl rfl H6;exact H7.pk [2,1,2,1,0] 2
theorem qGB {me:Int} {bs:List Int} {e:TypeId} {sv:AV} {R2:List SP} (hn:8≤n) (hs:0≤s.start) (hb:bs.length≤1000000) (H:HS g h L) (S:aR L (qF e 1 bs.length sv (bs.map (.int .i64))) R2) :
  af n 10 [.int .i64 me,.agg (xC s),sv] h λr h'=>∃a,r=.ptr a 0∧HS g h' (ax a (JW me s bs)::L):=by
 refine b8 rfl omQ λk hk=>?_;unfold S10;try simp only
 refine qH H rfl λb0 h1 H1=>?_;refine qD H1 .here rfl omQ rfl<|qW (VB omQ hs H1) ?_;rintro _ h3 ⟨a,vb,db,rfl,H3⟩;refine qW (MX omQ H3 (.there (.there (.there (.there S)))) (Gu (λ_=>rfl) _) hb) λbv h4 H4=>?_;have o4:=H4.one .here;refine qK (qQ ?_);refine qw H4 e_1 o4 (by simp[xP]) λh5 H5=>qY ⟨a,rfl,?_⟩;refine ax.I (q:=⟨.au,bv,.cN,.au,.au,.au,0,vb,db⟩) ?_;have H6:=cm.SI (vb:=vb) (k:=0) (rv:=.au) (gv:=0) ⟨rfl,rfl⟩ (H5.ah e_1);have H7:=aL.mg (st:=0) (f:=U1 0 0 0 0 0) (e:=Gf 0 0 []) (c:=none) (iv:=.cN) (fv:=.au) (ev:=.au) od rfl rfl H6;exact H7.pk [2,1,2,1,0] 1
section
variable {a:Nat} {x:jd} {q:ZR}
theorem qza (hn:3≤n) (O:zE x) (H:HS g h (ax a x::R)):af n 55 [.ptr a 0] h λr h'=>HS g h' (qF 122 2 x.r.length r (x.r.flatMap xK)::ax a x::R):=by
 refine ag rfl omQ λk hk=>?_;unfold S55;try simp only
 obtain⟨q,H1⟩:=ax.E H;have hr:=O.r;refine qK (qQ (qZ H1 .here rfl ?_));refine qW (OC omQ omQ (H1.ah e_3)) λv h2 H2=>qY<|HS.dh e_1 (ax.I (H2.pk [2,2,2,1,1,0] 0))
theorem qGd (hn:2≤n) (O:zE x) (H:HS g h (ax a x::R)):af n 57 [.ptr a 0] h λr h'=>HS g h' (qF 129 2 x.v.K.length r (x.v.K.flatMap jH)::ax a x::R):=by
 refine ag rfl omQ λk hk=>?_;unfold S57;try simp only
 obtain⟨q,H1⟩:=ax.E H;refine qK (qQ (qZ H1 .here rfl ?_));refine qW (qG7 omQ (H1.ah e_2) O.ap.ok) λv h2 H2=>qY<|HS.dh e_1 (ax.I (H2.pk [2,2,1,1,1,0] 0))
theorem JZ (hn:5≤n) (O:zE x) (H:HS g h (ax a x::R)):af n 88 [.ptr a 0] h λr h'=>r=.bool (z7 x)∧HS g h' (ax a x::R):=by
 refine ag rfl omQ λk hk=>?_;unfold S88;try simp only[iZ]
 obtain⟨q,H1⟩:=ax.E H;refine qW (qX7 omQ H1 .here) ?_;rintro _ _ ⟨rfl,rfl⟩;unfold z7;by_cases c:vi x=2
 ·refine qj c ?_;rw[iG c];refine qG<|qf<|qC ?_
  exact qY ⟨rfl,H⟩
 ·refine qV c ?_;rw[iV c];refine qG<|qM ?_;(try dsimp only)
  refine qW (XI omQ O.c H) ?_;rintro _ h2 ⟨rfl,H2⟩;refine qB<|qY ⟨rfl,H2⟩
theorem NT (hn:1≤n) (H:HS g h L) (s:aR L (qx a (xP x q)) R):af n 33 [.ptr a 0] h λr h'=>r=.bool (Qo x)∧h'=h:=by
 refine ag rfl omQ λk hk=>?_;unfold S33;try simp only[iZ]
 refine qK (qQ (qZ H s rfl ?_));unfold Qo;by_cases c:x.state=8
 ·rw[iV (λh=>h c)];refine q9 c<|qG<|qT<|qB ?_
  exact qY ⟨rfl,rfl⟩
 ·rw[iG (show x.state≠8 from c)];refine jJ c<|qG<|qR<|qK (qQ ?_)
  refine qZ H s rfl<|qC<|qY ⟨rfl,rfl⟩
theorem qVD (hn:11≤n) (O:zE x) (H:HS g h (ax a x::R)):af n 58 [.ptr a 0] h λr h'=>HS g h' (qF 129 2 (vJ x).length r ((vJ x).flatMap jH)::ax a x::R):=by
 refine ag rfl omQ λk hk=>?_;unfold S58;try simp only
 refine qW (JZ omQ O H) ?_;rintro _ h1 ⟨rfl,H1⟩;unfold vJ;cases hc:z7 x with
 |false=>exact jg (qX (qY H1.ad))
 |true=>refine jQ (qJ ?_);obtain⟨q,H2⟩:=ax.E H1;refine qK (qQ (qZ H2 .here rfl ?_));refine qW (Ma omQ (H2.ah e_2) O.ap.ok) λv h3 H3=>qY<|HS.dh e_1 (ax.I (H3.pk [2,2,1,1,1,0] 0))
theorem qGR (hn:6≤n) (O:zE x) (H:HS g h (ax a x::R)):af n 61 [.ptr a 0] h λr h'=>∃e,HS g h' (qF e 1 (yB x).length r ((yB x).map (.int .i64))::ax a x::R):=by
 refine ag rfl omQ λk hk=>?_;unfold S61;try simp only
 refine qW (JZ omQ O H) ?_;rintro _ h1 ⟨rfl,H1⟩;unfold yB;cases hc:z7 x with
 |false=>exact jg (qX (qY ⟨3,H1.ad⟩))
 |true=>
  refine jQ (qJ ?_);rw[iJ rfl];obtain⟨q,H2⟩:=ax.E H1;have hj:=O.aW;cases hx:x.aW with
  |aV bs k=>rw[hx]at hj;obtain⟨e,H3⟩:=cm.S (by rw[← hx];exact H2.ah e_1);have oI:=hj.2;refine qK (qQ (qZ H2 .here (x:=.au) (by rw[← e.1];rfl) ?_));refine qQ8 (qX ?_);refine qK (qQ (qZ H2 (b:=a) .here rfl ?_));refine qW (MX omQ H3 .here (Gu (λ_=>rfl) _) omQ) λv h4 H4=>qY ⟨3,?_⟩;have H5:=cm.SI (vb:=q.vb) (k:=k) e (H4.ah e_1);rw[← hx]at H5;exact HS.dh e_1 (ax.I (q:=q) (H5.pk [2,0,1,1,1,0] 0))
  |prog p=>obtain⟨ib,nx,e,H3⟩:=cm.P (by rw[← hx];exact H2.ah e_1);refine qK (qQ (qZ H2 (b:=a) .here (x:=.ptr ib 0) (by rw[← e.1];rfl) ?_));refine Y3 (qJ ?_);refine qK (qQ (qZ H2 .here rfl ?_));refine qW (qVl omQ (H2.ah e_2) O.ap.ok) λv h4 H4=>qY ⟨3,?_⟩;exact HS.dh e_1 (ax.I (H4.pk [2,2,1,1,1,0] 0))
theorem qVa (hn:8≤n) (O:zE x) (H:HS g h (ax a x::R)):af n 30 [.ptr a 0] h λr h'=>r=.str (JB x)∧HS g h' (ax a x::R):=by
 refine ag rfl omQ λk hk=>?_;unfold S30;try simp only
 refine qW (JZ omQ O H) ?_;rintro _ h1 ⟨rfl,H1⟩;unfold JB;cases hc:z7 x with
 |false=>
  refine jg (qG ?_);refine qf<|qC (qX ?_)
  exact qY ⟨rfl,H1⟩
 |true=>
  refine jQ ?_;rw[iJ rfl];obtain⟨q,H2⟩:=ax.E H1;have hj:=O.aW;cases hx:x.aW with
  |aV bs k=>
   obtain⟨e,H3⟩:=cm.S (by rw[← hx];exact H2.ah e_1);refine qG<|qM<|qK (qQ (qZ ‹_› e_1 rfl ?_))
   rw[e.1];refine qQ8 (qB (qX ?_));exact qY ⟨rfl,H1⟩
  |prog p=>
   rw[hx]at hj;obtain⟨ib,nx,e,H3⟩:=cm.P (by rw[← hx];exact H2.ah e_1);refine qG<|qM<|qK (qQ (qZ ‹_› e_1 rfl ?_))
   rw[e.1];refine Y3 (qB (qJ (qK (qQ (qZ ‹_› e_1 rfl ?_)))));rw[e.1];have ho:=hj.2.2.1.out;refine qW (qGt omQ H3 ho) ?_;rintro _ h4 ⟨o,rfl,H4⟩;refine qW (qgI omQ H4 omQ hj.2.2.1.its) ?_;rintro _ h5 ⟨rfl,H5⟩;refine qY ⟨rfl,ax.I (q:=q) ?_⟩;have H6:=cm.PI (p:=p) e H5.drop;rw[← hx]at H6;exact H6.pk [1,0,0,0,0] 0
end
end
end
section
variable {g h:AH} {L R:List SP}
def Uo (p:QQ) (sp:Int):Prop:=p.fin=0→sp=p.spins∧p.err=0∧p.bM= -1
def zQ (p:QQ) (sp:Int):List AV:=[.int .i64 p.me,.int .i64 sp,.int .i64 p.fin,.int .i64 p.err,.int .i64 p.bM]
section
variable {n b:Nat} {p:QQ} {sp:Int} {ys:List AV} {l:dI} {a:cT}
theorem KE (hn:1≤n) (hp:p.fin=0) (Q:Uo p sp) (hs:0≤p.spins∧p.spins≤4) (H:HS g h (qx b (zQ p sp++ys)::R)) :
  af n 130 [.ptr b 0,.agg (jS l)] h λr h'=>∃e8,r=.bool (jX p l).1∧Uo (if(jX p l).1=true then(jX p l).2 else jc (jX p l).2 5 0 l.2.2) e8∧
   HS g h' (qx b (zQ (if(jX p l).1=true then(jX p l).2 else jc (jX p l).2 5 0 l.2.2) e8++ys)::R):=by
 refine aG rfl omQ λk hk=>?_;unfold S130;try simp only[iZ]
 obtain⟨e1,e2,e3⟩:=Q hp;subst e1;refine qH H rfl λb0 h1 H1=>?_;refine qQ (qZ H1 .here rfl ?_);refine qK (qQ (qZ H1 e_1 rfl ?_));unfold jX;by_cases c1:p.me<l.2.2
 ·rw[iJ c1];refine zv c1 (qX (qY ⟨p.spins,rfl,Q,H1.drop⟩))
 ·rw[iQ c1];refine zV c1 (qJ ?_);refine qK (qQ (qZ H1 e_1 rfl ?_));by_cases c2:0<p.spins
  ·have hd:decide (0≤p.spins-1)=true:=iG omQ;refine zv c2 (qX ?_);refine qK (qQ (qZ H1 e_1 rfl ?_));refine jK omQ<|qK (qQ ?_);refine qw H1 e_1 ⟨rfl,rfl⟩ (by simp[zQ]) λh2 H2=>?_;rw[iJ hd];exact qY ⟨p.spins-1,by rw[hd],λ_=>⟨rfl,e2,e3⟩,H2.pk [0] 1⟩
  ·have hd:decide (0≤p.spins-1)=false:=iV omQ;refine zV c2 (qJ ?_);refine qG ?_
   try dsimp only
   refine qQ (qZ H1 .here rfl ?_);refine qK (qQ ?_);refine qw H1 e_1 ⟨rfl,rfl⟩ (by simp[zQ]) λh2 H2=>?_;refine qK (qQ ?_);refine qw H2 .here ⟨rfl,rfl⟩ (by simp[zQ]) λh3 H3=>?_;refine qu H1 .here rfl H2 e_1 rfl (HS.lt H1 .here) ?_;rw[iQ (by grind)];refine qY ⟨p.spins,by rw[hd],λh=>(by cases h),?_⟩;have H4:=H3.sub (L':=qx b _::R) (.cons .here (.drop .refl));grind[zQ,jc]
theorem Xs (hn:1≤n) (hp:p.fin=0) (Q:Uo p sp) (H:HS g h (qx b (zQ p sp++ys)::R)) :
  af n 67 [.ptr b 0,.agg (jI a)] h λr h'=>∃e8,r=.bool (qo p a).1∧Uo (qo p a).2 e8∧HS g h' (qx b (zQ (qo p a).2 e8++ys)::R):=by
 refine aG rfl omQ λk hk=>?_;unfold S67;try simp only[iZ]
 obtain⟨e1,e2,e3⟩:=Q hp;refine qH H rfl λb0 h1 H1=>?_;unfold qo;refine jq [] (λz h'=>z=(.ptr b0 0,())∧∃e8,Uo (if p.fin=0∧a.err≠0 then(true,jc p 4 a.err (-1))else(decide (p.fin≠0),p)).2 e8∧HS g h' (qx b0 (jI a)::qx b (zQ (if p.fin=0∧a.err≠0 then(true,jc p 4 a.err (-1))else(decide (p.fin≠0),p)).2 e8++ys)::R)) (λj hj=>?_) ?_
 ·refine qQ (qZ H1 .here rfl ?_);by_cases c:a.err=0
  ·rw[iQ (λh=>h.2 c)]at hj ⊢;exact q9 c (qJ (hj _ _ ⟨rfl,sp,Q,H1⟩))
  ·rw[iJ ⟨hp,c⟩]at hj ⊢;refine jJ c (qX ?_);refine qG ?_
   try dsimp only
   refine qQ (qZ H1 .here rfl ?_);refine qK (qQ ?_);refine qw H1 e_1 ⟨rfl,rfl⟩ (by simp[zQ]) λh2 H2=>?_;refine qK (qQ ?_);refine qw H2 .here ⟨rfl,rfl⟩ (by simp[zQ]) λh3 H3=>?_;refine qu H1 .here rfl H2 e_1 rfl (HS.lt H1 .here)<|hj _ _ ⟨rfl,sp,λh=>(by cases h),?_⟩;rw[show zQ (jc p 4 a.err (-1)) sp=[.int .i64 p.me,.int .i64 sp,.int .i64 4,.int .i64 a.err,.int .i64 p.bM] by rw[e3];rfl];exact H3.pk [1,0] 0
 rintro _ h4 ⟨rfl,e8,Q',H4⟩;refine qQ (qZ H4 .here rfl ?_);by_cases c:a.err=0
 ·rw[iQ (λh=>h.2 c)]at Q' H4 ⊢;exact q9 c (qg (qY ⟨e8,by grind,Q',H4.drop⟩))
 ·rw[iJ ⟨hp,c⟩]at Q' H4 ⊢;exact jJ c (qg (qY ⟨e8,rfl,Q',H4.drop⟩))
theorem Yi {me spins:Int} (hn:2≤n) (H:HS g h R):af n 226 [.int .i64 me,.int .i64 spins] h λr h'=>r=.agg (zQ (J8 me spins) (J8 me spins).spins)∧HS g h' R:=by
 refine aG rfl omQ λk hk=>?_;unfold S226;try simp only[iZ]
 refine qH H rfl λb0 h1 H1=>?_;refine qW (gD omQ omQ) ?_;rintro _ _ ⟨rfl,rfl⟩;refine qy rfl<|qh H1 .here rfl (by simp) rfl λh2 H2=>?_;refine qD H2 .here rfl omQ rfl<|qY ⟨rfl,H2.drop⟩
end
def vR (f:kT) (sp:Int):List AV:=zQ f.p sp++[.int .i64 f.at_,.int .i64 f.ca,.int .u64 f.ak,.int .i64 f.state,.int .u64 f.lk.1,.bool f.lk.2.1,.int .i64 f.lk.2.2,.int .u64 f.word]
def bJ (b:Nat) (f:kT):SP:=.ex λsp:Int=>.all [.di (Uo f.p sp),qx b (vR f sp)]
section
variable {n b:Nat} {f:kT} {a:cT}
theorem bJ.E (H:HS g h (bJ b f::R)):∃sp,Uo f.p sp∧HS g h (qx b (vR f sp)::R):=by obtain⟨sp,H⟩:=H.dj;exact⟨sp,H.bS.cX⟩
theorem bJ.I {sp:Int} (Q:Uo f.p sp) (H:HS g h (qx b (vR f sp)::R)):HS g h (bJ b f::R):=HS.dE sp (HS.allI (HS.dF Q H))
theorem qJs {me at_ ca spins ak:Int} (hn:3≤n) (H:HS g h R):af n 181 [.int .i64 me,.int .i64 at_,.int .i64 ca,.int .i64 spins,.int .u64 ak] h λr h'=>∃b,r=.ptr b 0∧HS g h' (bJ b (U1 me at_ ca spins ak)::R):=by
 refine Fm rfl omQ λk hk=>?_;unfold S181;try simp only[iZ]
 refine qW (Yi omQ H) ?_;rintro _ h0 ⟨rfl,H⟩;refine qy rfl<|qH H rfl λb h1 H1=>?_;exact qY ⟨b,rfl,bJ.I (λ_=>⟨rfl,rfl,rfl⟩) H1⟩
theorem qQ4 (hn:1≤n) (hf:f.p.fin=0) (H:HS g h (bJ b f::R)):af n 47 [.ptr b 0] h λz h'=>some z=(QJ f).map (λo=>.agg (jn o))∧HS g h' (bJ b f::R):=by
 refine ag rfl omQ λk hk=>?_;unfold S47;try simp only[iZ]
 obtain⟨sp,Q,H0⟩:=bJ.E H;refine qH H0 rfl λb0 h1 H1=>?_;have fin:∀{o:dR},QJ f=some o→wp (qn h1 (.ptr b0 0) (.agg (jn o)) 10 λh'=>q8 h' (.ptr b0 0) 10 λv=>some (v,h')) (λz h'=>some z=(QJ f).map (λo=>.agg (jn o))∧HS g h' (bJ b f::R)):=λ{o} e=>by
  refine qh H1 .here rfl (by simp) rfl λh2 H2=>?_;refine qD H2 .here rfl omQ rfl (qY ⟨by rw[e];rfl,bJ.I Q H2.drop⟩)
 have hN:QJ f=if f.state=1 then some (ck 1 f.at_ 0)else some (ck 3 f.ca 0):=by simp_all[QJ]
 refine qK (qQ (qZ H1 e_1 rfl ?_));by_cases c:f.state=1
 ·rw[iJ c]at hN;refine qj c (qX ?_);refine qK (qQ (qZ H1 e_1 rfl ?_));refine qy rfl<|fin hN
 ·rw[iQ c]at hN;refine qV c (qJ ?_);refine qK (qQ (qZ H1 e_1 rfl ?_));refine qy rfl<|fin hN
theorem qGe (hn:2≤n) (hf:f.p.fin=0) (hs:0≤f.p.spins∧f.p.spins≤4) (H:HS g h (bJ b f::R)):af n 69 [.ptr b 0,.agg (jI a)] h λ_ h'=>HS g h' (bJ b (xQ f a)::R):=by
 (refine qE rfl omQ λk hk=>?_;show wp (S69 (callT tab qv k) _ _ _) _;unfold S69;try simp only[iI,iZ])
 obtain⟨sp,Q,H0⟩:=bJ.E H;refine qH H0 rfl λb0 h1 H1=>?_;refine qK (qQ (qc (qZ H1 e_1 rfl ?_)));refine q9 hf<|qG ?_
 try dsimp only
 refine qM (qK (qQ ?_));refine qD H1 .here rfl omQ rfl<|qW (Xs (sp:=sp) (ys:=(vR f sp).drop 5) omQ hf Q (H1.ah e_1)) ?_;rintro _ h2 ⟨e8,rfl,Q',H2⟩;refine qB ?_;unfold xQ;by_cases he:a.err=0
 ·have e0:qo f.p a=(false,f.p):=by
   simp_all[qo,iV]
  rw[e0]at Q' H2 ⊢;obtain⟨q1,q2,q3⟩:=Q' hf;subst q1;rw[iQ aA];refine qJ (qK (qQ (qZ H2 .here rfl ?_)));by_cases c1:f.state=1
  ·rw[iJ c1];refine qj c1 (qX ?_);refine qQ (qZ H2 e_1 rfl ?_);refine qK (qQ ?_);refine qw H2 .here ⟨rfl,rfl⟩ (by simp[vR,zQ]) λh3 H3=>?_;refine qK (qQ ?_);refine qw H3 .here ⟨rfl,rfl⟩ (by simp[vR,zQ]) λh4 H4=>qY<|bJ.I Q' (H4.pk [0] 1)
  rw[iQ c1];refine qV c1 (qJ ?_);refine qK (qQ (qZ H2 .here rfl ?_));refine gc (gS (λz g'=>g'=h2∧∃u:AV,z=(u,.bool (decide (f.state=((2:Nat):Int))),.ptr b0 0,.ptr b 0,())∧(f.state=((2:Nat):Int)→u=.bool (decide (a.lk=f.lk)))) (λj hj=>?_) ?_)
  ·refine Qn (λc2=>?_) (λc2=>?_)
   ·refine qQ (qD H2 e_1 rfl omQ rfl ?_);refine qK (qQ (qD H2 .here rfl omQ rfl ?_));exact G3 (I4 _ _) (λc3=>hj _ _ ⟨rfl,_,rfl,λ_=>by grind⟩) (λc3=>hj _ _ ⟨rfl,_,rfl,λ_=>by grind⟩)
   ·exact hj _ _ ⟨rfl,_,rfl,λh=>absurd h c2⟩
  rintro _ _ ⟨rfl,u,rfl,hu⟩;by_cases DJ:f.state=2∧a.lk=f.lk
  ·rw[iJ DJ,iG (show f.state=((2:Nat):Int)from DJ.1),hu DJ.1,iG DJ.2];refine qC (qX ?_);refine qK (qQ (qc ?_));refine qw H2 .here ⟨rfl,rfl⟩ (by simp[vR,zQ]) λh3 H3=>qY<|bJ.I (sp:=f.p.spins) (λh=>(by cases h)) ?_;have e:vR { f with p:=jc f.p 2 0 (-1) } f.p.spins=(vR f f.p.spins).set 2 (.int .i64 2):=by
    grind[vR,zQ,jc]
   rw[e];exact H3.pk [0] 1
  ·rw[iQ DJ];have hpk:∀{K:AV→Go.Ae.R} {Q:AV→AH→Prop},wp (K (.bool false)) Q→wp (zo (.bool (decide (f.state=((2:Nat):Int)))) u (.bool false) K) Q:=λ{K Q} w=>by
    by_cases c2:f.state=((2:Nat):Int)
    ·rw[iG c2,hu c2,iV (λh=>DJ ⟨c2,h⟩)];exact qC w
    ·rw[iV c2];exact qB w
   refine hpk (qJ ?_);refine qK (qQ ?_);refine qw H2 .here ⟨rfl,rfl⟩ (by simp[vR,zQ]) λh3 H3=>?_;refine qG ?_
   try dsimp only
   refine qQ (qc (qZ H3 e_1 rfl ?_));unfold QI;cases hh:a.lk.2.1 with
   |true=>
    refine qX ?_;rw[iJ rfl];refine qK (qQ ?_);refine qQ (qD H3 e_1 rfl omQ rfl ?_);refine qW (KE (sp:=f.p.spins) (ys:=(vR { f with state:=0 } f.p.spins).drop 5) omQ hf Q' hs H3) ?_;rintro _ h4 ⟨e8,rfl,Q4,H4⟩;refine qg (qY ?_);by_cases hw:(jX f.p a.lk).1=true
    ·rw[iJ hw]at Q4 H4 ⊢;exact bJ.I Q4 (H4.pk [0] 1)
    ·rw[iQ hw]at Q4 H4 ⊢;exact bJ.I Q4 (H4.pk [0] 1)
   |false=>
    refine qJ ?_;rw[iQ od];refine qQ (qc (qZ H3 e_1 rfl ?_));refine qK (qQ (qZ H3 .here rfl ?_));by_cases cs:f.ak<a.lk.1
    ·rw[iJ cs];refine zv cs (qX ?_);refine qK (qQ (qc ?_));refine qw H3 .here ⟨rfl,rfl⟩ (by simp[vR,zQ]) λh4 H4=>qg (qY ?_);refine bJ.I (sp:=f.p.spins) (λh=>(by cases h)) ?_;have e:vR { f with state:=0,p:=jc f.p 6 0 (-1) } f.p.spins=(vR { f with state:=0 } f.p.spins).set 2 (.int .i64 6):=by
      grind[vR,zQ,jc]
     rw[e];exact H4.pk [0] 1
    ·rw[iQ cs];refine zV cs (qJ ?_);refine qQ (qD H3 e_1 rfl omQ rfl ?_);refine qK (qQ ?_);refine qh H3 .here rfl (by simp[vR,zQ]) rfl λh4 H4=>?_;have H4:HS g h4 (qx b (vR { f with lk:=a.lk,state:=0 } f.p.spins)::qx b0 (jI a)::R):=H4;refine qK (qQ ?_);refine qw H4 .here ⟨rfl,rfl⟩ (by simp[vR,zQ]) λh5 H5=>qg (qY ?_);exact bJ.I (sp:=f.p.spins) Q' (H5.pk [0] 1)
 ·have e0:qo f.p a=(true,jc f.p 4 a.err (-1)):=by
   simp_all[qo]
  rw[e0]at Q' H2 ⊢;rw[iJ rfl];refine qX (qY ?_);exact bJ.I Q' (H2.pk [0] 1)
end
end
section
variable {g h:AH} {L R:List SP}
def xO (c:zG):Int:=if c.state≤1 then(c.az.length:Int)else if c.state≤3 then 0 else c.at_
structure XS where
  sp:Int
  ph:Int
  at_:Int
  t:Int
  z:Int×Int×Int
  sv:AV
  cv:AV
  tv:AV
  wv:AV
structure J1 (c:zG) (q:XS):Prop where
  p:c.p.fin=0→(c.state≤6→q.sp=c.p.spins)∧c.p.err=0∧c.p.bM= -1
  ph:c.p.fin=0→q.ph=c.state∧q.at_=xO c
  z:c.p.fin=0→c.state=7→q.z=(c.bE,c.fJ,c.pF)
  f7:c.state=7→c.bE≠2
  a3:c.state≤3→c.at_=0
  t:3≤c.state→c.state≤6→q.t=c.now
  w:c.p.fin=0∨c.p.fin=2→(c.writing=true↔c.p.fin=2∨c.state=5∨c.state=6)
def xX (c:zG) (q:XS):List AV:=zQ c.p q.sp++[.int .u64 c.ak,q.sv,q.cv,q.tv,q.wv,.int .u64 c.lk.1,.bool c.lk.2.1,.int .i64 c.lk.2.2,.int .i64 q.ph,.int .i64 q.at_,.int .u64 q.t,.int .i64 q.z.1,.int .i64 q.z.2.1,.int .i64 q.z.2.2]
abbrev yQ (b:Nat) (c:zG) (q:XS) (R:List SP):List SP :=
 qx b (xX c q)::qF 122 2 c.seen.length q.sv (c.seen.flatMap xK)::qF 129 2 c.cells.length q.cv (c.cells.flatMap jH)::qF 3 1 c.s.length q.tv (c.s.map (.int .i64))::qF 54 3 c.az.length q.wv (c.az.flatMap jS)::R
def bN (b:Nat) (c:zG):SP:=.ex λq:XS=>.all (.di (J1 c q∧c.p.me=c.me)::yQ b c q [])
section
variable {n b:Nat} {c:zG} {q:XS}
theorem bN.E (H:HS g h (bN b c::R)):∃q,J1 c q∧c.p.me=c.me∧HS g h (yQ b c q R):=by obtain⟨q,H⟩:=H.dj;obtain⟨r,H⟩:=H.bS.cX;exact⟨q,r.1,r.2,H⟩
theorem bN.I (r:J1 c q) (hm:c.p.me=c.me) (H:HS g h (yQ b c q R)):HS g h (bN b c::R):=HS.dE q (HS.allI (HS.dF ⟨r,hm⟩ H))
def K3 (g:AH) (b:Nat) (c:zG) (R:List SP) (h':AH):Prop:=∃q,J1 c q∧HS g h' (yQ b c q R)
structure pJ (c:zG) (q:XS):Prop where
  sp:q.sp=c.p.spins
  fin:c.p.fin=0
  err:c.p.err=0
  bM:c.p.bM= -1
theorem M8 (hn:1≤n) (P:pJ c q) (qt:q.t=c.now) (hw:c.writing=true) (ht:0<c.s.length) (hl:c.s.length≤1000) (H:HS g h (yQ b c q R)) :
  af n 137 [.ptr b 0] h λ_ h'=>K3 g b (yU { c with at_:=0,state:=6 }) R h':=by
 refine ag rfl omQ λk hk=>?_;unfold S137;try simp only[iZ]
 have e:yU { c with at_:=0,state:=6 }={ c with at_:=0,state:=6 }:=by simp[yU];omega
 rw[e];unfold yQ xX zQ at H;refine qK (qQ (qw H .here ⟨rfl,rfl⟩ aA λh2 H2=>?_));refine qK (qQ (qw H2 .here ⟨rfl,rfl⟩ aA λh3 H3=>?_));refine qK (qQ (qZ H3 .here rfl ?_));refine qd H3 e_3<|qV omQ (qJ ?_);exact qY ⟨{ q with ph:=6,at_:=0 },⟨λ_=>⟨λ_=>P.sp,P.err,P.bM⟩,λ_=>⟨rfl,rfl⟩,λ_ h=>(by grind),λh=>(by grind),λh=>absurd h (by simp),λ_ _=>qt,λ_=>⟨λ_=>.inr (.inr rfl),λ_=>hw⟩⟩,H3⟩
theorem Ud (hn:2≤n) (P:pJ c q) (qt:q.t=c.now) (ht:0<c.s.length) (hl:c.s.length≤1000) (H:HS g h (yQ b c q R)) :
  af n 135 [.ptr b 0] h λ_ h'=>K3 g b (vn c) R h':=by
 refine ag rfl omQ λk hk=>?_;unfold S135;try simp only[iZ]
 unfold vn yw;unfold yQ xX zQ at H;refine qK (qQ (qw H .here ⟨rfl,rfl⟩ aA λh2 H2=>?_));refine qK (qQ (qw H2 .here ⟨rfl,rfl⟩ aA λh3 H3=>?_));refine qK (qQ (qZ H3 .here rfl ?_));refine qd H3 (v:=q.cv) e_2 ?_;by_cases c0:c.cells.length=0
 ·refine qj omQ (qX ?_);rw[iJ (by grind)];refine qW (M8 (c:={ c with writing:=true,at_:=0,state:=5 }) (q:={ q with ph:=5,at_:=0 }) omQ ⟨P.sp,P.fin,P.err,P.bM⟩ qt rfl ht hl H3) λ_ h4 H4=>qY H4
 ·refine qV omQ (qJ ?_);rw[iQ (by grind)];exact qY ⟨{ q with ph:=5,at_:=0 },⟨λ_=>⟨λ_=>P.sp,P.err,P.bM⟩,λ_=>⟨rfl,rfl⟩,λ_ h=>(by grind),λh=>(by grind),λh=>absurd h (by simp),λ_ _=>qt,λ_=>⟨λ_=>.inr (.inl rfl),λ_=>rfl⟩⟩,H3⟩
theorem GH {p1:QQ} {f e y:Int} (hn:1≤n) (hm:p1.me=c.p.me) (P:c.p.fin=0∧c.p.err=0∧c.p.bM= -1) (hf:f≠0∧f≠2) (hw:c.writing=false) (hl:c.az.length≤1000) (H:HS g h (yQ b { c with p:=p1 } q R)) :
  af n 134 [.ptr b 0,.int .i64 f,.int .i64 e,.int .i64 y] h λ_ h'=>K3 g b (gK c f e y) R h':=by
 refine ra rfl omQ λk hk=>?_;unfold S134;try simp only[iZ]
 unfold gK yv;unfold yQ xX zQ at H;dsimp only at H;rw[hm]at H;refine qK (qQ (qQ (qw H .here ⟨rfl,rfl⟩ aA λh2 H2=>?_)));refine qK (qQ (qQ (qw H2 .here ⟨rfl,rfl⟩ aA λh3 H3=>?_)));refine qK (qQ (qQ (qw H3 .here ⟨rfl,rfl⟩ aA λh4 H4=>?_)));refine qK (qQ (qZ H4 .here rfl ?_));refine qd H4 e_4 ?_;by_cases c0:c.az.length=0
 ·refine zV omQ (qJ ?_);rw[iJ (by grind)];exact qY ⟨q,⟨λh=>absurd h hf.1,λh=>absurd h hf.1,λh=>absurd h hf.1,λ_=>hf.2,λh=>absurd h (by simp),λ_ h=>absurd h (by simp),λh=>(by rcases h with h |h<;>first |exact absurd h hf.1 |exact absurd h hf.2)⟩,H4⟩
 ·refine zv omQ (qX ?_);rw[iQ (by grind)];refine qK (qQ (qw H4 .here ⟨rfl,rfl⟩ aA λh5 H5=>?_));refine qK (qQ (qw H5 .here ⟨rfl,rfl⟩ aA λh6 H6=>?_));refine qK (qQ (qw H6 .here ⟨rfl,rfl⟩ aA λh7 H7=>?_));refine qK (qQ (qQ (qw H7 .here ⟨rfl,rfl⟩ aA λh8 H8=>?_)));refine qK (qQ (qQ (qw H8 .here ⟨rfl,rfl⟩ aA λh9 H9=>?_)));refine qK (qQ (qQ (qw H9 .here ⟨rfl,rfl⟩ aA λdK cC=>?_)));refine qK (qQ (qw cC .here ⟨rfl,rfl⟩ aA λbY dv=>?_));refine qK (qQ (qw dv .here ⟨rfl,rfl⟩ aA λeY dU=>?_));have uk:(c.writing=true↔c.p.fin=2∨(7:Int)=5∨(7:Int)=6):=by
   grind
  refine qY ⟨{ q with ph:=7,at_:=0,z:=(f,e,y) },⟨λ_=>⟨λh=>absurd h (by simp),P.2.1,P.2.2⟩,λ_=>⟨rfl,rfl⟩,λ_ _=>rfl,λ_=>hf.2,λh=>absurd h (by simp),λ_ h=>absurd h (by simp),λ_=>uk⟩,?_⟩;simp_all[yQ,xX,zQ]
end
end
section
variable {g h:AH} {L R:List SP}
section
variable {c:zG} {a:cT}
abbrev Kx (c d:zG):Prop:=d.p.me=c.p.me∧d.me=c.me
theorem qKf:Kx c (yU c):=by unfold yU;split<;>exact⟨rfl,rfl⟩
theorem OR:Kx c (yw c):=by unfold yw;split;exact qKf;omega
theorem UI:Kx c (vn c):=OR
theorem qQm:Kx c (yv c):=by unfold yv;split<;>exact⟨rfl,rfl⟩
theorem Ux {f e y:Int}:Kx c (gK c f e y):=qQm
theorem Z3 {p:QQ} {l:dI}:(jX p l).2.me=p.me:=by grind[jX]
theorem qXt {l:dI}:Kx c (yo c l):=by
 unfold yo
 split
 ·exact⟨Z3,rfl⟩
 grind[Ux,Z3]
theorem ML:∀(n:Nat) {c:zG},Kx c (xo c n)
 | 0,_=>UI
 |n+1,c=>by
  unfold xo
  split
  ·split
   ·omega
   ·split
    ·exact Ux
    ·exact ML n (c:={ c with at_:=c.at_+1 })
  ·exact UI
theorem qkH (hm:c.p.me=c.me):(zD c a).p.me=(zD c a).me:=by
 suffices h:Kx c (zD c a) by grind
 have key:∀{d e:zG},Kx d e→Kx c d→Kx c e:=λh1 h2=>⟨h1.1.trans h2.1,h1.2.trans h2.2⟩;have prv:∀{d:zG},Kx c d→Kx c (gC d):=λh=>key (ML _) (key ⟨rfl,rfl⟩ h);unfold zD
 repeat' split
 ·refine⟨?_,rfl⟩;unfold qo
  split<;>rfl
 ·unfold gW
  repeat' split
  ·exact qXt
  all_goals trivial
 ·unfold vo
  repeat' split
  ·exact Ux
  ·grind
  ·grind
  ·exact UI
  grind
 ·unfold yR
  repeat' split
  ·exact qXt
  ·exact Ux
  grind
 all_goals grind[OR,qKf,qQm]
end
section
variable {n b:Nat} {c:zG} {q:XS} {a:cT}
theorem qYu {x:Int} (hn:1≤n) (hl:c.az.length≤c.s.length) (hs:c.s.length≤1000) (H:HS g h (yQ b c q R)) :
  af n 187 [.ptr b 0,.int .i64 x] h λr h'=>r=.bm [.int .u64 ((KH c.s c.az x).getD 0),.bool (KH c.s c.az x).isSome]∧h'=h:=by
 refine aG rfl omQ λk hk=>?_;unfold S187;try simp only[iZ]
 have H1:=H;unfold yQ xX zQ at H1;have e0:KH (c.s.drop 0) (c.az.drop 0) x=KH c.s c.az x:=rfl;generalize KH c.s c.az x=FF at e0 ⊢;refine jF (λm s h'=>∃i:Nat,s=(.int .i64 (i:Int),.int .i64 x,.ptr b 0,())∧i≤c.az.length∧m=c.az.length-i∧KH (c.s.drop i) (c.az.drop i) x=FF∧h'=h)
  ?_ (m:=c.az.length) omQ ⟨0,rfl,by omega,by rfl,e0,rfl⟩
 rintro m ih s h2 aY ⟨i,rfl,hi,rfl,hb,rfl⟩;refine qK (qQ (qZ ‹_› .here rfl ?_));refine qd ‹_› e_4 ?_;by_cases ae:i<c.az.length
 ·refine jB omQ (qX ?_);have e1:c.s.drop i=qP c.s i::c.s.drop (i+1):=by
   rw[List.drop_eq_getElem_cons omQ]
   congr 1
   unfold qP;grind
  have e2:c.az.drop i=yP c.az i::c.az.drop (i+1):=by
   rw[List.drop_eq_getElem_cons omQ]
   congr 1
   unfold yP;grind
  rw[e1,e2]at hb;unfold KH at hb;refine qK (qQ (qZ ‹_› .here rfl ?_));refine jN (H.sl e_3) (x:=.int .i64 (qP c.s i)) (by rw[List.getElem?_map,yS omQ];rfl) ?_;by_cases hy:qP c.s i=x
  ·refine qj hy ?_;rw[iJ hy]at hb;refine qX (qK (qQ (qZ ‹_› .here rfl ?_)));refine jU (f:=0) (x:=.int .u64 (yP c.az i).1) (H.sl e_4) omQ ae ?_ ?_
   ·have:=congrArg (·[0]?) (JN ae);simp only[List.getElem?_take_of_lt (show 0<3 by omega),List.getElem?_drop]at this;trivial
   refine qg ?_;rw[← hb];exact qY ⟨rfl,rfl⟩
  ·refine qV hy ?_;rw[iQ hy]at hb;refine qJ (qS omQ ?_);exact aY (c.az.length-(i+1)) _ _ omQ ⟨i+1,rfl,by omega,rfl,hb,rfl⟩
 ·refine jk omQ (qJ ?_);obtain rfl:i=c.az.length:=by omega
  rw[List.drop_of_length_le (Nat.le_refl c.az.length)]at hb;refine qg ?_;rw[← hb];have e:∀s:List Int,KH s [] x=none:=λs=>by cases s<;>rfl
  rw[e];exact qY ⟨rfl,rfl⟩
theorem ND (hn:3≤n) (O:ComL c) (hw:c.az.length=c.s.length) (P:pJ c q) (qt:q.t=c.now) (wf:c.writing=false) (qp:q.ph=4) (qa:q.at_=c.at_) (ha:c.at_≤c.seen.length) (H:HS g h (yQ b c q R)) :
  af n 136 [.ptr b 0] h λ_ h'=>K3 g b (gC c) R h':=by
 refine ag rfl omQ λk hk=>?_;unfold S136;try simp only[iZ]
 generalize hF:gC c=F;unfold gC at hF;have l1:=O.seen;have l2:=O.s;have l3:=O.pos;have l4:=O.lo;obtain⟨SF,qph,qat,SG,qz,SH,SJ,SK,SN⟩:=q;dsimp only at qp qa qt;subst qp qa;refine jF (λm s h'=>s=(.ptr b 0,())∧∃a:Int,xo { c with state:=4,at_:=a } m=F∧0≤a∧a≤c.seen.length∧c.seen.length<a+m∧HS g h' (yQ b c ⟨SF,4,a,SG,qz,SH,SJ,SK,SN⟩ R))
  ?_ omQ ⟨rfl,c.at_,hF,l4,ha,by omega,H⟩
 clear H hF;rintro m ih s h3 aY ⟨rfl,a,hF,ha0,ha,hm,H⟩;obtain⟨m,rfl⟩:∃k,m=k+1:=⟨m-1,by omega⟩;unfold xo at hF;dsimp only at hF;have H1:=H;unfold yQ xX zQ at H1;dsimp only at H1;refine qK (qQ (qZ ‹_› .here rfl ?_));refine qK (qQ (qZ ‹_› .here rfl ?_));refine qd ‹_› e_1 ?_;by_cases ae:a<c.seen.length
 ·refine jB ae ?_;rw[iJ ae]at hF;obtain⟨k,rfl⟩:∃k:Nat,a=k:=⟨a.toNat,by omega⟩;refine qX (qK (qQ (qZ ‹_› .here rfl ?_)));refine qK (qQ (qZ ‹_› .here rfl ?_));refine jU (H.sl e_1) omQ omQ (yt omQ).1<|qW (qYu omQ omQ omQ H) ?_;rintro _ _ ⟨rfl,rfl⟩;cases ho:KH c.s c.az (zL c.seen k).1 with
  |none=>
   rw[ho]at hF;dsimp only at hF;subst hF;refine qA rfl<|qA rfl ?_;have uk:(c.writing=true↔c.p.fin=2∨(4:Int)=5∨(4:Int)=6):=by rw[wf,P.fin];simp
   exact qY ⟨⟨SF,4,(k:Int),SG,qz,SH,SJ,SK,SN⟩,⟨λ_=>⟨λ_=>P.sp,P.err,P.bM⟩,λ_=>⟨rfl,rfl⟩,λ_ h=>(by grind),λh=>(by grind),λh=>absurd h (by simp),λ_ _=>qt,λ_=>uk⟩,H⟩
  |some v=>
   rw[ho]at hF;dsimp only at hF;refine qA rfl (qA rfl (jQ (qJ ?_)));refine qK (qQ (qZ ‹_› .here rfl ?_));refine qK (qQ (qZ ‹_› .here rfl ?_));refine jU (H.sl e_1) omQ (by grind) (yt (by grind)).2 ?_;by_cases hv:v=(zL c.seen k).2
   ·refine q9 hv ?_;rw[iQ (λh=>h hv)]at hF;refine qJ (qK (qQ (qZ ‹_› .here rfl ?_)));refine qS omQ<|qK (qQ (qw H1 .here ⟨rfl,rfl⟩ aA λh4 H4=>?_));exact aY m _ _ omQ ⟨rfl,(k:Int)+1,hF,by omega,by omega,by omega,H4⟩
   ·refine jJ hv ?_;rw[iJ hv]at hF;subst hF;refine qX (qW (GH (c:={ c with state:=4,at_:=(k:Int) }) (p1:=c.p) omQ rfl ⟨P.fin,P.err,P.bM⟩ ⟨by simp,by simp⟩ wf (by grind) H) λ_ h4 H4=>?_);refine qg<|qY H4
 ·refine jk ae ?_;rw[iQ ae]at hF;subst hF;refine qJ (qW (Ud (c:={ c with state:=4,at_:=a }) (q:=⟨SF,4,a,SG,qz,SH,SJ,SK,SN⟩) omQ ⟨P.sp,P.fin,P.err,P.bM⟩ qt l3 (by grind) H) λ_ h4 H4=>?_);refine qg<|qY H4
end
end
section
variable {g h:AH} {L R:List SP}
theorem qxS {n:Nat} {p a w:Int} (hn:2≤n) (hp:p<4611686018427387904):af n 182 [.int .i64 p,.int .i64 a,.int .i64 w] h λr h'=>r=.int .i64 (ofM p a w)∧h'=h:=by
 refine b8 rfl omQ λk hk=>?_;unfold S182;try simp only[iZ]
 unfold ofM;by_cases c:p<0
 ·refine jB c (qX ?_);rw[iJ c];exact qY ⟨rfl,rfl⟩
 ·refine jk c (qJ ?_);rw[iQ c];refine qW (gD omQ omQ) ?_;rintro _ _ ⟨rfl,rfl⟩;refine Pp omQ ?_;have h1:p.tdiv (max ((1:Nat):Int) (min w ((16:Nat):Int)))=p/max 1 (min w 16):=Int.tdiv_eq_ediv_of_nonneg omQ;have h2:0≤p/max 1 (min w 16):=Int.ediv_nonneg omQ omQ;have h3:p/max 1 (min w 16)≤p:=Int.ediv_le_self _ omQ;rw[h1,Md omQ];refine qW (gD omQ omQ) ?_;rintro _ _ ⟨rfl,rfl⟩;refine ga omQ ?_;rw[Int.tmod_eq_emod_of_nonneg h2];exact qY ⟨rfl,rfl⟩
def u9 (cs:List Cl) (a w:Int):List AV:=(List.range 16).map λi:Nat=>.bool (cs.any λc=>decide (ofM c.1 a w=(i:Int)))
theorem OQ {cs:List Cl} {a w:Int} {i:Nat} (hi:i<16):(u9 cs a w)[i]? =some (.bool (cs.any λc=>decide (ofM c.1 a w=(i:Int)))):=by simp_all[u9]
theorem UJ {cs:List Cl} {a w:Int}:(u9 cs a w).length=16:=by rfl
theorem qkT {cs:List Cl} {c:Cl} {a w:Int} {k:Nat} (hk:ofM c.1 a w=(k:Int)):u9 (cs++[c]) a w=(u9 cs a w).set k (.bool true):=by
 apply List.ext_getElem?;intro i;by_cases hi:i<16
 ·rw[List.getElem?_set,OQ hi,OQ hi,UJ,List.any_append];grind
 grind[List.getElem?_eq_none,UJ,List.length_set]
def CO (cs:List Cl) (a w:Int) (i:Nat):List Int:=((List.range i).map λi:Nat=>(i:Int)).filter λs=>cs.any λc=>decide (ofM c.1 a w=s)
theorem Zs {cs:List Cl} {a w:Int} {i:Nat}:CO cs a w (i+1)=CO cs a w i++if(cs.any λc=>decide (ofM c.1 a w=(i:Int)))=true then[(i:Int)]else[]:=by
 unfold CO;rw[List.range_succ,List.map_append,List.filter_append]
 grind
theorem qk4 {cs:List Cl} {a w:Int} {i:Nat}:(CO cs a w i).length≤i:=by grind[CO,List.length_filter_le,decide,ofM,List.range]
theorem qQA {n:Nat} {cv:AV} {cs:List Cl} {a w:Int} (hn:3≤n) (H:HS g h R) (S:Rd g R 2 cs.length cv (cs.flatMap jH)) (hl:cs.length≤1000) (hc:∀c∈cs,0≤c.1∧c.1<100000) :
  af n 227 [cv,.int .i64 a,.int .i64 w] h λr h'=>HS g h' (qF 3 1 (xz cs a w).length r ((xz cs a w).map (.int .i64))::R):=by
 refine b8 (S:=S227) rfl omQ λk hk=>?_;unfold S227;try simp only[iZ]
 refine qH H (l:=u9 [] a w) rfl λb h1 H1=>?_;refine jF (λm s h'=>∃i:Nat,s=(.int .i64 (i:Int),.ptr b 0,.int .i64 w,.int .i64 a,cv,())∧i≤cs.length∧m=cs.length-i∧HS g h' (qx b (u9 (cs.take i) a w)::R))
  ?_ (m:=cs.length) omQ ⟨0,rfl,by omega,by rfl,H1⟩
 clear H H1;rintro m ih s h2 aY ⟨i,rfl,hi,rfl,H⟩;refine zH (S.sl H.drop) ?_;by_cases ae:i<cs.length
 ·refine jB omQ (qX ?_);have fX:=hc _ (List.getElem_mem ae);have hr:=VD (n:=a) (w:=w) fX.1;refine qG ?_
  try dsimp only
  refine jU (S.sl H.drop) omQ ae (x:=.int .i64 cs[i].1) ?_ ?_
  ·have:=congrArg (·[0]?) (gO (sz:=2) (enc:=jH) (λ_=>rfl) (iW ae));simp only[List.getElem?_take_of_lt (show 0<2 by omega),List.getElem?_drop]at this;trivial
  refine qW (qxS omQ omQ) ?_;rintro _ _ ⟨rfl,rfl⟩;refine jA omQ (qX ?_);obtain⟨k,hk⟩:∃k:Nat,ofM cs[i].1 a w=(k:Int):=⟨(ofM cs[i].1 a w).toNat,by omega⟩;rw[hk];refine yj omQ<|qw H (b:=b) .here (x:=.bool true) ⟨rfl,rfl⟩ (by grind[UJ]) λh4 H4=>?_;refine qS omQ<|aY (cs.length-(i+1)) _ _ omQ ⟨i+1,rfl,by omega,rfl,?_⟩;have e:cs.take (i+1)=cs.take i++[cs[i]]:=by simp
  grind[qkT]
 ·obtain rfl:i=cs.length:=by omega
  refine jk omQ (qJ ?_);rw[List.take_of_length_le (Nat.le_refl _)]at H;refine jF (λm s h'=>∃(i:Nat) (v:AV),s=(.int .i64 (i:Int),v,.ptr b 0,())∧i≤16∧m=16-i∧HS g h' (qF 3 1 (CO cs a w i).length v ((CO cs a w i).map (.int .i64))::qx b (u9 cs a w)::R))
   ?_ (m:=16) od ⟨0,.ad,rfl,by omega,by rfl,H.ad⟩
  clear H aY ih;rintro m ih s h3 aY ⟨i,v,rfl,hi,rfl,H⟩;have hu:=qk4 (cs:=cs) (a:=a) (w:=w) (i:=i);by_cases dQ:i<16
  ·refine jB omQ (qX ?_);refine qG ?_
   try dsimp only
   refine yj dQ<|qZ H (b:=b) e_1 (by rw[show 0+i*1=i by omega];exact OQ dQ) ?_;cases hb:cs.any λc=>decide (ofM c.1 a w=(i:Int))with
   |true=>refine qX (qr (n:=1) (l:=[.int .i64 (i:Int)]) (sz:=1) H rfl rfl rfl rfl λv2 h5 H5=>?_);refine jh (H5.ah e_1) (H5.sl .here) omQ omQ rfl λv3 h6 H6=>?_;refine qS omQ<|aY (16-(i+1)) _ _ omQ ⟨i+1,v3,rfl,by omega,rfl,?_⟩;rw[Zs,hb,iJ rfl,List.length_append,List.map_append];exact H6.pk [0,1] 1
   |false=>refine qJ (qS omQ ?_);refine aY (16-(i+1)) _ _ omQ ⟨i+1,v,rfl,by omega,rfl,?_⟩;rw[Zs,hb,iQ od,List.append_nil];grind
  ·obtain rfl:i=16:=by omega
   refine jk omQ (qJ ?_);exact qg (qY (H.pk [0] 1))
end
section
def CP:Kv→Bool
 | .prog _=>false
 | .aV _ _=>true
structure NJ (x y:jd):Prop where
  me:y.me=x.me
  set:y.set=x.set
  sw:CP y.aW=CP x.aW
theorem NJ.refl (x:jd):NJ x x:=⟨rfl,rfl,rfl⟩
theorem NJ.trans {x y z:jd} (a:NJ x y) (b:NJ y z):NJ x z:=⟨b.me.trans a.me,b.set.trans a.set,b.sw.trans a.sw⟩
structure ThrB (t:xB):Prop where
  set:JD t.set
  me:0≤t.me∧t.me<t.set.aF
  eS:∀l∈t.eS,(yu l).2=0∧Quiet l
  jl:t.eS.length≤6
  aW:0≤t.aW∧t.aW≤t.eS.length
  cq:t.cq.length+t.dp.length≤9000*t.results.length
  cd:t.cd.length≤6
  dM:0≤t.dM∧t.dM≤t.eF.length
  dY:0≤t.dY∧t.dY≤t.dM
  giv:t.aV=false→t.dp=[]
structure Aa (t:xB):Prop extends ThrB t where
  now:∀x,t.now=some x→zE x∧x.me=t.me∧x.set=t.set∧CP x.aW=t.aV
  lt:t.aW<t.eS.length
  some:t.now≠none
structure SQ (t:xB):Prop where
  st:1≤t.state∧t.state≤6
  b:ThrB t
  c:t.state≠6→Aa t
  fin:t.state=6→t.aW=t.eS.length∧t.now=none
  nO:(t.results.length:Int)≤t.aW+(if t.state≠6∧(t.aV=true∨t.state=5)then 1 else 0)
  slo:t.state=5→(t.cd.length:Int)<t.set.aF∧(t.cd.length:Int)≠t.me
  pau:t.state=3→0<t.lF∧t.lF≤8
  byy:t.state=2→0≤t.bM∧t.bM<t.set.aF
  sw5:t.state=5→t.aV=false
variable {t:xB}
theorem ThrB.len (B:ThrB t) (h:(t.results.length:Int)≤t.aW+1):t.cq.length+t.dp.length≤63000:=by have h1:=B.jl;have h2:=B.aW;have h3:=B.cq;omega
theorem Aa.go (C:Aa t) {u:xB} (h1:u.set=t.set) (h2:u.me=t.me) (h3:u.eS=t.eS) (h4:u.aW=t.aW) (h5:u.cq=t.cq) (h6:u.dp=t.dp) (h7:u.results=t.results) (h8:u.cd.length≤6) (h9:0≤u.dM∧u.dM≤u.eF.length) (dK:0≤u.dY∧u.dY≤u.dM) (bY:u.now=t.now) (eY:u.aV=t.aV):Aa u:=by have B:=C.toThrB;refine⟨⟨by rw[h1];exact B.set,by rw[h1,h2];exact B.me,by rw[h3];exact B.eS,by rw[h3];exact B.jl,by rw[h3,h4];exact B.aW,by rw[h5,h6,h7];exact B.cq,h8,h9,dK,by rw[eY,h6];exact B.giv⟩,by rw[bY,h1,h2,eY];exact C.now,by rw[h3,h4];exact C.lt,by rw[bY];exact C.some⟩
end
section
structure yW (V W:VM):Prop where
  sz:V.sz=W.sz
  most:V.most=W.most
  lv:V.lv=W.lv
  K:∀p x,zc p V.K=some x→zc p W.K=some x
theorem yW.same {V W:VM} (h:yW V W) (lv:List ba):yW { V with lv:=lv } { W with lv:=lv }:=⟨h.sz,h.most,rfl,h.K⟩
theorem yW.read {V W:VM} (h:yW V W) (p:Int):(qi V p).1.2=11∨((qi V p).1=(qi W p).1∧yW (qi V p).2 (qi W p).2):=by
 unfold qi;rw[← h.sz,← h.lv]
 split
 ·cases hl:Xj p V.lv with
  |some x=>grind
  |none=>
   cases hk:zc p V.K with
   |some x=>rw[h.K p x hk];grind
   |none=>simp
 grind
theorem yW.take {V W:VM} (h:yW V W) (cs:List Cl):(zq V cs).1=(zq W cs).1∧yW (zq V cs).2 (zq W cs).2:=by
 unfold zq;rw[← h.sz,← h.lv,← h.most]
 split
 ·exact⟨rfl,⟨rfl,rfl,rfl,h.K⟩⟩
 grind
theorem yW.ask {V W:VM} (h:yW V W) (b:Int):(jr V b).1.2.2=11∨((jr V b).1=(jr W b).1∧yW (jr V b).2 (jr W b).2):=by
 unfold jr;rw[← h.sz]
 split
 ·grind
 ·rcases h.read (b-1)with e |⟨e,h2⟩
  all_goals grind
theorem yW.again {V W:VM} (h:yW V W) (c b:Int):(yA V c b).1.2=11∨((yA V c b).1=(yA W c b).1∧yW (yA V c b).2 (yA W c b).2):=by
 unfold yA
 split
 ·grind
 ·rcases h.read b with e |⟨e,h2⟩
  ·grind
  ·rw[← e];have ht:=h2.take [(c,(qi V b).1.1),(b-1,c+8)];grind
theorem yW.grown {V W:VM} (h:yW V W) (c:Int):(yg V c).1.2=11∨((yg V c).1=(yg W c).1∧yW (yg V c).2 (yg W c).2):=by
 unfold yg;rw[← h.sz];rcases h.read 5 with e |⟨e,h2⟩
 ·grind
 ·rw[← e];have ht:=h2.take [(5,(qi V 5).1.1+1+yO c),((qi V 5).1.1,c+8)];grind
theorem yW.alloc {V W:VM} (h:yW V W) (n:Int):(zf V n).1.2=11∨((zf V n).1=(zf W n).1∧yW (zf V n).2 (zf W n).2):=by
 unfold zf
 split
 ·grind
 ·rcases h.read (zJ n)with e |⟨e,h2⟩
  ·grind
  ·rw[← e]
   split
   ·split
    ·exact h2.grown _
    ·exact h2.again _ _
   grind
theorem yW.free {V W:VM} (h:yW V W) (b:Int):(vP V b).1=11∨((vP V b).1=(vP W b).1∧yW (vP V b).2 (vP W b).2):=by
 unfold vP;rcases h.ask b with e |⟨e,h2⟩
 ·grind
 ·rw[← e];have ht:=h2.take [(b-1,(jr V b).1.1)];rw[← ht.1]
  split
  ·split
   ·split
    ·refine .inr ⟨rfl,?_⟩;unfold eZ;rw[← ht.2.lv];exact⟨ht.2.sz,ht.2.most,rfl,ht.2.K⟩
    grind
   grind
  grind
theorem yW.tg {V W:VM} (h:yW V W) (b:Int):(xj V b).1=11∨((xj V b).1=(xj W b).1∧yW (xj V b).2 (xj W b).2):=by
 unfold xj;rcases h.ask b with e |⟨e,h2⟩
 ·grind
 ·rw[← e]
  split
  ·split
   ·grind
   ·rcases h2.read (jr V b).1.1 with e2 |⟨e2,h3⟩
    ·grind
    ·rw[← e2]
     split
     ·exact .inr (h3.take _)
     grind
  grind
theorem yW.nL {V W:VM} (h:yW V W):(xN V).1=(xN W).1∧yW (xN V).2 (xN W).2:=by unfold xN;rw[← h.lv];exact⟨rfl,h.same _⟩
theorem yW.drop {V W:VM} (h:yW V W):(zN V).1=(zN W).1∧yW (zN V).2 (zN W).2:=by unfold zN;rw[← h.lv];exact⟨rfl,h.same _⟩
theorem yW.keep {V W:VM} (h:yW V W):(vj V).1=(vj W).1∧yW (vj V).2 (vj W).2:=by unfold vj;rw[← h.lv];exact⟨rfl,h.same _⟩
structure Kn (a b:SM):Prop where
  e:a.e=b.e
  nx:a.nx=b.nx
  bf:a.bf=b.bf
  s:a.s=b.s
  v:yW a.v b.v
theorem yW.cI {V W:VM} (h:yW V W) (op a nx:Int) (s:IM):Kn (zW op a nx s V) (zW op a nx s W):=by
 unfold zW;rw[← h.nL.1]
 split
 ·exact⟨rfl,rfl,rfl,rfl,h.nL.2⟩
 ·exact⟨rfl,rfl,rfl,rfl,h.nL.2⟩
theorem yW.tC {mt:List Int} {s:IM}:∀(o:List cy) {V W:VM},yW V W→Kn (xw mt o s V) (xw mt o s W):=by
 intro o
 induction o with
 |nil=>intro V W h;exact⟨rfl,rfl,rfl,rfl,h⟩
 |cons p o ih=>
  intro V W h;unfold xw;rw[← h.drop.1]
  split
  ·split
   ·exact h.drop.2.cI ..
   ·exact ih h.drop.2
  ·exact⟨rfl,rfl,rfl,rfl,h.drop.2⟩
theorem yW.CQ {V W:VM} (h:yW V W) (mt:List Int) (s:IM) (op:Int):Kn (yL mt s V op) (yL mt s W op):=by
 unfold yL
 split
 ·exact h.cI ..
 ·split
  ·exact⟨h.keep.1,rfl,rfl,rfl,h.keep.2⟩
  ·split
   ·exact⟨h.keep.1,rfl,rfl,rfl,h.keep.2⟩
   ·split
    ·exact⟨h.drop.1,rfl,rfl,rfl,h.drop.2⟩
    grind[yW.tC]
theorem yW.tD {V W:VM} (h:yW V W) (s:IM) (x:qe):(jm s V x).1=11∨((jm s V x).1=(jm s W x).1∧(jm s V x).2.1=(jm s W x).2.1∧yW (jm s V x).2.2 (jm s W x).2.2):=by
 unfold jm
 split
 ·split
  ·rcases h.read (zF (qP s.aa x.2.2.1) x.2.2.2.1).1 with e |⟨e,h2⟩
   all_goals grind
  grind
 ·split
  ·split
   ·have ht:=h.take [((zF (qP s.aa x.2.1) x.2.2.2.1).1,qP s.aa x.2.2.1)];grind
   grind
  ·split
   ·split
    ·grind
    ·rcases h.alloc (qP s.aa x.2.2.1)with e |⟨e,h2⟩
     all_goals grind
   ·split
    ·grind
    ·rcases h.free (qP s.aa x.2.1)with e |⟨e,h2⟩
     all_goals grind
theorem vq {c:Prop} [Decidable c] {a b a' b':SM} (ha:a.e=11∨Kn a a') (hb:b.e=11∨Kn b b'):(if c then a else b).e=11∨Kn (if c then a else b) (if c then a' else b'):=by
 grind
theorem yW.do_ {V W:VM} (h:yW V W) (mt:List Int) (s:IM) (x:qe):(aZ mt s V x).e=11∨Kn (aZ mt s V x) (aZ mt s W x):=by
 have sm:∀(e nx:Int) (b:Bool) (s':IM),(⟨e,nx,b,s',V⟩:SM).e=11∨Kn ⟨e,nx,b,s',V⟩ ⟨e,nx,b,s',W⟩:=λe nx b s'=>.inr ⟨rfl,rfl,rfl,rfl,h⟩;unfold aZ;refine vq (sm ..) (vq (sm ..) (vq (sm ..) (vq (sm ..) (vq (sm ..) (vq (sm ..) (vq (sm ..) (vq (sm ..) (vq (sm ..) (vq (vq (sm ..) (sm ..)) (vq (sm ..) (vq ?_ (.inr (h.CQ ..)))))))))))));rcases h.tD s x with e |⟨e1,e2,h2⟩
 ·grind
 ·exact .inr ⟨e1,rfl,rfl,e2,h2⟩
end
section
inductive tE:Nat→jd→zn→jd→zn→Prop
  |nil {x:jd} {M:zn}:tE 0 x M x M
  |cons {k:Nat} {x y:jd} {M N:zn} {o:dR} (hn:yI x=some o) (r:tE k (yc x (xD M o).1) (xD M o).2 y N):tE (k+1) x M y N
theorem tE.trans {a b:Nat} {x y z:jd} {M N O:zn} (s:tE a x M y N) (t:tE b y N z O):tE (a+b) x M z O:=by
 induction s with
 |nil=>grind
 |cons hn _ ih=>rw[Nat.add_right_comm];exact .cons hn (ih t)
theorem tE.one {x y:jd} {M N:zn} {o:dR} (hn:yI x=some o) (e:xD M o=(⟨0,cZ,false,0⟩,N)) (h:yc x ⟨0,cZ,false,0⟩=y):tE 1 x M y N:=by refine .cons hn ?_;rw[e];rw[h];exact .nil
theorem tE.step {x y:jd} {M N:zn} {o:dR} {a:cT} (hn:yI x=some o) (e:xD M o=(a,N)) (h:yc x a=y):tE 1 x M y N:=by refine .cons hn ?_;rw[e];rw[h];exact .nil
def bump (M:zn) (k:Int):zn:={ M with cY:=M.cY+k }
structure UN (S:xn) (M:zn) (me:Int):Prop where
  w:(M.w.length:Int)=S.words
  l:(M.l.length:Int)=S.aj
  s:(M.s.length:Int)=S.aF
  me:0≤me∧me<S.aF
  lk:∀i:Nat,i<M.l.length→∃v:Int,yP M.l i=(v,false,0)∧0≤v∧v≤M.n
  n:0≤M.n∧M.n<4611686018427387902
  wd:∀z∈M.w,0≤z∧z<18446744073709551616
section
variable {S:xn} {M:zn} {me:Int}
theorem UN.bump (C:UN S M me) (k:Int):UN S (bump M k) me:=⟨C.w,C.l,C.s,C.me,C.lk,C.n,C.wd⟩
theorem UN.at (C:UN S M me) {s:Int} (h:0≤s∧s<S.aj):∃v:Int,yP M.l s=(v,false,0)∧0≤v∧v≤M.n:=by have hl:=C.l;obtain⟨k,rfl⟩:∃k:Nat,s=k:=⟨s.toNat,by omega⟩;exact C.lk k omQ
structure Ut (S:xn) (M:zn) (r:List xA):Prop where
  at_:∀y∈r,0≤y.1∧y.1<S.aj∧y.2=(yP M.l y.1).1
  un:(r.map (·.1)).Nodup
theorem Ut.len {r:List xA} (O:JD S) (R:Ut S M r):r.length≤16:=by
 have:=UB 16 (r.map (·.1)) R.un (λx hx=>by
  obtain⟨y,hy,rfl⟩:=List.mem_map.1 hx;have h1:=R.at_ y hy;have h2:=O.aj
  omega)
 grind
theorem Ut.add {r:List xA} (O:JD S) (C:UN S M me) (R:Ut S M r) {s:Int} (hs:0≤s∧s<S.aj):(gV r (s,(yP M.l s).1)).1=0∧Ut S M (gV r (s,(yP M.l s).1)).2:=by
 obtain⟨v,e,h0,h1⟩:=C.at hs;have bK:=O.aj;have hn:=C.n;unfold gV;rw[iQ (by grind)];cases hf:r.find? λy=>decide (y.1=(s,(yP M.l s).1).1)with
 |some y=>
  dsimp only;have hy:=List.find?_some hf;have hm:=List.mem_of_find?_eq_some hf;have h2:=R.at_ y hm;grind
 |none=>
  have dA:∀y∈r,y.1≠s:=λy hy h=>by
   grind
  have hnd:(s::r.map (·.1)).Nodup:=List.nodup_cons.2 ⟨λh=>by grind,R.un⟩
  have hl:=UB 16 _ hnd (λx hx=>by
   rcases List.mem_cons.1 hx with rfl |hx
   ·omega
   ·obtain⟨y,hy,rfl⟩:=List.mem_map.1 hx;have h1:=R.at_ y hy
    omega)
  simp at hl;rw[iQ omQ];refine⟨rfl,λy hy=>?_,?_⟩
  ·rcases List.mem_append.1 hy with hy |hy
   ·exact R.at_ y hy
   grind
  grind
end
end
section
section
variable {S:xn} {M:zn} {me:Int}
structure KnM (M:zn) (V:VM):Prop where
  sz:(V.sz:Int)=M.w.length
  K:∀p x,zc p V.K=some x→x=qP M.w p
end
end
section
section
variable {S:xn} {M:zn} {me:Int}
inductive CR:Nat→zG→zn→zG→zn→Prop
  |nil {c:zG} {M:zn}:CR 0 c M c M
  |cons {k:Nat} {c d:zG} {M N:zn} {o:dR} {a:cT} {M1:zn} {c1:zG} (hn:wK c=some o) (e:xD M o=(a,M1)) (h0:a.err=0) (h1:zD c a=c1) (h2:c1.p.fin=0) (r:CR k c1 M1 d N):CR (k+1) c M d N
theorem CR.trans {a b:Nat} {x y z:zG} {M N O:zn} (s:CR a x M y N) (t:CR b y N z O):CR (a+b) x M z O:=by
 induction s with
 |nil=>grind
 |cons hn e h0 h1 h2 _ ih=>rw[Nat.add_right_comm];exact .cons hn e h0 h1 h2 (ih t)
end
end
section
def SU (w:List Int) (cs:List Cl):List Int:=cs.foldl (λw c=>w.set c.1.toNat c.2) w
section
variable {S:xn} {M:zn} {me:Int}
theorem GF {p:QQ} {a:cT} (hp:p.fin=0) (ha:a.err=0):qo p a=(false,p):=by
 simp_all[qo,iV]
theorem Vr {c:zG} {a:cT} (hp:c.p.fin=0) (ha:a.err=0):zD c a=if c.state=0∨c.state=1 then gW c a
 else if c.state=2∨c.state=3 then vo c a
 else if c.state=4 then yR c a.lk
 else if c.state=5 then yw { c with at_:=c.at_+1 }
 else if c.state=6 then yU { c with at_:=c.at_+1 }
 else yv { c with at_:=c.at_+1 }:=by
 grind[zD,GF]
end
end
section
variable {g h:AH} {L R:List SP}
section
variable {n b:Nat} {c:zG} {q:XS} {a:cT}
theorem J1.go (r:J1 c q) (hg:c.p.fin=0) (h6:c.state≤6):pJ c q:=⟨(r.p hg).1 h6,hg,(r.p hg).2.1,(r.p hg).2.2⟩
theorem J1.wf (r:J1 c q) (hg:c.p.fin=0) (h:c.state≤4∨c.state=7):c.writing=false:=by
 cases hw:c.writing with
 |false=>rfl
 |true=>rcases(r.w (.inl hg)).1 hw with h' |h'<;>omega
theorem pJ.r {s:Int} (P:pJ c q) (wf:c.writing=false) (hs:c.state=s) (h:s≤4) (qp:q.ph=s) (qa:q.at_=xO c) (a3:s≤3→c.at_=0) (t:3≤s→q.t=c.now):J1 c q :=
 ⟨λ_=>⟨λ_=>P.sp,P.err,P.bM⟩,λ_=>⟨qp.trans hs.symm,qa⟩,λ_ h7=>absurd h7 omQ,λh7=>absurd h7 omQ,λh3=>a3 omQ,λh3 _=>t omQ,λ_=>⟨λh'=>(by grind),λh'=>(by
  have:=P.fin
  grind)⟩⟩
theorem Ga {p:QQ} {l:dI}:(jX p l).2.fin=p.fin∧(jX p l).2.err=p.err∧(jX p l).2.bM=p.bM∧(jX p l).2.me=p.me:=by unfold jX;grind
theorem qGD {l:dI} {P0:AV→AH→Go.Ae.R} {Q0:AV→AH→Prop} (hn:2≤n) (G:pJ c q) (r:J1 c q) (h6:c.state≤6) (wf:c.writing=false) (hs:0≤c.p.spins∧c.p.spins≤4) (_:c.az.length≤1000) (H:HS g h (yQ b c q R))
  (w1:∀h',K3 g b { c with p:=(jX c.p l).2 } R h'→(jX c.p l).1=true→wp (P0 (.bool true) h') Q0)
  (w2:∀h' sp,HS g h' (yQ b { c with p:=jc (jX c.p l).2 5 0 l.2.2 } { q with sp:=sp } R)→(jX c.p l).1=false→wp (P0 (.bool false) h') Q0) :
  wp (jC (callT tab qv n) (.fn 130 [] []) [.ptr b 0,.agg (jS l)] h P0) Q0:=by
 have H':HS g h (qx b (zQ c.p c.p.spins++(xX c q).drop 5)::(yQ b c q R).tail):=by rw[show zQ c.p c.p.spins=zQ c.p q.sp by rw[G.sp]];exact H
 refine qW (KE omQ G.fin (λ_=>⟨rfl,G.err,G.bM⟩) hs H') ?_;rintro _ h2 ⟨e8,rfl,Q',H2⟩;cases hw:(jX c.p l).1 with
 |true=>
  rw[hw,iJ rfl]at Q' H2;obtain⟨a1,a2,a3,a4⟩:=Ga;obtain⟨b1,b2,b3⟩:=Q' (a1.trans G.fin)
  exact w1 h2 ⟨{ q with sp:=e8 },⟨λ_=>⟨λ_=>b1,b2,b3⟩,λ_=>r.ph G.fin,λ_ h7=>absurd h7 (by grind),r.f7,r.a3,r.t,λ_=>(by
   have:=r.w (.inl G.fin);grind)⟩,H2⟩ hw
 |false=>rw[hw,iQ od]at H2;exact w2 h2 e8 H2 hw
def GA (c:zG) (a:cT):zG:=if c.state=4 then yR c a.lk else gW c a
theorem qJM (hn:4≤n) (O:xY c) (hg:c.p.fin=0) (r:J1 c q) (h014:c.state=0∨c.state=1∨c.state=4) (H:HS g h (yQ b c q R)) :
  af n 133 [.ptr b 0,.agg (jI a)] h λ_ h'=>K3 g b (GA c a) R h':=by
 refine aG (S:=S133) rfl omQ λk hk=>?_;unfold S133;try simp only[iZ]
 generalize hF:GA c a=F;unfold GA at hF;have wf:=r.wf hg omQ;have G:=r.go hg omQ;obtain⟨qp,qa⟩:=r.ph hg;have l1:=O.s;have l2:=O.az;have l3:=O.seen;have l4:=O.lo;refine qH H rfl λb0 h1 H1=>?_;clear H;have CS:∀{x:AV} {f:Nat} {K:AV→Go.Ae.R} {Q:AV→AH→Prop},(xX c q)[f]? =some x→wp (K x) Q→wp (jo (.ptr b 0) λv=>qI v f λv=>ql h1 v K) Q:=λe w=>qK (qQ (qZ H1 (b:=b) e_1 e w));refine CS (f:=13) (x:=.int .i64 c.state) (by rw[← qp];rfl) ?_;by_cases c1:c.state=1
 ·refine qj c1 (qX ?_);have tT:xO c=(c.az.length:Int):=by unfold xO;grind
  rw[iQ omQ]at hF;unfold gW at hF;rw[iQ (λh=>by omega),iQ omQ]at hF;refine qQ (qZ H1 (b:=b0) .here (x:=.bool a.done) rfl ?_);cases hd:a.done with
  |false=>rw[iQ (by grind)]at hF;subst hF;refine jg (qX ?_);refine qK (qQ (qw H1 (b:=b) e_1 (x:=.int .i64 0) ⟨rfl,rfl⟩ (by simp[xX,zQ]) λh2 H2=>qY ?_));exact⟨{ q with ph:=0 },pJ.r (c:={ c with state:=0 }) (s:=0) ⟨G.sp,G.fin,G.err,G.bM⟩ wf rfl od rfl (qa.trans (tT.trans (by rfl))) (λ_=>r.a3 omQ) (λh=>absurd h od),H2.pk [0] 1⟩
  |true=>
   rw[iJ hd]at hF;refine jQ (qJ ?_);refine CS (f:=9) (x:=q.wv) rfl<|qK (qQ (qD H1 (b:=b) (off:=10) e_1 rfl omQ (l:=jS c.lk) rfl ?_));refine qr (n:=1) (l:=jS c.lk) (sz:=3) H1 rfl rfl rfl rfl λv2 h2 H2=>?_;refine jh (H2.ah (P:=qF 54 3 c.az.length q.wv (c.az.flatMap jS)) e_6) (H2.sl .here) omQ omQ rfl λv3 h3 H3=>?_;have o3:=H3.one .here;refine qK (qQ (qw H3 (b:=b) e_3 o3 (by simp[xX,zQ]) λh4 H4=>?_));refine qK (qQ (qZ H4 (b:=b) .here (x:=.int .i64 (c.az.length:Int)) (by rw[← tT,← qa];rfl) ?_));refine qS omQ<|qK (qQ (qw H4 (b:=b) .here ⟨rfl,rfl⟩ (by simp[xX,zQ]) λh5 H5=>?_));refine qK (qQ (qw H5 (b:=b) .here ⟨rfl,rfl⟩ (by simp[xX,zQ]) λh6 H6=>?_));have oV:(c.az++[c.lk]).length=c.az.length+1:=by simp
   have H7:HS g h6 (yQ b { c with az:=c.az++[c.lk] } { q with wv:=v3,at_:=(c.az.length:Int)+((1:Nat):Int),ph:=0 } R):=by unfold yQ;rw[show({ c with az:=c.az++[c.lk] }:zG).az.length=c.az.length+1 from oV,show({ c with az:=c.az++[c.lk] }:zG).az.flatMap jS=c.az.flatMap jS++jS c.lk by simp];exact H6.pk [0,3,3,3,0] 2
   clear H1 H2 H3 H4 H5 H6 CS;refine jq [] (λ_ h'=>K3 g b F R h') (λj hj=>?_) λ_ h' H'=>qg (qY H');refine qK (qQ (qZ H7 (b:=b) .here (x:=.int .i64 ((c.az.length:Int)+((1:Nat):Int))) rfl ?_));refine qK (qQ (qZ H7 (b:=b) .here (x:=q.tv) rfl ?_));refine qd H7 (n:=c.s.length) (v:=q.tv) e_3 ?_;unfold kt at hF;rw[show({ c with az:=c.az++[c.lk] }:zG).az.length=c.az.length+1 from oV]at hF;by_cases c2:c.az.length+1=c.s.length
   ·refine qj omQ (qX ?_);rw[iJ (by grind)]at hF;subst hF;refine qK (qQ (qw H7 (b:=b) .here (x:=.int .i64 2) ⟨rfl,rfl⟩ (by simp[xX,zQ]) λh8 H8=>?_));refine qK (qQ (qw H8 (b:=b) .here (x:=.int .i64 0) ⟨rfl,rfl⟩ (by simp[xX,zQ]) λh9 H9=>?_));refine hj _ _ ⟨{ q with wv:=v3,at_:=0,ph:=2 },pJ.r (c:={ c with az:=c.az++[c.lk],state:=2 }) (s:=2) ⟨G.sp,G.fin,G.err,G.bM⟩ wf rfl od rfl (by rfl) (λ_=>r.a3 omQ) (λh=>absurd h od),H9⟩
   ·refine qV omQ (qJ ?_);rw[iQ (by grind)]at hF;subst hF;refine hj _ _ ⟨{ q with wv:=v3,at_:=(c.az.length:Int)+((1:Nat):Int),ph:=0 },pJ.r (c:={ c with az:=c.az++[c.lk],state:=0 }) (s:=0) ⟨G.sp,G.fin,G.err,G.bM⟩ wf rfl od rfl (by simp[xO]) (λ_=>r.a3 omQ) (λh=>absurd h od),H7⟩
 refine qV c1 (qJ ?_);have c04:c.state=0∨c.state=4:=by omega
 refine qQ (qc (qZ H1 (b:=b0) .here (x:=.bool a.lk.2.1) rfl ?_));cases hd:a.lk.2.1 with
 |true=>
  have hF2:yo c a.lk=F:=by
   rw[← hF];rcases c04 with h |h
   all_goals simp_all[omQ,gW,yR]
  clear hF;subst hF2;refine qX (jq [] (λ_ h'=>K3 g b (yo c a.lk) R h') (λj hj=>?_) λ_ h' H'=>qg (qY H'));refine qK (qQ (qQ (qD H1 (b:=b0) (off:=1) .here rfl omQ (l:=jS a.lk) rfl ?_)));refine qGD omQ G r omQ wf (O.p hg omQ) omQ H1.drop (λh2 H2 hw=>?_) (λh2 sp H2 hw=>?_)
  ·refine jQ (qJ ?_);unfold yo at hj ⊢;rw[iJ hw]at hj ⊢;exact hj _ _ H2
  ·refine jg (qX ?_);unfold yo at hj ⊢;rw[iQ (by grind)]at hj ⊢;refine qK (qQ (qc (qZ H2 (b:=b) .here (x:=.int .i64 5) rfl ?_)));refine qK (qQ (qc (qZ H2 (b:=b) .here (x:=.int .i64 0) rfl ?_)));refine qK (qQ (qc (qZ H2 (b:=b) .here (x:=.int .i64 a.lk.2.2) rfl ?_)));obtain⟨a1,a2,a3,a4⟩:=Ga (p:=c.p) (l:=a.lk);refine qW (GH (c:={ c with p:=(jX c.p a.lk).2 }) (p1:=jc (jX c.p a.lk).2 5 0 a.lk.2.2) (q:={ q with sp:=sp }) omQ rfl ⟨a1.trans G.fin,a2.trans G.err,a3.trans G.bM⟩ ⟨by simp,by simp⟩ wf (by grind) H2) λ_ h4 H4=>?_;exact hj _ _ H4
 |false=>
  refine qJ (CS (f:=13) (x:=.int .i64 c.state) (by rw[← qp];rfl) ?_);by_cases c0:c.state=0
  ·refine qj c0 (qX ?_);rw[iQ omQ]at hF;unfold gW at hF;rw[iQ (λh=>by grind),iJ c0]at hF;subst hF;have tT:xO c=(c.az.length:Int):=by unfold xO;grind
   refine qQ (qD H1 (b:=b0) (off:=1) .here rfl omQ (l:=jS a.lk) rfl ?_);refine qK (qQ (qh H1 (b:=b) e_1 rfl (by simp[xX,zQ]) rfl λh2 H2=>?_));have H2:HS g h2 (qx b (xX { c with lk:=a.lk } q)::qx b0 (jI a)::(yQ b c q R).tail):=H2;refine qK (qQ (qw H2 (b:=b) .here (x:=.int .i64 1) ⟨rfl,rfl⟩ (by simp[xX,zQ]) λh3 H3=>qY ?_));exact⟨{ q with ph:=1 },pJ.r (c:={ c with lk:=a.lk,state:=1 }) (s:=1) ⟨G.sp,G.fin,G.err,G.bM⟩ wf rfl od rfl (qa.trans (tT.trans (by rfl))) (λ_=>r.a3 omQ) (λh=>absurd h od),H3.pk [0] 1⟩
  ·have c4:c.state=4:=by omega
   have h4':xO c=c.at_:=by simp_all[xO,omQ]
   have da:=O.I6 hg c4;refine qV c0 (qJ ?_);rw[iJ c4]at hF;unfold yR at hF;rw[iQ (by grind)]at hF;refine qQ (qc (qZ H1 (b:=b0) .here (x:=.int .u64 a.lk.1) rfl ?_));refine CS (f:=6) (x:=q.sv) rfl<|CS (f:=14) (x:=.int .i64 c.at_) (by rw[← h4',← qa];rfl) ?_;obtain⟨k,hk⟩:∃k:Nat,c.at_=(k:Int):=⟨c.at_.toNat,by omega⟩;have mO:k<c.seen.length:=by omega
   rw[hk]at hF ⊢;refine jU (H1.sl (v:=q.sv) (xs:=c.seen.flatMap xK) e_2) omQ mO (yt mO).2 ?_;by_cases hv:a.lk.1=(zL c.seen (k:Int)).2
   ·refine q9 hv (qJ ?_);rw[iQ (λh=>h hv)]at hF;refine CS (f:=14) (x:=.int .i64 (k:Int)) (by rw[← hk,← h4',← qa];rfl)<|qS omQ<|qK (qQ (qw H1 (b:=b) e_1 ⟨rfl,rfl⟩ (by simp[xX,zQ]) λh2 H2=>?_));have bK:=O.I5 omQ omQ;refine qW (ND (c:={ c with at_:=(k:Int)+1 }) (q:={ q with at_:=(k:Int)+1 }) omQ { O.toComL with lo:=(by grind),hi:=(by grind) } bK.1 ⟨G.sp,G.fin,G.err,G.bM⟩ (r.t omQ omQ) wf (qp.trans c4) rfl (by grind) (H2.pk [0] 1)) λ_ h3 H3=>qY ?_;grind
   ·refine jJ hv (qX ?_);rw[iJ hv]at hF;subst hF;refine qW (GH (c:=c) (p1:=c.p) omQ rfl ⟨G.fin,G.err,G.bM⟩ ⟨by simp,by simp⟩ wf omQ H1.drop) λ_ h3 H3=>qY H3
theorem qV8 (hn:5≤n) (O:xY c) (H:HS g h (bN b c::R)):af n 73 [.ptr b 0,.agg (jI a)] h λ_ h'=>HS g h' (bN b (zD c a)::R):=by
 refine aG (S:=S73) rfl omQ λk hk=>?_;unfold S73;try simp only[iZ]
 obtain⟨q,r,hm,H0⟩:=bN.E H;clear H;have EM:=qkH (a:=a) hm;generalize hF:zD c a=F at*;refine wp.mono (Q:=λ_ h'=>K3 g b F R h') ?_ λ_ _ ⟨q',r',H'⟩=>bN.I r' EM H';refine qH H0 rfl λb0 h1 H1=>?_;clear H0;refine qK (qQ (qc (qZ H1 (b:=b) e_1 (x:=.int .i64 c.p.fin) rfl ?_)));by_cases hf:c.p.fin=0
 rotate_left
 ·refine jJ hf<|qG ?_
  try dsimp only
  refine qf (qC (qX (qY ?_)));have e:F=c:=by
   have e0:qo c.p a=(true,c.p):=by simp_all[qo,iG]
   rw[← hF];unfold zD;simp_all
  rw[e];exact⟨q,r,H1.drop⟩
 refine q9 hf<|qG ?_
 try dsimp only
 refine qM (qK (qQ ?_));refine qD H1 (b:=b0) (off:=0) .here rfl omQ (l:=jI a) rfl ?_;have hpb:=r.p hf;refine qW (Xs (p:={ c.p with spins:=q.sp }) (sp:=q.sp) (ys:=(xX c q).drop 5) omQ hf (λ_=>⟨rfl,hpb.2⟩) (H1.ah (P:=qx b (xX c q)) e_1)) ?_;rintro _ h2 ⟨e8,rfl,Q',H2⟩;clear H1;refine qB ?_;by_cases he:a.err=0
 rotate_left
 ·have e0:qo { c.p with spins:=q.sp } a=(true,jc { c.p with spins:=q.sp } 4 a.err (-1)):=by
   simp_all[qo]
  have e1:F={ c with p:=jc c.p 4 a.err (-1) }:=by
   have e2:qo c.p a=(true,jc c.p 4 a.err (-1)):=by simp_all[qo]
   rw[← hF];unfold zD;grind
  rw[e0]at H2 ⊢;rw[e1];refine qX (qY ?_);exact⟨{ q with sp:=e8 },⟨λh=>(by cases h),λh=>(by cases h),λh=>(by cases h),r.f7,r.a3,r.t,λh=>(by rcases h with h |h<;>cases h)⟩,H2.pk [0] 1⟩
 have e0:qo { c.p with spins:=q.sp } a=(false,{ c.p with spins:=q.sp }):=by
  simp_all[qo,iV]
 rw[e0]at Q' H2 ⊢;obtain⟨q1,_,_⟩:=Q' hf;have q1:e8=q.sp:=q1;subst q1;have H2:HS g h2 (yQ b c q (qx b0 (jI a)::R)):=H2.pk [0,1,1,1,1,0] 0;refine qJ ?_;rw[Vr hf he]at hF;obtain⟨qp,qa⟩:=r.ph hf;have bK:=O.st;have l1:=O.s;have l2:=O.az;have l3:=O.seen;have l4:=O.lo;have l5:=O.hi;have lp:=O.toComL.pos;have lc:c.cells.length≤1000:=O.toComL.cells;have e9:∀{x:AV} {f:Nat} {g':AH} {c':zG} {q':XS} {T:List SP} {K:AV→Go.Ae.R} {Q:AV→AH→Prop},HS g g' (qx b (xX c' q')::T)→(xX c' q')[f]? =some x→wp (K x) Q→wp (jo (.ptr b 0) λv=>qI v f λv=>ql g' v K) Q:=λH e w=>qK (qQ (qZ H (b:=b) .here e w));refine e9 H2 (f:=13) (x:=.int .i64 c.state) (by rw[← qp];rfl)<|jq [] (λ_ h'=>K3 g b F R h') (λj hj=>?_) λ_ h' H'=>qg (qY H');refine jq [] (λz g'=>g'=h2∧z=(.bool (decide (c.state=0∨c.state=1∨c.state=4)),.int .i64 c.state,.ptr b0 0,.ptr b 0,())) (λj2 nQ=>?_) ?_
 ·refine xR (λc0=>qX ?_) (λc0=>qJ ?_)
  ·exact nQ _ _ ⟨rfl,by grind⟩
  ·refine xR (λc1=>qX ?_) (λc1=>qJ ?_)
   ·exact nQ _ _ ⟨rfl,by grind⟩
   ·refine xR (λc4=>?_) (λc4=>?_)
    ·exact nQ _ _ ⟨rfl,by grind⟩
    ·exact nQ _ _ ⟨rfl,by grind⟩
 rintro _ hq ⟨e3,rfl⟩;rw[e3];clear e3;by_cases Ab:c.state=0∨c.state=1∨c.state=4
 ·rw[iG Ab];refine qX (qD H2 (b:=b0) (off:=0) e_5 rfl omQ (l:=jI a) rfl ?_);refine qW (qJM (a:=a) omQ O hf r Ab (H2.pk [0,0,0,0,0] 1)) λ_ h3 H3=>?_;refine hj _ _ ?_;rw[← hF];unfold GA at H3;rcases Ab with h |h |h
  ·rw[iJ (.inl h)];rw[iQ omQ]at H3;exact H3
  ·rw[iJ (.inr h)];rw[iQ omQ]at H3;exact H3
  ·rw[iQ omQ,iQ omQ,iJ h];rw[iJ h]at H3;exact H3
 rw[iV Ab];refine qJ ?_;have H2:HS g h2 (yQ b c q (qx b0 (jI a)::R)):=H2;have G6:c.state≤6→pJ c q:=λh=>r.go hf h;have lH:∀{h':AH} {c':zG},K3 g b c' (qx b0 (jI a)::R) h'→K3 g b c' R h':=λ⟨q',r',H'⟩=>⟨q',r',H'.pk [0,0,0,0,0] 1⟩;rw[iQ omQ]at hF;by_cases c2:c.state=2
 ·refine qj c2 (qX ?_);have G:=G6 omQ;have wf:=r.wf hf omQ;rw[iJ (.inl c2)]at hF;unfold vo at hF;refine qQ (qZ H2 (b:=b0) e_5 (x:=.int .u64 a.word) rfl ?_);refine qK (qQ (qw H2 (b:=b) .here ⟨rfl,rfl⟩ (by simp[xX,zQ]) λh3 H3=>?_));refine qK (qQ (qw H3 (b:=b) .here ⟨rfl,rfl⟩ (by simp[xX,zQ]) λh4 H4=>?_));have H4:HS g h4 (yQ b c { q with t:=a.word,ph:=3 } (qx b0 (jI a)::R)):=H4;refine e9 H4 (f:=15) (x:=.int .u64 a.word) rfl ?_;by_cases cw:4611686018427387903≤a.word
  ·refine jA cw (qX ?_);rw[iJ ⟨c2,cw⟩]at hF;subst hF;refine qW (GH (c:=c) (p1:=c.p) omQ rfl ⟨G.fin,G.err,G.bM⟩ ⟨by simp,by simp⟩ wf omQ H4) λ_ h5 H5=>?_;exact hj _ _ (lH H5)
  ·refine jz cw (qJ ?_);rw[iQ (λh=>cw h.2),iJ c2]at hF;subst hF;exact hj _ _ (lH ⟨{ q with t:=a.word,ph:=3 },pJ.r (c:={ c with now:=a.word,state:=3 }) (s:=3) ⟨G.sp,G.fin,G.err,G.bM⟩ wf rfl od rfl (qa.trans (by simp[xO,omQ];omega)) (λ_=>r.a3 omQ) (λ_=>rfl),H4⟩)
 refine qV c2 (qJ ?_);by_cases c3:c.state=3
 ·refine qj c3 (qX ?_);have G:=G6 omQ;have wf:=r.wf hf omQ;have u4:=r.a3 omQ;have da:xO c=0:=by simp[xO];omega
  have hw:=O.I5 omQ omQ;rw[iJ (.inr c3)]at hF;unfold vo at hF;rw[iQ (λh=>by omega),iQ c2]at hF;refine qQ (qZ H2 (b:=b0) e_5 (x:=.bool a.done) rfl ?_);cases hd:a.done with
  |false=>rw[hd,iJ rfl]at hF;subst hF;refine jg (qX ?_);refine qK (qQ (qw H2 (b:=b) .here (x:=.int .i64 2) ⟨rfl,rfl⟩ (by simp[xX,zQ]) λh3 H3=>qg (qY (lH ?_))));exact⟨{ q with ph:=2 },pJ.r (c:={ c with state:=2 }) (s:=2) ⟨G.sp,G.fin,G.err,G.bM⟩ wf rfl od rfl (qa.trans (da.trans (by rfl))) (λ_=>u4) (λh=>absurd h od),H3⟩
  |true=>
   rw[hd,iQ od]at hF;refine jQ (qJ ?_);refine qK (qQ (qw H2 (b:=b) .here ⟨rfl,rfl⟩ (by simp[xX,zQ]) λh3 H3=>?_));refine qK (qQ (qw H3 (b:=b) .here ⟨rfl,rfl⟩ (by simp[xX,zQ]) λh4 H4=>?_));have H4:HS g h4 (yQ b c { q with ph:=4,at_:=0 } (qx b0 (jI a)::R)):=H4;have qt:=r.t omQ omQ;refine e9 H4 (f:=15) (x:=.int .u64 c.now) (by rw[← qt];rfl)<|e9 H4 (f:=5) (x:=.int .u64 c.ak) rfl ?_;by_cases cs:c.now=c.ak
   ·refine qj cs (qX ?_);rw[iJ cs]at hF;subst hF;refine qW (Ud (c:=c) (q:={ q with ph:=4,at_:=0 }) omQ ⟨G.sp,G.fin,G.err,G.bM⟩ qt lp omQ H4) λ_ h5 H5=>qg (qY (lH H5))
   ·refine qV cs (qJ ?_);rw[iQ cs]at hF;subst hF;refine qW (ND (c:=c) (q:={ q with ph:=4,at_:=0 }) omQ O.toComL hw.1 ⟨G.sp,G.fin,G.err,G.bM⟩ qt wf rfl u4.symm hw.2 H4) λ_ h5 H5=>hj _ _ (lH H5)
 refine qV c3 (qJ ?_);rw[iQ omQ,iQ omQ]at hF;have da:xO c=c.at_:=by simp[xO];omega
 by_cases c5:c.state=5
 ·refine qj c5 (qX ?_);have G:=G6 omQ;have qt:=r.t omQ omQ;have wt:c.writing=true:=(r.w (.inl hf)).2 (.inr (.inl c5));rw[iJ c5]at hF;unfold yw at hF;refine e9 H2 (f:=14) (x:=.int .i64 c.at_) (by rw[← da,← qa];rfl)<|qS omQ<|qK (qQ (qw H2 (b:=b) .here ⟨rfl,rfl⟩ (by simp[xX,zQ]) λh3 H3=>?_));have H3:HS g h3 (yQ b c { q with at_:=c.at_+1 } (qx b0 (jI a)::R)):=H3;refine e9 H3 (f:=14) (x:=.int .i64 (c.at_+1)) rfl<|e9 H3 (f:=7) (x:=q.cv) rfl<|qd H3 (n:=c.cells.length) (v:=q.cv) e_2 ?_;by_cases ce:c.at_+1=(c.cells.length:Int)
  ·refine qj ce (qX ?_);rw[iJ ce]at hF;subst hF;refine qW (M8 (c:={ c with at_:=c.at_+1 }) (q:={ q with at_:=c.at_+1 }) omQ ⟨G.sp,G.fin,G.err,G.bM⟩ qt wt lp (by grind) H3) λ_ h5 H5=>hj _ _ (lH H5)
  ·refine qV ce (qJ ?_);rw[iQ ce]at hF;subst hF;refine hj _ _ (lH ⟨{ q with at_:=c.at_+1 },⟨r.p,λ_=>⟨qp,?_⟩,r.z,r.f7,λh=>absurd h (by grind),r.t,r.w⟩,H3⟩);simp[xO];omega
 refine qV c5 (qJ ?_);rw[iQ c5]at hF;by_cases c6:c.state=6
 ·refine qj c6 (qX ?_);have G:=G6 omQ;have qt:=r.t omQ omQ;have wt:c.writing=true:=(r.w (.inl hf)).2 (.inr (.inr c6));rw[iJ c6]at hF;unfold yU at hF;refine e9 H2 (f:=14) (x:=.int .i64 c.at_) (by rw[← da,← qa];rfl)<|qS omQ<|qK (qQ (qw H2 (b:=b) .here ⟨rfl,rfl⟩ (by simp[xX,zQ]) λh3 H3=>?_));have H3:HS g h3 (yQ b c { q with at_:=c.at_+1 } (qx b0 (jI a)::R)):=H3;refine e9 H3 (f:=14) (x:=.int .i64 (c.at_+1)) rfl<|e9 H3 (f:=8) (x:=q.tv) rfl<|qd H3 (n:=c.s.length) (v:=q.tv) e_3 ?_;by_cases ce:c.at_+1=(c.s.length:Int)
  ·refine qj ce (qX ?_);rw[iJ ce]at hF;subst hF;refine qK (qQ (qc (qw H3 (b:=b) .here (x:=.int .i64 2) ⟨rfl,rfl⟩ (by simp[xX,zQ]) λh4 H4=>?_)));refine hj _ _ (lH ⟨{ q with at_:=c.at_+1 },⟨λh=>(by cases h),λh=>(by cases h),λh=>(by grind),r.f7,λh=>absurd h (by grind),r.t,λ_=>⟨λ_=>.inl rfl,λ_=>wt⟩⟩,?_⟩);have e:xX { c with at_:=c.at_+1,p:=jc c.p 2 0 (-1) } { q with at_:=c.at_+1 }=(xX c { q with at_:=c.at_+1 }).set 2 (.int .i64 2):=by
    grind[xX,zQ,jc]
   grind
  ·refine qV ce (qJ ?_);rw[iQ ce]at hF;subst hF;refine hj _ _ (lH ⟨{ q with at_:=c.at_+1 },⟨r.p,λ_=>⟨qp,?_⟩,r.z,r.f7,λh=>absurd h (by grind),r.t,r.w⟩,H3⟩);simp[xO];omega
 refine qV c6 (qJ ?_);rw[iQ c6]at hF;have c7:c.state=7:=by omega
 have wf:=r.wf hf omQ;have hz:=r.z hf c7;unfold yv at hF;refine e9 H2 (f:=14) (x:=.int .i64 c.at_) (by rw[← da,← qa];rfl)<|qS omQ<|qK (qQ (qw H2 (b:=b) .here ⟨rfl,rfl⟩ (by simp[xX,zQ]) λh3 H3=>?_));have H3:HS g h3 (yQ b c { q with at_:=c.at_+1 } (qx b0 (jI a)::R)):=H3;refine e9 H3 (f:=14) (x:=.int .i64 (c.at_+1)) rfl<|e9 H3 (f:=9) (x:=q.wv) rfl<|qd H3 (n:=c.az.length) (v:=q.wv) e_4 ?_;by_cases ce:c.at_+1=(c.az.length:Int)
 ·refine qj ce (qX ?_);rw[iJ ce]at hF;subst hF;have Iw:=r.f7 c7;refine e9 H3 (f:=16) (x:=.int .i64 c.bE) (by show some (AV.int .i64 q.z.1)=_;rw[hz])<|e9 H3 (f:=17) (x:=.int .i64 c.fJ) (by show some (AV.int .i64 q.z.2.1)=_;rw[hz])<|e9 H3 (f:=18) (x:=.int .i64 c.pF) (by show some (AV.int .i64 q.z.2.2)=_;rw[hz])<|qK (qQ (qc (qw H3 (b:=b) .here ⟨rfl,rfl⟩ (by simp[xX,zQ]) λh4 H4=>?_)));refine qK (qQ (qc (qw H4 (b:=b) .here ⟨rfl,rfl⟩ (by simp[xX,zQ]) λh5 H5=>?_)));refine qK (qQ (qc (qw H5 (b:=b) .here ⟨rfl,rfl⟩ (by simp[xX,zQ]) λh6 H6=>?_)));have lf:c.bE≠0:=by have h:=O.ar;grind[zh]
  exact hj _ _ (lH ⟨{ q with at_:=c.at_+1 },⟨λh=>absurd h lf,λh=>absurd h lf,λh=>absurd h lf,r.f7,λh=>absurd h (by grind),r.t,λh=>(by rcases h with h |h;all_goals trivial)⟩,H6⟩)
 ·refine qV ce (qJ ?_);rw[iQ ce]at hF;subst hF;refine hj _ _ (lH ⟨{ q with at_:=c.at_+1 },⟨r.p,λ_=>⟨qp,?_⟩,r.z,r.f7,λh=>absurd h (by grind),r.t,r.w⟩,H3⟩);simp[xO];omega
end
end
section
variable {g h:AH} {L R:List SP}
section
variable {n b:Nat} {c:zG} {q:XS}
theorem qGh (hn:1≤n) (O:xY c) (hf:c.p.fin=0) (H:HS g h (bN b c::R)):af n 49 [.ptr b 0] h λz h'=>some z=(wK c).map (λo=>.agg (jn o))∧HS g h' (bN b c::R):=by
 refine ag (S:=S49) rfl omQ λk hk=>?_;unfold S49;try simp only[iZ]
 obtain⟨q,r,hm,H0⟩:=bN.E H;clear H;refine qH H0 rfl λb0 h1 H1=>?_;clear H0;obtain⟨qp,qa⟩:=r.ph hf;have bK:=O.st;have l1:=O.s;have l2:=O.az;have l3:=O.seen;have l4:=O.lo;have l5:=O.hi;have Hj:=O.now;have lc:c.cells.length≤1000:=O.toComL.cells;have e9:∀{x:AV} {f:Nat} {K:AV→Go.Ae.R} {Q:AV→AH→Prop},(xX c q)[f]? =some x→wp (K x) Q→wp (jo (.ptr b 0) λv=>qI v f λv=>ql h1 v K) Q:=λe w=>qK (qQ (qZ H1 (b:=b) e_1 e w));have fin:∀{o:dR},wK c=some o→wp (qn h1 (.ptr b0 0) (.agg (jn o)) 10 λh'=>q8 h' (.ptr b0 0) 10 λv=>some (v,h')) (λz h'=>some z=(wK c).map (λo=>.agg (jn o))∧HS g h' (bN b c::R)):=λ{o} e=>by
  refine qh H1 (b:=b0) .here rfl (by simp) rfl λh2 H2=>?_;refine qD H2 (b:=b0) (off:=0) .here rfl omQ (l:=jn o) rfl (qY ⟨by grind,bN.I r hm H2.drop⟩)
 generalize hN:wK c=N at fin ⊢;unfold wK at hN;rw[iQ (λh=>h hf)]at hN;have num:∀{k:Nat},k<c.s.length→(c.s.map (AV.int .i64))[k]? =some (.int .i64 (qP c.s (k:Int))):=λ{k} hk=>by rw[List.getElem?_map,yS hk];rfl
 refine e9 (f:=13) (x:=.int .i64 c.state) (by rw[← qp];rfl) ?_;by_cases c0:c.state=0
 ·have hw:=O.iN hf omQ;have da:xO c=(c.az.length:Int):=by unfold xO;grind
  refine qj c0 (qX ?_);rw[iJ c0]at hN;refine e9 (f:=8) (x:=q.tv) rfl<|e9 (f:=14) (x:=.int .i64 (c.az.length:Int)) (by rw[← da,← qa];rfl)<|jN (H1.sl (v:=q.tv) (xs:=c.s.map (.int .i64)) e_4) (num hw)<|qy (l:=jn (ck 3 (qP c.s c.az.length) 0)) rfl<|fin hN.symm
 refine qV c0 (qJ ?_);rw[iQ c0]at hN;by_cases c1:c.state=1
 ·have hw:=O.iN hf omQ;have da:xO c=(c.az.length:Int):=by unfold xO;grind
  refine qj c1 (qX ?_);rw[iJ c1]at hN;refine e9 (f:=8) (x:=q.tv) rfl<|e9 (f:=14) (x:=.int .i64 (c.az.length:Int)) (by rw[← da,← qa];rfl)<|jN (H1.sl (v:=q.tv) (xs:=c.s.map (.int .i64)) e_4) (num hw)<|qK (qQ (qD H1 (b:=b) (off:=10) e_1 rfl omQ (l:=jS c.lk) rfl ?_));refine qK (qQ (qc (qZ H1 (b:=b) e_1 (x:=.int .u64 c.lk.1) rfl ?_)));refine qK (qQ (qc (qZ H1 (b:=b) e_1 (x:=.int .i64 c.p.me) rfl ?_)));refine qy (l:=jS (c.lk.1,true,c.me)) (by rw[hm];rfl)<|qy (l:=jn ⟨4,qP c.s c.az.length,0,0,c.lk,(c.lk.1,true,c.me)⟩) rfl<|fin hN.symm
 refine qV c1 (qJ ?_);rw[iQ c1]at hN;by_cases c2:c.state=2
 ·refine qj c2 (qX ?_);rw[iJ c2]at hN;refine qy (l:=jn (ck 6 0 0)) rfl<|fin hN.symm
 refine qV c2 (qJ ?_);rw[iQ c2]at hN;by_cases c3:c.state=3
 ·have qt:=r.t omQ omQ;refine qj c3 (qX ?_);rw[iJ c3]at hN;refine e9 (f:=15) (x:=.int .u64 c.now) (by rw[← qt];rfl)<|e9 (f:=15) (x:=.int .u64 c.now) (by rw[← qt];rfl)<|JX ?_;rw[MH omQ];refine qy (l:=jn (⟨7,0,c.now,c.now+1,cZ,cZ⟩)) rfl<|fin hN.symm
 refine qV c3 (qJ ?_);rw[iQ c3]at hN;have da:xO c=c.at_:=by simp[xO];omega
 rw[da]at qa;obtain⟨k,hk⟩:∃k:Nat,c.at_=k:=⟨c.at_.toNat,by omega⟩;rw[hk]at qa hN;have DK:∀{K:AV→Go.Ae.R} {Q:AV→AH→Prop},wp (K (.int .i64 (k:Int))) Q→wp (jo (.ptr b 0) λv=>qI v 14 λv=>ql h1 v K) Q:=λw=>e9 (f:=14) (by rw[← qa];rfl) w;by_cases c4:c.state=4
 ·have ae:=O.I6 hf c4;refine qj c4 (qX ?_);rw[iJ c4]at hN;refine e9 (f:=6) (x:=q.sv) rfl (DK ?_);refine jU (H1.sl (v:=q.sv) (xs:=c.seen.flatMap xK) e_2) omQ omQ (yt omQ).1<|qy (l:=jn (ck 3 (zL c.seen k).1 0)) rfl<|fin hN.symm
 refine qV c4 (qJ ?_);rw[iQ c4]at hN;by_cases c5:c.state=5
 ·have ae:=O.RY hf c5;refine qj c5 (qX ?_);rw[iJ c5]at hN;refine e9 (f:=7) (x:=q.cv) rfl (DK ?_);refine jU (H1.sl (v:=q.cv) (xs:=c.cells.flatMap jH) e_3) omQ omQ (Gb omQ).1<|e9 (f:=7) (x:=q.cv) rfl (DK ?_);refine jU (H1.sl (v:=q.cv) (xs:=c.cells.flatMap jH) e_3) omQ omQ (Gb omQ).2<|qy (l:=jn (ck 2 (ka c.cells k).1 (ka c.cells k).2)) rfl<|fin hN.symm
 refine qV c5 (qJ ?_);rw[iQ c5]at hN;by_cases c6:c.state=6
 ·have ae:=O.RZ hf c6;have qt:=r.t omQ omQ;refine qj c6 (qX ?_);rw[iJ c6]at hN;refine e9 (f:=8) (x:=q.tv) rfl (DK ?_);refine jN (H1.sl (v:=q.tv) (xs:=c.s.map (.int .i64)) e_4) (num omQ)<|e9 (f:=15) (x:=.int .u64 c.now) (by rw[← qt];rfl)<|JX ?_;rw[MH omQ];refine qy (l:=jS (c.now+1,false,0)) rfl<|qy (l:=jn (⟨5,qP c.s k,0,0,cZ,(c.now+1,false,0)⟩)) rfl<|fin hN.symm
 refine qV c6 (qJ ?_);rw[iQ c6]at hN;have ae:=O.R0 hf omQ;refine e9 (f:=8) (x:=q.tv) rfl (DK ?_);refine jN (H1.sl (v:=q.tv) (xs:=c.s.map (.int .i64)) e_4) (num omQ)<|e9 (f:=9) (x:=q.wv) rfl (DK ?_);refine zj (l:=jS (yP c.az k)) (H1.sl (v:=q.wv) (xs:=c.az.flatMap jS) e_5) omQ omQ (JN omQ)<|qy (l:=jn (⟨5,qP c.s k,0,0,cZ,yP c.az k⟩)) rfl<|fin hN.symm
theorem qjT {me sp st a w:Int} {v1 v2:AV} {r:List xA} {cs:List Cl} (hn:4≤n) (hr:r.length≤1000) (h0:0<cs.length) (hl:cs.length≤1000) (hc:∀c∈cs,0≤c.1∧c.1<100000)
  (H:HS g h R) (S1:Rd g R 2 r.length v1 (r.flatMap xK)) (S2:Rd g R 2 cs.length v2 (cs.flatMap jH)) (Bv:0<(xz cs a w).length) :
  af n 184 [.int .i64 me,.int .i64 sp,.int .u64 st,v1,v2,.int .i64 a,.int .i64 w] h λv h'=>∃b,v=.ptr b 0∧HS g h' (bN b (Kt me sp st r cs a w)::R):=by
 refine Fo (S:=S184) rfl omQ λk hk=>?_;unfold S184;try simp only[iZ]
 refine qW (Yi omQ H) ?_;rintro _ h0 ⟨rfl,H⟩;have H0:=H.ad (e:=122) (sz:=2);refine jh H0 (S1.sl H) omQ omQ (QS (λ_=>rfl) _) λu1 h1 H1=>?_;rw[Nat.zero_add,List.nil_append]at H1;have H1':=H1.ad (e:=129) (sz:=2);refine jh H1' (S2.sl H1.drop) omQ omQ (QS (λ_=>rfl) _) λu2 h2 H2=>?_;rw[Nat.zero_add,List.nil_append]at H2;have o1:=H2.one e_1;have o2:=H2.one .here
 let c0:zG:=⟨J8 me sp,me,st,r,cs,[],[],0,0,cZ,0,false,0,0,0⟩
 let q0:XS:=⟨(J8 me sp).spins,0,0,0,(0,0,0),u1,u2,.ad,.ad⟩
 refine qy (by simp only[vG,o1.1,o2.1];rfl)<|qH H2 (by simp only[jV,List.all_cons,o1.2,o2.2];rfl) λb h3 H3=>?_;refine qK (qQ (qZ H3 .here rfl ?_));refine qW (qQA omQ H3 (H3.rd e_1) hl hc) λu3 h4 H4=>?_;have o3:=H4.one .here;refine qK (qQ (qw H4 e_1 o3 (by simp) λh5 H5=>?_));have H6:=H5.ad (e:=54) (sz:=3);have bK:(Kt me sp st r cs a w).state=0:=by show(if(0:Nat)=(xz cs a w).length then(2:Int)else 0)=0;grind
 have H7:HS g h5 (yQ b (Kt me sp st r cs a w) { q0 with tv:=u3 } R):=H6.pk [1,3,2,1,0] 0;refine jq [] (λz h'=>z=(.ptr b 0,())∧h'=h5) (λj hj=>?_) ?_
 ·refine qK (qQ (qZ H7 .here rfl ?_));refine qd H7 (n:=(xz cs a w).length) (v:=u3) e_3<|qV omQ (qJ ?_);exact hj _ _ ⟨rfl,rfl⟩
 rintro _ _ ⟨rfl,rfl⟩
 refine qg (qY ⟨b,rfl,bN.I (q:={ q0 with tv:=u3 }) ⟨λ_=>⟨λ_=>rfl,rfl,rfl⟩,λ_=>⟨bK.symm,?_⟩,λ_ h7=>absurd h7 (by grind),λh7=>absurd h7 (by grind),λ_=>rfl,λh3=>absurd h3 (by grind),λ_=>⟨λh=>(by cases h),λh=>(by
  rcases h with h |h |h
  ·cases h
  all_goals grind)⟩⟩ rfl H7⟩)
 unfold xO;rw[iJ (by grind)];rfl
end
end
end Go.Proofs.YtpbpkcdebchbbaaGreatDoor
