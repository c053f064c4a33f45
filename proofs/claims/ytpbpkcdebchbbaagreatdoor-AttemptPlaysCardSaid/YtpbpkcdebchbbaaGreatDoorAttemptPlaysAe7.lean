/- The abstract executor of the program's form in Lean, shown sound: steps of a run; a law's run. -/
import Derived.Test.YtpbpkcdebchbbaaGreatDoorAttemptPlaysAe6
namespace Go.Ae
open Go
def wp (r:R) (Q:AV→AH→Prop):Prop:=∃v h,r=some (v,h)∧Q v h
variable {Q Q':AV→AH→Prop} {h h':AH} {k:IntKind} {a b:Int} {K:AV→R}
theorem wp.mono {r:R} (w:wp r Q) (hq:∀v h,Q v h→Q' v h):wp r Q':=by obtain⟨v,h,e,q⟩:=w;exact⟨v,h,e,hq v h q⟩
theorem qY {v:AV} {g:AH} (q:Q v g):wp (some (v,g)) Q:=⟨_,_,rfl,q⟩
theorem JT (a b:Int):oP a b=decide (a<b):=Un a b
theorem Q8 (a b:Int):eV a b=decide (a=b):=by
 grind[Ky]
theorem ki (op:BinOp) (a b:Int) (K:AV→R):jY op (.int k a) (.int k b) K=ob (QH op k a b) K:=by simp[N5]
theorem wX (w:wp (K (.bool (decide (a<b)))) Q):wp (jY .lss (.int k a) (.int k b) K) Q:=by rw[ki];simpa only[QH,JT]using w
theorem NS (w:wp (K (.bool (decide (a≤b)))) Q):wp (jY .leq (.int k a) (.int k b) K) Q:=by rw[ki];simp only[QH,JT];rw[show(!decide (b<a))=decide (a≤b) by grind];exact w
theorem Pm (w:wp (K (.bool (decide (b<a)))) Q):wp (jY .gtr (.int k a) (.int k b) K) Q:=by rw[ki];simpa only[QH,JT]using w
theorem Pn (w:wp (K (.bool (decide (b≤a)))) Q):wp (jY .geq (.int k a) (.int k b) K) Q:=by rw[ki];simp only[QH,JT];rw[show(!decide (a<b))=decide (b≤a) by grind];exact w
theorem gc (w:wp (K (.bool (decide (a=b)))) Q):wp (jY .eql (.int k a) (.int k b) K) Q:=by rw[ki];simpa only[QH,Q8]using w
theorem XP (w:wp (K (.bool (decide (¬a=b)))) Q):wp (jY .neq (.int k a) (.int k b) K) Q:=by rw[ki];simp only[QH,Q8];rw[← decide_not];exact w
theorem Md {n:Int} (h:-9223372036854775808≤n∧n≤9223372036854775807):zC .i64 n=n:=by
 grind[kL,Gt]
theorem MH {n:Int} (h:0≤n∧n≤18446744073709551615):zC .u64 n=n:=by grind[kL,Ge]
theorem Wq {n:Int} (h:0≤n∧n≤255):zC .u8 n=n:=by grind[kL,TA]
theorem JX (w:wp (K (.int k (zC k (a+b)))) Q):wp (jY .add (.int k a) (.int k b) K) Q:=by rw[ki];exact w
theorem N1 (w:wp (K (.int k (zC k (a-b)))) Q):wp (jY .sub (.int k a) (.int k b) K) Q:=by rw[ki];exact w
theorem Po (w:wp (K (.int k (zC k (a*b)))) Q):wp (jY .mul (.int k a) (.int k b) K) Q:=by rw[ki];exact w
theorem qS (h:-9223372036854775808≤a+b∧a+b≤9223372036854775807) (w:wp (K (.int .i64 (a+b))) Q):wp (jY .add (.int .i64 a) (.int .i64 b) K) Q:=JX (by rw[Md h];exact w)
theorem jK (h:-9223372036854775808≤a-b∧a-b≤9223372036854775807) (w:wp (K (.int .i64 (a-b))) Q):wp (jY .sub (.int .i64 a) (.int .i64 b) K) Q:=N1 (by rw[Md h];exact w)
theorem N0 (h:-9223372036854775808≤a*b∧a*b≤9223372036854775807) (w:wp (K (.int .i64 (a*b))) Q):wp (jY .mul (.int .i64 a) (.int .i64 b) K) Q:=Po (by rw[Md h];exact w)
theorem xT (h:0≤a+b∧a+b≤18446744073709551615) (w:wp (K (.int .u64 (a+b))) Q):wp (jY .add (.int .u64 a) (.int .u64 b) K) Q:=JX (by rw[MH h];exact w)
theorem yT (h:0≤a-b∧a-b≤18446744073709551615) (w:wp (K (.int .u64 (a-b))) Q):wp (jY .sub (.int .u64 a) (.int .u64 b) K) Q:=N1 (by rw[MH h];exact w)
theorem ga (h:b≠0) (w:wp (K (.int k (a.tmod b))) Q):wp (jY .rem (.int k a) (.int k b) K) Q:=by rw[ki];simp only[QH,Q8,iV h,cond_false];exact w
theorem Pp (h:b≠0) (w:wp (K (.int k (zC k (a.tdiv b)))) Q):wp (jY .quo (.int k a) (.int k b) K) Q:=by rw[ki];simp only[QH,Q8,iV h,cond_false];exact w
theorem GZ {d:IntKind} (w:wp (K (.int d (zC d a))) Q):wp (vr d (.int k a) K) Q:=w
theorem zx (h:-9223372036854775808≤a∧a≤9223372036854775807) (w:wp (K (.int .i64 a)) Q):wp (vr .i64 (.int k a) K) Q:=GZ (by rw[Md h];exact w)
theorem zt (h:0≤a∧a≤18446744073709551615) (w:wp (K (.int .u64 a)) Q):wp (vr .u64 (.int k a) K) Q:=GZ (by rw[MH h];exact w)
theorem N7 {q:IntKind} (h:0≤b) (w:wp (K (.int k (zC k (a*2 ^ (min b.toNat k.bits))))) Q):wp (wb .shl (.int k a) (.int q b) K) Q:=by unfold wb;simp only[N3,JT,iV (show¬b<0 by omega),cond_false];exact w
theorem Pq {t:Bool} (w:wp (K (.bool (!t))) Q):wp (lX .not (.bool t) K) Q:=w
theorem jQ (w:wp (K (.bool false)) Q):wp (lX .not (.bool true) K) Q:=w
theorem jg (w:wp (K (.bool true)) Q):wp (lX .not (.bool false) K) Q:=w
theorem zS (w:wp (K (.int k (min a b))) Q):wp (oR false [.int k a,.int k b] K) Q:=by unfold oR;simp only[VV,cond_true,Bk,D4,beq_self_eq_true,cond_false,Option.bind_some,JT];rw[show(bif decide (b<a)then b else a)=min a b by grind];exact w
theorem zu (w:wp (K (.int k (max a b))) Q):wp (oR true [.int k a,.int k b] K) Q:=by unfold oR;simp only[VV,cond_true,Bk,D4,beq_self_eq_true,Option.bind_some,JT];rw[show(bif decide (a<b)then b else a)=max a b by grind];exact w
theorem kz {p:Prop} [Decidable p] {K:AV→R} (h1:p→wp (K (.bool true)) Q) (h2:¬p→wp (K (.bool false)) Q):wp (K (.bool (decide p))) Q:=by
 by_cases hp:p
 ·rw[iG hp];exact h1 hp
 ·rw[iV hp];exact h2 hp
theorem zK (h1:a<b→wp (K (.bool true)) Q) (h2:¬a<b→wp (K (.bool false)) Q):wp (jY .lss (.int k a) (.int k b) K) Q:=wX (kz h1 h2)
theorem yb (h1:a≤b→wp (K (.bool true)) Q) (h2:¬a≤b→wp (K (.bool false)) Q):wp (jY .leq (.int k a) (.int k b) K) Q:=NS (kz h1 h2)
theorem yz (h1:b<a→wp (K (.bool true)) Q) (h2:¬b<a→wp (K (.bool false)) Q):wp (jY .gtr (.int k a) (.int k b) K) Q:=Pm (kz h1 h2)
theorem xF (h1:b≤a→wp (K (.bool true)) Q) (h2:¬b≤a→wp (K (.bool false)) Q):wp (jY .geq (.int k a) (.int k b) K) Q:=Pn (kz h1 h2)
theorem xR (h1:a=b→wp (K (.bool true)) Q) (h2:¬a=b→wp (K (.bool false)) Q):wp (jY .eql (.int k a) (.int k b) K) Q:=gc (kz h1 h2)
theorem xx (h1:¬a=b→wp (K (.bool true)) Q) (h2:a=b→wp (K (.bool false)) Q):wp (jY .neq (.int k a) (.int k b) K) Q:=XP (kz h1 λh=>h2 (Decidable.byContradiction h))
variable {x y:R} {p:Prop} [Decidable p] {u v:AV}
theorem Gi (h1:p→wp x Q) (h2:¬p→wp y Q):wp (jw (.bool (decide p)) x y) Q:=by
 rw[ZA];by_cases hp:p
 ·simpa[hp]using h1 hp
 ·simpa[hp]using h2 hp
theorem yD {t:Bool} (h1:t=true→wp x Q) (h2:t=false→wp y Q):wp (jw (.bool t) x y) Q:=by
 cases t
 ·exact h2 rfl
 ·exact h1 rfl
theorem qX (w:wp x Q):wp (jw (.bool true) x y) Q:=w
theorem qJ (w:wp y Q):wp (jw (.bool false) x y) Q:=w
theorem Qn (h1:p→wp x Q) (h2:¬p→wp y Q):wp (xe (.bool (decide p)) true x y) Q:=by
 rw[Um];by_cases hp:p
 ·simpa[hp]using h1 hp
 ·simpa[hp]using h2 hp
theorem qR (w:wp x Q):wp (xe (.bool true) true x y) Q:=w
theorem qf (w:wp y Q):wp (xe (.bool true) false x y) Q:=w
theorem qT (w:wp y Q):wp (xe (.bool false) true x y) Q:=w
theorem qM (w:wp x Q):wp (xe (.bool false) false x y) Q:=w
theorem jT {s:Bool} (w:wp y Q):wp (xe .undef s x y) Q:=w
theorem qC (w:wp (K u) Q):wp (zo (.bool true) u v K) Q:=w
theorem qB (w:wp (K v) Q):wp (zo (.bool false) u v K) Q:=w
theorem qG {α:Type} {j:α} {f:α→R} (w:wp (f j) Q):wp (zg j f) Q:=w
theorem gS {σ:Type} {j:σ→AH→R} {f:(σ→AH→R)→R} (Inv:σ→AH→Prop) (hf:∀j':σ→AH→R,(∀s h,Inv s h→wp (j' s h) Q)→wp (f j') Q) (hj:∀s h,Inv s h→wp (j s h) Q):wp (zg j f) Q:=hf j hj
theorem jq {σ:Type} {j:σ→AH→List Nat→R} {f:(σ→AH→List Nat→R)→R} (ds:List Nat) (Inv:σ→AH→Prop) (hf:∀j':σ→AH→List Nat→R,(∀s h,Inv s h→wp (j' s h ds) Q)→wp (f j') Q)
  (hj:∀s h,Inv s h→wp (j s h ds) Q):wp (zg j f) Q:=hf j hj
theorem qg {K:AH→R} (w:wp (K h) Q):wp (jR [] h K) Q:=w
theorem jF {σ:Type} {f:(σ→AH→List Nat→R)→σ→AH→List Nat→R} {d:List Nat} (Inv:Nat→σ→AH→Prop)
  (step:∀m ih s h,(∀m' s' h',m'<m→Inv m' s' h'→wp (ih s' h' d) Q)→Inv m s h→wp (f ih s h d) Q):∀{N m:Nat} {s:σ} {h:AH},m<N→Inv m s h→wp (wN N f s h d) Q:=by
 intro N
 induction N with
 |zero=>intro m s h hm;omega
 |succ N ih=>intro m s h hm hi;show wp (f (wN N f) s h d) Q;exact step m _ s h (λm' s' h' ae oW=>ih omQ oW) hi
theorem qW {c:CV} {f:AV} {as:List AV} {K:AV→AH→R} (w:wp (c f as h) Q') (hk:∀v h',Q' v h'→wp (K v h') Q):wp (jC c f as h K) Q:=by obtain⟨v,h',e,q⟩:=w;rw[Qb,e];exact hk v h' q
theorem qzF {tab:BT} {rt:List RT} {n:Nat} {f:FuncId} {as:List AV} {g:WF} (hg:tab.get f=some g):callT tab rt (n+1) (.fn f [] []) as h=g (callT tab rt n) as h:=by simp_all[R,callT,List.nil_append,List.append_nil]
theorem qqa {tab:BT} {rt:List RT} {n:Nat} {f:FuncId} {a1 a2 as:List AV} {g:WF} (hg:tab.get f=some g):callT tab rt (n+1) (.fn f a1 a2) as h=g (callT tab rt n) (a1++as++a2) h:=by simp_all[R,callT]
end Go.Ae
namespace Go.Ae
open Go
def kA (z:Nat) (c:CV):CV:=λv as h=>match v,as with
 | .fn f [] [],[]=>if f=z then some (.bool true,h)else c v as h
 |_,_=>c v as h
theorem qWe {z:Nat} {c:CV} {h:AH}:kA z c (.fn z [] []) [] h=some (.bool true,h):=iJ rfl
theorem qJm {z f:Nat} {c:CV} {as:List AV} {h:AH} (hf:f≠z):kA z c (.fn f [] []) as h=c (.fn f [] []) as h:=by
 cases as with
 |nil=>exact iQ hf
 |cons a as=>rfl
theorem qE {tab:BT} {rt:List RT} {n:Nat} {f:FuncId} {as:List AV} {g:WF} {h:AH} {Q:AV→AH→Prop} (hg:tab.get f=some g) (hn:1≤n) (w:∀k,n=k+1→wp (g (callT tab rt k) as h) Q):wp (callT tab rt n (.fn f [] []) as h) Q:=by obtain⟨k,rfl⟩:∃k,n=k+1:=⟨n-1,by omega⟩;rw[qzF hg];exact w k rfl
theorem Wr {tab:BT} {rt:List RT} {n:Nat} {f:FuncId} {a1 a2 as:List AV} {g:WF} {h:AH} {Q:AV→AH→Prop} (hg:tab.get f=some g) (hn:1≤n) (w:∀k,n=k+1→wp (g (callT tab rt k) (a1++as++a2) h) Q):wp (callT tab rt n (.fn f a1 a2) as h) Q:=by obtain⟨k,rfl⟩:∃k,n=k+1:=⟨n-1,by omega⟩;rw[qqa hg];exact w k rfl
theorem zP {z:Nat} {c:CV} {f:FuncId} {as:List AV} {h:AH} {Q Q':AV→AH→Prop} {K:AV→AH→R} (hf:f≠z) (w:wp (c (.fn f [] []) as h) Q') (hk:∀v h',Q' v h'→wp (K v h') Q):wp (jC (kA z c) (.fn f [] []) as h K) Q :=
 qW (by rw[qJm hf];exact w) hk
theorem qyR {z:Nat} {c:CV} {h:AH} {Q:AV→AH→Prop} {K:AV→AH→R} (hk:wp (K (.bool true) h) Q):wp (jC (kA z c) (.fn z [] []) [] h K) Q :=
 qW (Q':=λv h'=>v=.bool true∧h'=h) ⟨_,_,qWe,rfl,rfl⟩ (by rintro v h' ⟨rfl,rfl⟩;exact hk)
theorem Xr {P:Program} {m:Mp} {D:Nat→Prop} {h:AH} {w w':World} (R:Rel P m D h w) (B:RowKit.Below w.heap.size w w'):Ext m D h w m D h w'∧Rel P m D h w':=by
 refine Ext.rel R ?_;refine⟨⟨λ_ x=>x,λ_ _=>rfl,B.size,λc hc hn=>⟨B.block c hc,hn⟩,Nat.le_refl _,λ_ _ hn=>⟨rfl,hn⟩,B.os,B.tape,B.output,λb=>⟨.inl,λhb=>hb.elim id λhb=>by omega⟩,λ_ _ h1 h2=>⟨h1,h2⟩⟩,?_,R.inj,R.lt,R.cO⟩;intro b hb;obtain⟨x,hx,hr,hd⟩:=R.bf b hb;refine⟨x,hx,?_,hd⟩;cases x with
 |dead=>trivial
 |cO t=>exact hr.congr (λ_ _=>rfl) hd (B.block _ hr.iy)
 |_=>exact hr.congr (λ_ _=>rfl) hd (B.block _ (cW.inside (by trivial) hr))
theorem qJf {P:Program} {c:CV} (hc:yh P c) {z:Nat} (BM:∀(as:Array Value) (W:World),(callFunc z as).run P W=.ok (.enter z as) W)
  (cQ:∀(w:World) (n:Nat),Gl P w→CallsIn Fence.wide n P z #[] w λe w'=>e=.returned (.bool true)∧RowKit.Below w.heap.size w w'):yh P (kA z c):=by
 intro vf as h r e m D w R hv ha;unfold kA at e
 split at e
 ·rename_i f
  split at e
  ·rename_i hf;subst hf;cases e;refine⟨BM,λn=>CallsIn.mono (cQ w n R.gl.gl) ?_⟩;rintro ee w' ⟨rfl,B⟩;obtain⟨X,R'⟩:=Xr R B;exact⟨m,D,rfl,X,R',trivial⟩
  ·exact hc _ _ _ _ e m D w R hv ha
 ·exact hc _ _ _ _ e m D w R hv ha
theorem open_law {P:Program} {tab:BT} {rt:List RT} (hm:P.follows .mixedOrders=true) (ht:TabOk P tab rt) {z:Nat} {gz:WF} (hz:tab.get z=some gz)
  (cQ:∀(w:World) (n:Nat),Gl P w→CallsIn Fence.wide n P z #[] w λe w'=>e=.returned (.bool true)∧RowKit.Below w.heap.size w w')
  {f:FuncId} {g:WF} (hg:tab.get f=some g) {k:Nat} {as:List AV} {w:World} {h:AH} (M:kc w h) (hgl:Gl P w) (ha:aT (gY w) as)
  (e:wp (g (kA z (callT tab rt k)) as h) λv _=>v=.bool true) (n:Nat):CallsIn Fence.wide n P f (aQ G4 as).toArray w λe w'=>e=.returned (.bool true)∧RowKit.Below w.heap.size w w':=by
 obtain⟨v,h',e,rfl⟩:=e;have hc:=qJf (O7 hm ht k) (ht.enter z gz hz) cQ;refine CallsIn.mono ((ht.w f g hg).call hc (Wk hm hc) e (M.rel hgl) ha n) ?_;rintro ee w' ⟨m',D',rfl,X,R',_⟩;exact⟨rfl,X.os,X.tape,X.output,X.size,λk hk=>(X.keep k hk (λ⟨b,hb,hl,_⟩=>M.mr hb hl)).1⟩
theorem Ps {P:Program} {h:AH} {d:Nat} {t0:TypeId} {l:List AV} (H:IH P h d [t0] l):∃a0,l=[a0]∧Fe P h d t0 a0:=by
 cases l with
 |nil=>trivial
 |cons a0 l=>
 obtain⟨h0,H⟩:=H;cases l with
 |cons _ _=>trivial
 |nil=>grind
end Go.Ae
namespace Go.Ae
open Go
variable {Q:AV→AH→Prop} {h h' nN:AH} {K:AV→R} {K2:AV→AH→R} {K1:AH→R} {b off n sz:Nat} {xs ys l:List AV} {e:TypeId} {o:Bool} {x v:AV} {k:IntKind}
def CT.full:CT→Prop
 | .ff _=>True
 | .tree n z tr=>∀i,i<n→∃v,Qm z tr i=some v
theorem CT.p8 {c:CT} (hc:c.full) (i:Nat):c.fg i=c.toList[i]?:=by
 cases c with
 |ff xs=>exact xr xs i
 |tree n z tr=>
  simp only[CT.fg,CT.toList,List.getElem?_map];cases hb:Nat.ble (i+1) n
  ·have:=KB hb;grind
  ·have:=gI hb;obtain⟨v,hv⟩:=hc i omQ;rw[cond_true,List.getElem?_range omQ,hv];simp_all[Option.map_some,YQ]
theorem Ws {z:List AV} {t:aE AV}:∀{l:List AV} {i:Nat},(∀k,k<l.length→Qm z t (i+k)=l[k]?)→JC z t i l.length=some l:=by
 intro l
 induction l with
 |nil=>intro i _;rfl
 |cons a l ih=>intro i H;rw[List.length_cons,Nc];have h0:=H 0 aA;simp only[Nat.add_zero,List.getElem?_cons_zero]at h0;rw[h0,Option.bind_some,ih (i:=i+1) (λk hk=>by have:=H (k+1) (by grind);grind)];rfl
theorem VR {t:aE AV} {i:Nat}:Qm [] t i=aE.get t i:=by
 grind[vF,U3]
theorem Yw {α:Type} {xs l:List α} {off:Nat} (H:∀i,i<l.length→xs[off+i]? =l[i]?):(xs.drop off).take l.length=l:=by
 apply List.ext_getElem?;grind
theorem X7 (hl:0<l.length) (H:∀i,i<l.length→h.at b (off+i)=l[i]?):vK h b off l.length=some l:=by
 have hd:∀i,i<l.length→∃u,l[i]? =some u:=λi hi=>⟨_,iW hi⟩;have bP:=H (l.length-1) omQ;obtain⟨u,hu⟩:=hd (l.length-1) omQ;unfold AH.at at H bP;unfold vK;cases hg:h.get b with
 |none=>grind
 |some x=>
  simp only[hg]at H bP;cases x with
  |cells c e o=>
   simp only at H bP ⊢;cases c with
   |ff ys=>simp only[CT.fg,xr]at H bP;grind[CT.iO,kP,List.getElem?_eq_some_iff,wG,Yw]
   |tree m z tr=>
    simp only[CT.fg]at H bP;have hm:off+l.length≤m:=by
     rw[hu]at bP;cases hb:Nat.ble (off+(l.length-1)+1) m
     ·grind
     simp_all;omega
    simp only[CT.iO];rw[show Nat.beq l.length 0=false from vY omQ,cond_false,iY hm,cond_true];refine Ws λk hk=>?_;grind
  |cO t=>grind[Ws,VR]
  |_=>grind
theorem QO (hx:h.at b off=some x) (w:wp (K x) Q):wp (ql h (.ptr b off) K) Q:=by
 unfold AH.at at hx;rw[gX];simp only
 split at hx
 ·rename_i hg;rw[hg];simp only[hx,ob];exact w
 ·rename_i hg;rw[hg];simp only[hx,ob];exact w
 ·cases hx
theorem Zy (hl:l.length=n) (hn:0<n) (H:∀i,i<n→h.at b (off+i)=l[i]?) (w:wp (K (.agg l)) Q):wp (q8 h (.ptr b off) n K) Q:=by subst hl;rw[kG];simp only[X7 hn H,ob];exact w
structure Fr (fp:Nat→Prop) (h h':AH):Prop where
  nx:h.nx≤h'.nx
  get:∀b,b<h.nx→¬fp b→h'.get b=h.get b
theorem Fr.refl (fp:Nat→Prop) (h:AH):Fr fp h h:=⟨Nat.le_refl _,λ_ _ _=>rfl⟩
theorem Fr.mono {fp fq:Nat→Prop} (F:Fr fp h h') (H:∀b,b<h.nx→fp b→fq b):Fr fq h h':=⟨F.nx,λb hb hn=>F.get b hb λhf=>hn (H b hb hf)⟩
theorem Fr.trans {fp fq:Nat→Prop} (F:Fr fp h h') (G:Fr fq h' nN):Fr (λb=>fp b∨fq b) h nN :=
 ⟨Nat.le_trans F.nx G.nx,λb hb hn=>(G.get b (Nat.lt_of_lt_of_le hb F.nx) λhf=>hn (.inr hf)).trans (F.get b hb λhf=>hn (.inl hf))⟩
abbrev rT (N:Nat) (h h':AH):Prop:=Fr (λb=>N≤b) h h'
theorem rT.refl (N:Nat) (h:AH):rT N h h:=Fr.refl _ _
theorem rT.step {N:Nat} {fp:Nat→Prop} (F:rT N h h') (G:Fr fp h' nN) (H:∀b,fp b→N≤b):rT N h nN :=
 (F.trans G).mono λb _ hb=>hb.elim id (H b)
structure Row (h:AH) (b:Nat) (xs:List AV) (e:TypeId) (o:Bool):Prop where
  lt:b<h.nx
  bf:∃c,h.get b=some (.cells c e o)∧c.toList=xs∧c.full
theorem Row.fr {fp:Nat→Prop} (A:Row h b xs e o) (F:Fr fp h h') (hb:¬fp b):Row h' b xs e o :=
 ⟨Nat.lt_of_lt_of_le A.lt F.nx,by rw[F.get b A.lt hb];exact A.bf⟩
theorem Row.at (A:Row h b xs e o) (i:Nat):h.at b i=xs[i]?:=by
 obtain⟨c,h1,rfl,h3⟩:=A.bf;grind[AH.at,CT.p8]
theorem Wt {fp:Nat→Prop} {i:Nat} (F:Fr fp h h') (hb:b<h.nx) (hf:¬fp b):h'.at b i=h.at b i:=by unfold AH.at;rw[F.get b hb hf]
theorem CT.bx (xs:List AV):(CT.ofList xs).full:=by
 unfold CT.ofList;cases Nat.ble xs.length 16
 ·intro i hi;simp_all[VR,kD,omQ,Nat.sub_zero]
 trivial
theorem CT.sI (z:List AV) (n:Nat):(CT.C3 z n).full:=by
 unfold CT.C3;cases hb:Nat.ble (z.length*n) 16
 ·intro i hi;have h1:=KB hb;have hz:0<z.length:=Nat.pos_of_ne_zero λh0=>by grind
  have hm:=Nat.mod_lt i hz;refine⟨z[i%z.length],?_⟩;rw[vF,show aE.get (PT.e:aE AV) i=none from aE.ft i];simp[xr]
 trivial
theorem NM {z:List AV} {t:aE AV} {i:Nat} {xs:List AV} {j:Nat}:Qm z (ZS t i xs) j=if i≤j∧j<i+xs.length then xs[j-i]? else Qm z t j:=by
 rw[vF,vF,kD];grind
theorem CT.oe {c c':CT} (hc:c.full) (e:c.write off xs=some c'):c'.full:=by
 cases c with
 |ff ys=>simp only[CT.write,Option.bind_eq_some_iff]at e;obtain⟨s,_,e⟩:=e;cases e;trivial
 |tree n z tr=>
  simp only[CT.write,jO]at e;obtain⟨_,e⟩:=e;cases e;intro i hi;rw[NM];by_cases hj:off≤i∧i<off+xs.length
  ·rw[iJ hj];exact⟨_,iW omQ⟩
  ·rw[iQ hj];exact hc i hi
theorem CT.og {c:CT} (ho:off+xs.length≤c.toList.length):∃c',c.write off xs=some c':=by
 cases c with
 |ff ys=>exact⟨_,by simp only[CT.write];rw[Kg (show off+xs.length≤ys.length from ho)];rfl⟩
 |tree n z tr=>simp_all[CT.write,iY,CT.toList,cond_true]
theorem CT.sJ {c:CT} (hc:c.full) (xs:List AV):(c.ix xs).full:=by
 cases c with
 |ff ys=>exact CT.bx _
 |tree n z tr=>
  intro i hi;rw[NM];by_cases hj:n≤i∧i<n+xs.length
  ·rw[iJ hj];exact⟨_,iW omQ⟩
  ·rw[iQ hj];exact hc i omQ
theorem CT.sK {c:CT} (hc:c.full) (hn:n≤c.toList.length):∃c',c.pre n=some c'∧c'.toList=c.toList.take n∧c'.full:=by
 have key:∃c',c.pre n=some c'∧c'.full:=by
  cases c with
  |ff ys=>exact⟨.ff (ys.take n),by simp only[CT.pre];rw[wG (show n≤ys.length from hn)];rfl,trivial⟩
  |tree m z tr=>
   have hm:n≤m:=by grind[CT.toList]
   exact⟨.tree n z tr,by simp_all[CT.pre,iY,cond_true],λi hi=>hc i omQ⟩
 obtain⟨c',h1,h2⟩:=key;have h3:=CT.nY h1;grind[wG,Option.some.inj]
def wL (xs:List AV) (off:Nat) (ys:List AV):List AV:=xs.take off++ys++xs.drop (off+ys.length)
theorem GR (ho:off+ys.length≤xs.length):(wL xs off ys).length=xs.length:=by grind[wL]
theorem qW8 (ho:off+ys.length≤xs.length) (i:Nat):(wL xs off ys)[i]? =if off≤i∧i<off+ys.length then ys[i-off]? else xs[i]?:=by
 unfold wL;by_cases h1:i<off
 ·grind
 grind
theorem Gr {y:AV} (ho:off<xs.length):wL xs off [y]=xs.set off y:=by
 apply List.ext_getElem?;intro i;rw[qW8 (by grind),List.getElem?_set];grind
theorem Kf (A:Row h b xs e o) (ho:off+ys.length≤xs.length) (h1:jV ys=true):∃h',wx h b off ys=some h'∧Row h' b (wL xs off ys) e o∧Fr (λa=>a=b) h h'∧h'.nx=h.nx:=by obtain⟨c,g1,rfl,g3⟩:=A.bf;obtain⟨c',mi⟩:=CT.og (c:=c) ho;have h2:=CT.mV mi;rw[Kg ho]at h2;refine⟨h.put b (.cells c' e o),?_,⟨A.lt,c',AH.aN ..,(Option.some.inj h2).symm,CT.oe g3 mi⟩,⟨Nat.le_refl _,λa _ hn=>AH.br h _ (λe=>hn e.symm)⟩,rfl⟩;simp_all[wx,cond_true,Option.bind_some]
theorem Wu (A:Row h b xs e o) (hn:x.cells.length=n) (ho:off+n≤xs.length) (h1:jV x.cells=true)
  (w:∀h',Row h' b (wL xs off x.cells) e o→Fr (λa=>a=b) h h'→h'.nx=h.nx→wp (K1 h') Q):wp (qn h (.ptr b off) x n K1) Q:=by
 subst hn;obtain⟨h',g1,g2,g3,g4⟩:=Kf A ho h1;rw[Kz];simp only[Nat.beq_refl,cond_true,g1,ob];exact w h' g2 g3 g4
theorem Row.new {c:CT} (hc:c.full):Row (h.new (.cells c e o)) h.nx c.toList e o∧Fr (λ_=>False) h (h.new (.cells c e o)) :=
 ⟨⟨by simp,c,AH.bw ..,rfl,hc⟩,⟨by simp,λb hb _=>AH.bL h _ omQ⟩⟩
theorem qw5 (h1:jV x.cells=true) (w:∀b h',h.nx≤b→Row h' b x.cells e false→Fr (λ_=>False) h h'→wp (K2 (.ptr b 0) h') Q):wp (vQ h e x K2) Q:=by unfold vQ;rw[h1,cond_true];obtain⟨a1,a2⟩:=Row.new (h:=h) (e:=e) (o:=false) (CT.bx x.cells);rw[CT.aD]at a1;exact w h.nx _ (Nat.le_refl _) a1 a2
theorem qy {z:List AV} {vs:List (Nat×Nat×AV)} (hf:vG z vs=some l) (w:wp (K (.agg l)) Q):wp (jf z vs K) Q:=by unfold jf;rw[hf];exact w
theorem qVi {z:List AV} {vs:List (Nat×Nat×AV)} (hf:vG (gA z n) vs=some l) (h1:jV l=true)
  (w:∀b h',h.nx≤b→Row h' b l e false→Fr (λ_=>False) h h'→wp (K2 (.slice b 0 n n false) h') Q):wp (zR h e z n vs K2) Q:=by
 unfold zR;simp only[hf,ob,h1,cond_true];obtain⟨a1,a2⟩:=Row.new (h:=h) (e:=e) (o:=false) (CT.bx l);rw[CT.aD]at a1;exact w h.nx _ (Nat.le_refl _) a1 a2
theorem Uh (z:AV):∀n,gA [z] n=List.replicate n z:=by
 intro n
 induction n with
 |zero=>rfl
 |succ n ih=>rw[gA,ih,List.replicate_succ];rfl
theorem Og {z:List AV} {ln cp:Nat} {k1 k2:IntKind} (h1:ln≤cp) (h2:cp≤1073741824)
  (w:∀b h',h.nx≤b→Row h' b (gA z cp) e false→Fr (λ_=>False) h h'→wp (K2 (.slice b 0 ln cp false) h') Q):wp (QC h e z (.int k1 (ln:Int)) (.int k2 (cp:Int)) K2) Q:=by
 show wp (bif Nat.ble ln cp&&Nat.ble cp 1073741824 then K2 (.slice h.nx 0 ln cp false) (h.new (.cells (CT.C3 z cp) e false))else none) Q;rw[iY h1,iY h2];obtain⟨a1,a2⟩:=Row.new (h:=h) (e:=e) (o:=false) (CT.sI z cp);rw[CT.nX]at a1;exact w h.nx _ (Nat.le_refl _) a1 a2
theorem qc {f:Nat} (w:wp (K (.ptr b (off+f))) Q):wp (qI (.ptr b off) f K) Q:=w
theorem Ui {f:Nat} (hx:l[f]? =some x) (w:wp (K x) Q):wp (Xk (.agg l) f K) Q:=by rw[KI];simp only[xr,hx,ob];exact w
theorem Ju {cp i:Nat} (hi:i<n) (w:wp (K (.ptr b (off+i*sz))) Q):wp (xy (.slice b off n cp o) (.int k (i:Int)) sz K) Q:=by rw[UH];show wp (bif Nat.ble (i+1) n then K (.ptr b (off+i*sz))else none) Q;rw[iY hi,cond_true];exact w
theorem qA {i:Nat} (hx:l[i]? =some x) (w:wp (K x) Q):wp (zX (.bm l) i K) Q:=by rw[XZ];simp only[xr,hx,ob];exact w
def AH.rd (h:AH) (b:Nat):Prop:=match h.get b with
 |some (.cells _ _ _)=>True
 |some (.cO _)=>True
 |_=>False
theorem Wv {fp:Nat→Prop} (F:Fr fp h h') (hb:b<h.nx) (hf:¬fp b) (hr:h.rd b):h'.rd b:=by unfold AH.rd at*;rw[F.get b hb hf];grind
theorem Row.rd (A:Row h b xs e o):h.rd b:=by obtain⟨c,h1,_⟩:=A.bf;grind[AH.rd]
inductive Sl (D:Nat→Prop) (h:AH) (sz:Nat):Nat→AV→List AV→Prop
  |ad:Sl D h sz 0 .ad []
  |bX (a:Addr):Sl D h sz 0 (.bX a) []
  |tail (b off pL i1:Nat):Sl D h sz 0 (.tail b off pL i1) []
  |mk {b off n cp:Nat} {o:Bool} {xs:List AV} (hd:D b) (hb:b<h.nx) (hr:h.rd b) (hl:xs.length=n*sz) (ha:∀i,i<n*sz→h.at b (off+i)=xs[i]?):Sl D h sz n (.slice b off n cp o) xs
theorem Sl.len {D:Nat→Prop} (S:Sl D h sz n v xs):xs.length=n*sz:=by
 cases S with
 |ad=>simp
 |bX a=>simp
 |tail b o o' i=>simp
 |mk hd hb hr hl ha=>grind
theorem Sl.fr {D fp:Nat→Prop} (S:Sl D h sz n v xs) (F:Fr fp h h') (hD:∀b,D b→¬fp b):Sl D h' sz n v xs:=by
 cases S with
 |ad=>exact .ad
 |bX a=>exact .bX a
 |tail b o o' i=>exact .tail b o o' i
 |mk hd hb hr hl ha=>exact .mk hd (Nat.lt_of_lt_of_le hb F.nx) (Wv F hb (hD _ hd) hr) hl λi hi=>by grind[Wt]
theorem Sl.mono {D D':Nat→Prop} (S:Sl D h sz n v xs) (hD:∀b,D b→D' b):Sl D' h sz n v xs:=by
 cases S with
 |ad=>exact .ad
 |bX a=>exact .bX a
 |tail b o o' i=>exact .tail b o o' i
 |mk hd hb hr hl ha=>exact .mk (hD _ hd) hb hr hl ha
theorem Sl.cr {D:Nat→Prop} (S:Sl D h sz n v xs) (F:rT h.nx h h'):Sl D h' sz n v xs:=by
 cases S with
 |ad=>exact .ad
 |bX a=>exact .bX a
 |tail b o o' i=>exact .tail b o o' i
 |mk hd hb hr hl ha=>exact .mk hd (Nat.lt_of_lt_of_le hb F.nx) (Wv F hb omQ hr) hl λi hi=>by rw[Wt F hb omQ];grind
theorem Row.cr {N:Nat} (A:Row h b xs e o) (F:rT N h h') (hb:b<N):Row h' b xs e o:=A.fr F omQ
theorem zH {D:Nat→Prop} (S:Sl D h sz n v xs) (w:wp (K (.int .i64 (n:Int))) Q):wp (xi v K) Q:=by
 cases S<;>exact w
theorem Pt {D:Nat→Prop} {i:Nat} (S:Sl D h sz n v xs) (hi:i<n) (w:∀b off,b<h.nx→D b→(∀j,j<sz→h.at b (off+j)=xs[i*sz+j]?)→wp (K (.ptr b off)) Q):wp (xy v (.int k (i:Int)) sz K) Q:=by
 cases S with
 |ad=>omega
 |bX a=>omega
 |tail b o o' i=>omega
 |mk hd hb hr hl ha=>
  refine Ju hi (w _ _ hb hd λj hj=>?_)
  rw[Nat.add_assoc,ha _ (by
   have:i*sz+sz≤n*sz:=by rw[← Nat.succ_mul];exact Nat.mul_le_mul_right sz hi
   omega)]
theorem Sl.uu {D:Nat→Prop} {cp:Nat} (A:Row h b xs e o) (hd:D b) (ho:xs.length=n*sz):Sl D h sz n (.slice b 0 n cp o) xs :=
 .mk hd A.lt A.rd ho λi _=>by rw[A.at,Nat.zero_add]
theorem vZ {y d i:Nat} (hi:i≤y):vO (some (.int k (i:Int))) y d=some i:=by show(bif Nat.ble i y then some i else none)=some i;rw[iY hi];rfl
theorem NR {el cp lo hi:Nat} {Ff Fg:Option AV} (hh:vO Fg cp n=some hi) (hl:vO Ff hi 0=some lo) (w:wp (K (.slice b (bif Nat.beq cp lo then off else off+lo*sz) (hi-lo) (cp-lo) false)) Q):wp (yX h el sz (.slice b off n cp false) Ff Fg K) Q:=by unfold yX;simp only[hh,hl,ob];exact w
theorem Uq {i0 lo hi:Nat} {Ff Fg:Option AV} (A:Row h b xs e true) (bC:0<sz) (ho:off=i0*sz) (hx:off+n*sz≤xs.length) (hh:vO Fg n n=some hi) (hl:vO Ff hi 0=some lo) (ae:lo<n∨lo=0)
  (w:wp (K (.slice b (off+lo*sz) (hi-lo) (i0+lo) true)) Q):wp (yX h e sz (.slice b off n i0 true) Ff Fg K) Q:=by
 obtain⟨c,g1,g2,g3⟩:=A.bf;unfold yX;have hf:vL h e b off sz i0 n=true:=by unfold vL;rw[g1];simp only[Nat.beq_refl,Bool.true_and,Bool.and_eq_true];refine⟨iY bC,by simp_all,iY ?_⟩;grind[CT.dD]
 simp only[hf,cond_true,hh,hl,ob];by_cases h0:lo=0
 ·subst h0;simpa using w
 ·rw[show Nat.beq lo 0=false from vY h0,cond_false,iY (show lo+1≤n by omega),cond_true];exact w
def shut:AV→Bool
 | .slice _ _ _ _ o=>!o
 | .tail _ _ _ _=>false
 |_=>true
def Ww:AV→Prop
 | .slice _ _ n cp false=>n≤cp
 |_=>True
theorem qz4 {D:Nat→Prop} (S:Sl D h sz n v xs):KX v=some n:=by cases S<;>rfl
theorem CT.BN {c:CT} {ys:List AV} (H:∀i,i<ys.length→c.fg i=ys[i]?):∃c',c.pre ys.length=some c'∧c'.toList=ys∧c'.full:=by
 by_cases h0:ys.length=0
 ·have:=iA h0;subst this;cases c with
  |ff xs=>exact⟨.ff [],rfl,rfl,trivial⟩
  |tree m z tr=>exact⟨.tree 0 z tr,by rfl,rfl,λi hi=>by omega⟩
 ·have bP:=H (ys.length-1) omQ;rw[iW omQ]at bP;cases c with
  |ff xs=>simp only[CT.fg,xr]at H bP;have hl:=(List.getElem?_eq_some_iff.1 bP).1;refine⟨.ff (xs.take ys.length),by simp only[CT.pre];rw[wG omQ];rfl,?_,trivial⟩;have:=Yw (xs:=xs) (l:=ys) (off:=0) (λi hi=>by grind);trivial
  |tree m z tr=>
   simp only[CT.fg]at H bP;have hm:ys.length≤m:=by
    grind[Nat.ble,gI]
   have ht:∀i,i<ys.length→Qm z tr i=ys[i]?:=λi hi=>by
    grind
   refine⟨.tree ys.length z tr,by simp_all[CT.pre,iY,cond_true],?_,λi hi=>⟨_,(ht i hi).trans (iW hi)⟩⟩;apply List.ext_getElem?;intro i;simp only[CT.toList,List.getElem?_map];by_cases hi:i<ys.length
   all_goals simp_all[Option.map_some,YQ]
theorem qWU {D:Nat→Prop} (S:Sl D h sz n v ys):∃nc,Vb h sz n v=some nc∧nc.toList=ys∧nc.full:=by
 cases S with
 |ad=>exact⟨_,rfl,rfl,trivial⟩
 |bX a=>exact⟨_,rfl,rfl,trivial⟩
 |tail b o o' i=>exact⟨_,rfl,rfl,trivial⟩
 |mk hd hb hr hl ha=>
  rename_i b off cp o;have nu:0<ys.length→vK h b off ys.length=some ys:=λh0=>X7 h0 λi hi=>ha i omQ;unfold Vb;simp only[← hl];unfold AH.rd at hr;unfold AH.at at ha;unfold vK at nu
  split at hr
  ·rename_i c e' o' hg;simp only[hg]at ha nu ⊢;unfold CT.Ib;by_cases h0:off=0
   ·subst h0;rw[Nat.beq_refl,cond_true];obtain⟨c',h1,h2,h3⟩:=CT.BN (c:=c) (ys:=ys) λi hi=>by grind
    grind
   ·rw[show Nat.beq off 0=false from vY h0,cond_false];by_cases hy:0<ys.length
    ·rw[nu hy];exact⟨_,rfl,CT.aD ys,CT.bx ys⟩
    ·have:=iA (show ys.length=0 by omega);subst this;refine⟨CT.ofList [],?_,CT.aD [],CT.bx []⟩;cases c<;>rfl
  ·rename_i t hg;simp only[hg]at nu ⊢;by_cases hy:0<ys.length
   ·rw[nu hy];exact⟨_,rfl,CT.aD ys,CT.bx ys⟩
   ·have:=iA (show ys.length=0 by omega);subst this;exact⟨CT.ofList [],rfl,CT.aD [],CT.bx []⟩
  grind
def Acc (D:Nat→Prop) (h:AH) (e:TypeId) (sz n:Nat) (v:AV) (xs:List AV):Prop :=
 xs.length=n*sz∧(v=.ad∧n=0∨∃b,v=.slice b 0 n 0 true∧D b∧Row h b xs e true)
theorem Acc.ad {D:Nat→Prop}:Acc D h e sz 0 .ad []:=⟨by simp,.inl ⟨rfl,rfl⟩⟩
theorem Acc.sl {D:Nat→Prop} (A:Acc D h e sz n v xs):Sl D h sz n v xs:=by
 obtain⟨h1,⟨rfl,rfl⟩ |⟨b,rfl,h2,h3⟩⟩:=A
 ·obtain rfl:xs=[]:=iA (by grind);exact .ad
 ·exact .uu h3 h2 h1
theorem Acc.fr {D fp:Nat→Prop} (A:Acc D h e sz n v xs) (F:Fr fp h h') (hD:∀b,D b→¬fp b):Acc D h' e sz n v xs:=by
 obtain⟨h1,h2 |⟨b,rfl,h2,h3⟩⟩:=A
 ·exact⟨h1,.inl h2⟩
 ·exact⟨h1,.inr ⟨b,rfl,h2,h3.fr F (hD b h2)⟩⟩
theorem Acc.mono {D D':Nat→Prop} (A:Acc D h e sz n v xs) (hD:∀b,D b→D' b):Acc D' h e sz n v xs:=by
 obtain⟨h1,h2 |⟨b,rfl,h2,h3⟩⟩:=A
 ·exact⟨h1,.inl h2⟩
 ·exact⟨h1,.inr ⟨b,rfl,hD b h2,h3⟩⟩
end Go.Ae
namespace Go.Ae
open Go
variable {h:AH} {n sz:Nat} {xs:List AV}
theorem qK {b o:Nat} {K:AV→R} {Q:AV→AH→Prop} (w:wp (K (.ptr b o)) Q):wp (jo (.ptr b o) K) Q:=w
theorem jN {D:Nat→Prop} {v x:AV} {i:Nat} {k:IntKind} {K:AV→R} {Q:AV→AH→Prop} (S:Sl D h 1 n v xs) (hx:xs[i]? =some x) (w:wp (K x) Q):wp (xy v (.int k (i:Int)) 1 λp=>ql h p K) Q:=by
 have hi:i<n:=by have:=(List.getElem?_eq_some_iff.1 hx).1;have:=S.len;omega
 refine Pt S hi λb off _ _ H=>QO ?_ w;grind
theorem jU {D:Nat→Prop} {v x:AV} {i f:Nat} {k:IntKind} {K:AV→R} {Q:AV→AH→Prop} (S:Sl D h sz n v xs) (hf:f<sz) (hi:i<n) (hx:xs[i*sz+f]? =some x) (w:wp (K x) Q):wp (xy v (.int k (i:Int)) sz λp=>qI p f λq=>ql h q K) Q:=by refine Pt S hi λb off _ _ H=>qc (QO ?_ w);grind
theorem zj {D:Nat→Prop} {v:AV} {i:Nat} {l:List AV} {k:IntKind} {K:AV→R} {Q:AV→AH→Prop} (S:Sl D h sz n v xs) (hi:i<n) (h0:0<sz) (hl:(xs.drop (i*sz)).take sz=l) (w:wp (K (.agg l)) Q):wp (xy v (.int k (i:Int)) sz λp=>q8 h p sz K) Q:=by
 have hle:i*sz+sz≤n*sz:=by rw[← Nat.succ_mul];exact Nat.mul_le_mul_right sz hi
 have mY:=S.len;refine Pt S hi λb off _ _ H=>Zy (l:=l) (by grind) h0 (λj hj=>?_) w;grind
theorem qYn (a:Int):eV a a=true:=by simp[Ky]
theorem Wx (a:List UInt8):ig a a=true:=by simp[iB]
mutual
theorem Qx:∀v:AV,gJ v v=true
 | .bool b=>by simp[gJ]
 | .int k n=>by simp[gJ,qYn]
 | .str s=>by simp[gJ,Wx]
 | .ptr b o=>by simp[gJ,Nat.beq_refl]
 | .au=>rfl
 | .slice b o l c p=>by simp[gJ,Nat.beq_refl]
 | .ad=>rfl
 | .fn f a c=>by simp[gJ,Nat.beq_refl,QB a,QB c]
 | .yield l=>by simp[gJ,Nat.beq_refl]
 | .ei=>rfl
 | .iface t v=>by simp[gJ,Nat.beq_refl,Qx v]
 | .cN=>rfl
 | .agg l=>by simp[gJ,QB l]
 | .bm l=>by simp[gJ,QB l]
 | .bX a=>by simp[gJ]
 | .eO _=>by simp[gJ]
 | .tail b o o' i=>by simp[gJ,Nat.beq_refl]
theorem QB:∀l:List AV,Gg l l=true
 |[]=>rfl
 |a::r=>by simp[Gg,Qx a,QB r]
end
theorem Wy {b off:Nat} {x:AV} (hx:h.at b off=some x):xG (.ptr b off) none x h=true:=by
 grind[AH.at,xG,Qx]
theorem Wz {b off n:Nat} {l:List AV} (hl:l.length=n) (h0:0<n) (H:∀i,i<n→h.at b (off+i)=l[i]?):xG (.ptr b off) (some n) (.agg l) h=true:=by
 subst hl;have:=X7 h0 H;grind[vK,xG,Qx]
theorem qqB {a v:AV} {N nx:Nat} {hb ha:AH}:rY a (some N) v hb ha nx=(xG a (some N) v hb&&(xG a (some N) v ha&&D8 a nx)):=by cases a<;>rfl
theorem WA {hb ha:AH} {b off nx:Nat} {x:AV} {K:R} {Q:AV→AH→Prop} (h1:hb.at b off=some x) (h2:ha.at b off=some x) (ae:b<nx) (w:wp K Q):wp (ve (.ptr b off) none x hb ha nx K) Q:=by unfold ve rY;dsimp only;rw[Wy h1,Wy h2,show D8 (.ptr b off) nx=true from iY ae];exact w
theorem WB {hb ha:AH} {b off n nx:Nat} {l:List AV} {K:R} {Q:AV→AH→Prop} (hl:l.length=n) (h0:0<n) (h1:∀i,i<n→hb.at b (off+i)=l[i]?) (h2:∀i,i<n→ha.at b (off+i)=l[i]?) (ae:b<nx) (w:wp K Q) :
  wp (ve (.ptr b off) (some n) (.agg l) hb ha nx K) Q:=by
 unfold ve rY;dsimp only;rw[Wz hl h0 h1,Wz hl h0 h2,show D8 (.ptr b off) nx=true from iY ae];exact w
def Fh (v:AV) (n:Nat):Prop:=KX v=some n∧∀s,v≠.str s
theorem Sl.sL {D:Nat→Prop} {v:AV} (S:Sl D h sz n v xs):Fh v n:=by cases S<;>exact⟨rfl,λs hs=>by grind⟩
theorem z8 {v:AV} {K:AV→R} {Q:AV→AH→Prop} (H:Fh v n) (w:wp (K (.int .i64 (n:Int))) Q):wp (xi v K) Q:=by obtain⟨h1,h2⟩:=H;cases v<;>simp only[KX,reduceCtorEq,Option.some.injEq]at h1<;>subst h1<;>first |exact w |exact absurd rfl (h2 _)
theorem vD {α:Type} (enc:α→List AV) (he:∀a,(enc a).length=sz):∀l:List α,(l.flatMap enc).length=l.length*sz:=by
 intro l
 induction l with
 |nil=>simp
 |cons a l ih=>grind
theorem QW {α:Type} (enc:α→List AV) (he:∀a,(enc a).length=sz):∀(l:List α) (i:Nat),(l.flatMap enc).drop (i*sz)=(l.drop i).flatMap enc:=by
 intro l
 induction l with
 |nil=>simp
 |cons a l ih=>
  intro i;cases i with
  |zero=>simp
  |succ i=>
   rw[List.flatMap_cons,List.drop_succ_cons,← ih i,Nat.add_mul,Nat.one_mul,Nat.add_comm,← List.drop_drop]
   grind
theorem xl {α:Type} (enc:α→List AV) (he:∀a,(enc a).length=sz) (l:List α) (i j:Nat) (hj:j<sz):(l.flatMap enc)[i*sz+j]? =(l[i]?).bind λa=>(enc a)[j]?:=by
 rw[← List.getElem?_drop,QW enc he];cases hl:l[i]? with
 |none=>grind[List.drop_eq_nil_of_le,List.getElem?_eq_none_iff]
 |some a=>obtain⟨hi,e⟩:=List.getElem?_eq_some_iff.1 hl;simp_all[List.drop_eq_getElem_cons,List.flatMap_cons,List.getElem?_append_left]
theorem VA {α:Type} {Pr:α→Prop} (enc:α→List AV):∀{n:Nat} {xs:List AV},xs.length=n*sz→(∀i,i<n→∃a,Pr a∧(xs.drop (i*sz)).take sz=enc a)→
  ∃l:List α,l.length=n∧(∀a∈l,Pr a)∧xs=l.flatMap enc:=by
 intro n
 induction n with
 |zero=>simp
 |succ n ih=>
  intro xs hl H;obtain⟨a,ha,e⟩:=H 0 omQ;rw[Nat.zero_mul,List.drop_zero]at e;rw[Nat.add_mul,Nat.one_mul]at hl
  obtain⟨l,h1,h2,h3⟩:=ih (xs:=xs.drop sz) (by grind) (λi hi=>by
   obtain⟨b,hb,e⟩:=H (i+1) omQ;refine⟨b,hb,?_⟩
   rw[List.drop_drop,← e,Nat.add_mul,Nat.one_mul,Nat.add_comm])
  refine⟨a::l,by grind,λb hb=>?_,?_⟩
  ·grind
  ·rw[List.flatMap_cons,← e,← h3,List.take_append_drop]
theorem UD {P:Program} {d:Nat} {t e:TypeId} {v:AV} (hu:P.underlying t=some (.slice e)) (hs:P.cellsOf e=sz) (bC:0<sz) (H:WT P h (d+1) t [v]) :
  ∃n xs,Sl (λb=>b<h.nx) h sz n v xs∧n≤maxLen∧∀i,i<n→WT P h d e ((xs.drop (i*sz)).take sz):=by
 unfold WT at H;simp only[hu]at H;rcases H with h1 |⟨a,h1⟩ |h1 |⟨b,off,len,cap,h1,h2,h3,h4,⟨tt,h5⟩,h6⟩
 ·cases h1;exact⟨0,[],.ad,Nat.zero_le _,λi hi=>by omega⟩
 ·cases h1;exact⟨0,[],.bX a,Nat.zero_le _,λi hi=>by omega⟩
 ·omega
 ·cases h1;rw[hs]at h6;have key:∀k,k<len*sz→∃u,h.at b (off+k)=some u:=by
   intro k hk;have hm:=Nat.mod_lt k bC;obtain⟨row,r1,r2,_⟩:=h6 (k/sz) ((Nat.div_lt_iff_lt_mul bC).2 hk);have:=r2 (k%sz) hm;rw[iW omQ,Nat.add_assoc,Nat.mul_comm,Nat.div_add_mod]at this;grind
  refine⟨len,(List.range (len*sz)).map λk=>(h.at b (off+k)).getD .undef,.mk h4 h4 (by grind[AH.rd]) aA ?_,by omega,?_⟩
  ·grind
  ·intro i hi;obtain⟨row,r1,r2,r3⟩:=h6 i hi;have hle:i*sz+sz≤len*sz:=by rw[← Nat.succ_mul];exact Nat.mul_le_mul_right sz hi
   have:(((List.range (len*sz)).map λk=>(h.at b (off+k)).getD .undef).drop (i*sz)).take sz=row:=by
    apply List.ext_getElem?;intro j;by_cases hj:j<sz
    ·rw[List.getElem?_take_of_lt hj,List.getElem?_drop,List.getElem?_map,List.getElem?_range omQ,Option.map_some,← Nat.add_assoc,r2 j hj,iW omQ];rfl
    grind
   grind
theorem NP {P:Program} {d:Nat} {t e:TypeId} {v:AV} {k:IntKind} (hu:P.underlying t=some (.slice e)) (he:P.underlying e=some (.int k)) (hs:P.cellsOf e=1) (H:WT P h (d+2) t [v]) :
  ∃zs:List Int,Sl (λb=>b<h.nx) h 1 zs.length v (zs.map (.int k))∧∀z∈zs,k.min≤z∧z≤k.max:=by
 obtain⟨n,xs,S,_,H⟩:=UD hu hs omQ H
 obtain⟨zs,h1,h2,h3⟩:=VA (α:=Int) (Pr:=λz=>k.min≤z∧z≤k.max) (λz=>[.int k z]) S.len (λi hi=>by
  grind[WT])
 refine⟨zs,?_,h2⟩;rw[h1];have:xs=zs.map (.int k):=by rw[h3];clear h1 h2 h3 S;induction zs with |nil=>rfl |cons a l ih=>grind
 grind
end Go.Ae
namespace Go.Ae
open Go
structure SP where
  p:(Nat→Prop)→AH→Prop
  loc:∀{D:Nat→Prop} {h h':AH},p D h→h.nx≤h'.nx→(∀b,D b→h'.get b=h.get b)→p D h'
def mu:List SP→(Nat→Prop)→AH→Prop
 |[],D,_=>∀b,¬D b
 |P::L,D,h=>∃D1 D2:Nat→Prop,(∀b,D b↔D1 b∨D2 b)∧(∀b,D1 b→¬D2 b)∧P.p D1 h∧mu L D2 h
theorem mu.loc {L:List SP}:∀{D:Nat→Prop} {h h':AH},mu L D h→h.nx≤h'.nx→(∀b,D b→h'.get b=h.get b)→mu L D h':=by
 induction L with
 |nil=>intro D h h' H _ _;exact H
 |cons P L ih=>intro D h h' ⟨D1,D2,e,d,p,r⟩ hn hg;exact⟨D1,D2,e,d,P.loc p hn λb hb=>hg b ((e b).2 (.inl hb)),ih r hn λb hb=>hg b ((e b).2 (.inr hb))⟩
structure HS (g h:AH) (L:List SP):Prop where
  cr:rT g.nx g h
  own:∃D:Nat→Prop,(∀b,D b→g.nx≤b∧b<h.nx)∧mu L D h
variable {g h h':AH} {P P':SP} {L R:List SP}
theorem HS.nx (H:HS g h L):g.nx≤h.nx:=H.cr.nx
theorem HS.act (H:HS g h (P::R)):∃D:Nat→Prop,P.p D h∧(∀b,D b→g.nx≤b∧b<h.nx)∧
  ∀(h':AH) (P':SP) (D':Nat→Prop),Fr D h h'→P'.p D' h'→(∀b,D' b→(D b∨h.nx≤b)∧b<h'.nx)→HS g h' (P'::R):=by
 obtain⟨ho,D0,hb,D1,D2,he,hd,p,r⟩:=H;refine⟨D1,p,λb h1=>hb b ((he b).2 (.inl h1)),λh' P' D' F p' WC=>?_⟩;have hn:=ho.nx;refine⟨ho.step F λb h1=>(hb b ((he b).2 (.inl h1))).1,λb=>D' b∨D2 b,?_,D',D2,λb=>Iff.rfl,?_,p',?_⟩
 ·rintro b (h1 |h1)
  ·grind
  ·have:=hb b ((he b).2 (.inr h1));have h4:=F.nx;grind
 ·grind
 ·exact r.loc F.nx λb h2=>F.get b (hb b ((he b).2 (.inr h2))).2 λh1=>hd b h1 h2
inductive aR:List SP→SP→List SP→Prop
  |here {P:SP} {R:List SP}:aR (P::R) P R
  |there {Q P:SP} {L R:List SP} (s:aR L P R):aR (Q::L) P (Q::R)
theorem aR.Fi (s:aR L P R):∀{D:Nat→Prop} {h:AH},mu L D h→∃D1 D2:Nat→Prop,(∀b,D b↔D1 b∨D2 b)∧(∀b,D1 b→¬D2 b)∧P.p D1 h∧mu R D2 h:=by
 induction s with
 |here=>exact λH=>H
 |there s ih=>
  rintro D h ⟨D1,D2,e,d,q,r⟩;obtain⟨E1,E2,e',d',p,r'⟩:=ih r;refine⟨E1,λb=>D1 b∨E2 b,λb=>?_,λb h1 h2=>?_,p,D1,E2,λb=>Iff.rfl,λb h1 h2=>d b h1 ((e' b).2 (.inr h2)),q,r'⟩
  all_goals grind
theorem HS.ah (H:HS g h L) (s:aR L P R):HS g h (P::R):=⟨H.cr,H.own.imp λ_ h1=>⟨h1.1,s.Fi h1.2⟩⟩
theorem aR.gib (s:aR L P R):∀{D1 D2:Nat→Prop} {h:AH},(∀b,D1 b→¬D2 b)→P.p D1 h→mu R D2 h→mu L (λb=>D1 b∨D2 b) h:=by
 induction s with
 |here=>exact λ{D1 D2 h} d p r=>⟨D1,D2,λ_=>Iff.rfl,d,p,r⟩
 |there s ih=>
  rintro D1 D2 h d p ⟨E1,E2,e,d',q,r⟩;refine⟨E1,λb=>D1 b∨E2 b,λb=>?_,λb h1 h2=>?_,q,ih (λb h1 h2=>d b h1 ((e b).2 (.inr h2))) p r⟩
  all_goals grind
theorem HS.dh (s:aR L P R) (H:HS g h (P::R)):HS g h L:=by obtain⟨ho,D,hb,D1,D2,e,d,p,r⟩:=H;refine⟨ho,λb=>D1 b∨D2 b,λb h1=>hb b ((e b).2 h1),s.gib d p r⟩
theorem HS.drop (H:HS g h (P::R)):HS g h R:=by obtain⟨ho,D,hb,D1,D2,e,d,p,r⟩:=H;exact⟨ho,D2,λb h2=>hb b ((e b).2 (.inr h2)),r⟩
theorem aR.skip (A:List SP) (s:aR L P R):aR (A++L) P (A++R):=by
 induction A with
 |nil=>grind
 |cons Q A ih=>exact .there ih
theorem HS.back {A:List SP} (H:HS g h (P::(A++R))):HS g h (A++P::R):=HS.dh (aR.skip A .here) H
inductive Sub:List SP→List SP→Prop
  |refl {L:List SP}:Sub L L
  |cons {L L1 L':List SP} {P:SP} (s:aR L P L1) (t:Sub L1 L'):Sub L (P::L')
  |drop {Q:SP} {L L':List SP} (t:Sub L L'):Sub (Q::L) L'
theorem Sub.Fi {L L':List SP} (t:Sub L L'):∀{D:Nat→Prop} {h:AH},mu L D h→∃D':Nat→Prop,(∀b,D' b→D b)∧mu L' D' h:=by
 induction t with
 |refl=>grind
 |cons s t ih=>intro D h H;obtain⟨D1,D2,e,d,p,r⟩:=s.Fi H;obtain⟨D',h1,h2⟩:=ih r;exact⟨λb=>D1 b∨D' b,λb hb=>(e b).2 (hb.imp id (h1 b)),D1,D',λ_=>Iff.rfl,λb hb h3=>d b hb (h1 b h3),p,h2⟩
 |drop t ih=>intro D h ⟨D1,D2,e,d,p,r⟩;grind
theorem HS.sub {L L':List SP} (H:HS g h L) (t:Sub L L'):HS g h L':=by obtain⟨ho,D,hb,r⟩:=H;obtain⟨D',h1,h2⟩:=t.Fi r;exact⟨ho,D',λb h=>hb b (h1 b h),h2⟩
def II:Nat→List SP→Option (SP×List SP)
 | 0,P::L=>some (P,L)
 |i+1,P::L=>match II i L with
  |some x=>some (x.1,P::x.2)
  |none=>none
 |_,[]=>none
def Dl:Nat→List SP→List SP
 | 0,L=>L
 |k+1,_::L=>Dl k L
 |_+1,[]=>[]
def IJ:List Nat→Nat→List SP→List SP
 |[],k,L=>Dl k L
 |i::is,k,L=>match II i L with
  |some x=>x.1::IJ is k x.2
  |none=>L
theorem qyD:∀{i:Nat} {L:List SP} {x:SP×List SP},II i L=some x→aR L x.1 x.2:=by
 intro i
 induction i with
 |zero=>
  intro L x h;cases L with
  |nil=>cases h
  |cons P L=>cases h;exact .here
 |succ i ih=>
  intro L x h;cases L with
  |nil=>cases h
  |cons P L=>
   unfold II at h
   split at h
   ·rename_i y hy;cases h;exact .there (ih hy)
   grind
theorem Sub.Dl:∀(k:Nat) (L:List SP),Sub L (Dl k L)
 | 0,_=>.refl
 |k+1,_::L=>.drop (Sub.Dl k L)
 |_+1,[]=>.refl
theorem Sub.pk:∀(is:List Nat) (k:Nat) (L:List SP),Sub L (IJ is k L)
 |[],k,L=>Sub.Dl k L
 |i::is,k,L=>by
  unfold IJ
  split
  ·rename_i x hx;exact .cons (qyD hx) (Sub.pk is k x.2)
  ·exact .refl
theorem HS.pk {L:List SP} (H:HS g h L) (is:List Nat) (k:Nat):HS g h (IJ is k L):=H.sub (Sub.pk is k L)
def SP.WD:SP:=⟨λD _=>∀b,¬D b,λH _ _=>H⟩
def SP.di (φ:Prop):SP:=⟨λD _=>(∀b,¬D b)∧φ,λH _ _=>H⟩
def SP.ex {α:Type} (f:α→SP):SP:=⟨λD h=>∃a,(f a).p D h,λ⟨a,H⟩ h1 h2=>⟨a,(f a).loc H h1 h2⟩⟩
def SP.all (A:List SP):SP:=⟨mu A,λH h1 h2=>H.loc h1 h2⟩
theorem HS.put (H:HS g h R) (hp:P.p (λ_=>False) h):HS g h (P::R):=by obtain⟨ho,D,hb,r⟩:=H;exact⟨ho,D,hb,λ_=>False,D,λb=>⟨.inr,λh=>h.elim False.elim id⟩,λ_ h=>h.elim,hp,r⟩
theorem HS.dj {α:Type} {f:α→SP} (H:HS g h (.ex f::R)):∃a,HS g h (f a::R):=by obtain⟨ho,D,hb,D1,D2,e,d,⟨a,p⟩,r⟩:=H;exact⟨a,ho,D,hb,D1,D2,e,d,p,r⟩
theorem HS.dE {α:Type} {f:α→SP} (a:α) (H:HS g h (f a::R)):HS g h (.ex f::R):=by obtain⟨ho,D,hb,D1,D2,e,d,p,r⟩:=H;exact⟨ho,D,hb,D1,D2,e,d,⟨a,p⟩,r⟩
theorem HS.cX {φ:Prop} (H:HS g h (.di φ::R)):φ∧HS g h R:=by refine⟨?_,H.drop⟩;obtain⟨ho,D,hb,D1,D2,e,d,p,r⟩:=H;exact p.2
theorem HS.dF {φ:Prop} (hφ:φ) (H:HS g h R):HS g h (.di φ::R):=H.put ⟨λ_ h=>h,hφ⟩
theorem qwO {A:List SP}:∀{D1 D2:Nat→Prop} {h:AH},(∀b,D1 b→¬D2 b)→mu A D1 h→mu R D2 h→mu (A++R) (λb=>D1 b∨D2 b) h:=by
 induction A with
 |nil=>intro D1 D2 h _ H1 H2;rw[List.nil_append,show(λb=>D1 b∨D2 b)=D2 from funext λb=>propext ⟨λh=>h.elim (λh=>(H1 b h).elim) id,.inr⟩];grind
 |cons P A ih=>
  rintro D1 D2 h hd ⟨E1,E2,e,d,p,r⟩ H2;refine⟨E1,λb=>E2 b∨D2 b,λb=>?_,λb h1 h2=>?_,p,ih (λb h1=>hd b ((e b).2 (.inr h1))) r H2⟩
  all_goals grind
theorem qko {A:List SP}:∀{D:Nat→Prop} {h:AH},mu (A++R) D h→∃D1 D2:Nat→Prop,(∀b,D b↔D1 b∨D2 b)∧(∀b,D1 b→¬D2 b)∧mu A D1 h∧mu R D2 h:=by
 induction A with
 |nil=>intro D h H;exact⟨λ_=>False,D,λb=>⟨.inr,λh=>h.elim False.elim id⟩,λ_ h=>h.elim,λ_ h=>h,H⟩
 |cons P A ih=>
  rintro D h ⟨E1,E2,e,d,p,r⟩;obtain⟨F1,F2,f,d',r1,r2⟩:=ih r;refine⟨λb=>E1 b∨F1 b,F2,λb=>?_,λb h1 h2=>?_,⟨E1,F1,λb=>Iff.rfl,λb h1 h2=>d b h1 ((f b).2 (.inl h2)),p,r1⟩,r2⟩
  all_goals grind
theorem HS.bS {A:List SP} (H:HS g h (.all A::R)):HS g h (A++R):=by obtain⟨ho,D,hb,D1,D2,e,d,p,r⟩:=H;refine⟨ho,D,hb,?_⟩;rw[show D=(λb=>D1 b∨D2 b)from funext λb=>propext (e b)];exact qwO d p r
theorem HS.allI {A:List SP} (H:HS g h (A++R)):HS g h (.all A::R):=by obtain⟨ho,D,hb,r⟩:=H;exact⟨ho,D,hb,qko r⟩
theorem HS.nil (g:AH):HS g g []:=⟨rT.refl _ _,λ_=>False,λ_ h=>h.elim,λ_ h=>h⟩
theorem HS.add {D':Nat→Prop} (H:HS g h R) (F:rT h.nx h h') (p:P.p D' h') (hD:∀b,D' b→h.nx≤b∧b<h'.nx):HS g h' (P::R):=by
 obtain⟨D,_,hb,k⟩:=(H.put (P:=.WD) λ_ h=>h).act;obtain⟨ho,D0,IK,r⟩:=H;have hn:=ho.nx;refine⟨⟨Nat.le_trans hn F.nx,λb h1 h2=>(F.get b omQ omQ).trans (ho.get b h1 h2)⟩,λb=>D' b∨D0 b,?_,D',D0,λb=>Iff.rfl,?_,p,r.loc F.nx λb h1=>F.get b (IK b h1).2 (by grind)⟩
 ·have:=F.nx;grind
 grind
theorem HS.keep (H:HS g h R) (F:rT h.nx h h'):HS g h' R:=(H.add (P:=.WD) (D':=λ_=>False) F (λ_ h=>h) λ_ h=>h.elim).drop
theorem Fr.none (F:Fr (λ_=>False) h h'):rT h.nx h h':=F.mono λ_ _ h=>h.elim
variable {b off n m sz:Nat} {xs ys l:List AV} {e:TypeId} {o:Bool} {x v:AV} {k:IntKind} {Q:AV→AH→Prop} {i:Nat}
def Cell (b:Nat) (xs:List AV) (e:TypeId) (o:Bool):SP:=⟨λD h=>(∀a,D a↔a=b)∧Row h b xs e o,λ{D h h'} H h1 h2=>⟨H.1,Nat.lt_of_lt_of_le H.2.lt h1,by rw[h2 b ((H.1 b).2 rfl)];exact H.2.bf⟩⟩
def qx (b:Nat) (xs:List AV):SP:=⟨λD h=>(∀a,D a↔a=b)∧∃e,Row h b xs e false,λ{D h h'} H h1 h2=>⟨H.1,H.2.imp λ_ A=>⟨Nat.lt_of_lt_of_le A.lt h1,by rw[h2 b ((H.1 b).2 rfl)];exact A.bf⟩⟩⟩
def ku (b:Nat) (x:cK):SP:=⟨λD h=>(∀a,D a↔a=b)∧b<h.nx∧h.get b=some x,λ{D h h'} H h1 h2=>⟨H.1,by grind,by grind⟩⟩
def qF (e:TypeId) (sz n:Nat) (v:AV) (xs:List AV):SP :=
  ⟨λD h=>xs.length=n*sz∧((v=.ad∧n=0∧∀b,¬D b)∨∃b cp o ys,v=.slice b 0 n cp o∧(∀a,D a↔a=b)∧Row h b ys e o∧n*sz≤ys.length∧ys.take (n*sz)=xs∧(if o=true then cp=0 else ys.length=cp*sz∧n≤cp)),
   λ{D h h'} H h1 h2=>⟨H.1,H.2.imp id λ⟨b,cp,o,ys,q1,q2,q3,q4⟩=>⟨b,cp,o,ys,q1,q2,⟨Nat.lt_of_lt_of_le q3.lt h1,by rw[h2 b ((q2 b).2 rfl)];exact q3.bf⟩,q4⟩⟩⟩
theorem HS.p (H:HS g h L) (s:aR L P R):∃D,P.p D h:=by obtain⟨D,p,_⟩:=(H.ah s).act;grind
theorem HS.obj (H:HS g h L) (s:aR L (qx b xs) R):∃e,Row h b xs e false:=by obtain⟨D,_,p⟩:=H.p s;grind
theorem HS.sl (H:HS g h L) (s:aR L (qF e sz n v xs) R):Sl (λ_=>True) h sz n v xs:=by
 obtain⟨D,h1,⟨rfl,rfl,_⟩ |⟨b,cp,o,ys,rfl,_,A,h2,h3,_⟩⟩:=H.p s
 ·obtain rfl:xs=[]:=iA (by grind);exact .ad
 ·exact .mk trivial A.lt A.rd h1 λi hi=>by rw[A.at,Nat.zero_add,← h3,List.getElem?_take_of_lt hi]
theorem HS.dl (H:HS g h L) (s:aR L (qF e sz n v xs) R):xs.length=n*sz:=(H.sl s).len
def One (v:AV):Prop:=v.cells=[v]∧v.one=true
theorem HS.one (H:HS g h L) (s:aR L (qF e sz n v xs) R):One v:=by obtain⟨D,h1,⟨rfl,rfl,_⟩ |⟨b,cp,o,ys,rfl,_⟩⟩:=H.p s<;>exact⟨rfl,rfl⟩
variable {K:AV→Go.Ae.R} {K2:AV→AH→Go.Ae.R} {K1:AH→Go.Ae.R}
theorem qZ (H:HS g h L) (s:aR L (qx b xs) R) (hx:xs[off]? =some x) (w:wp (K x) Q):wp (ql h (.ptr b off) K) Q:=by obtain⟨e,A⟩:=H.obj s;exact QO ((A.at _).trans hx) w
theorem HS.lt (H:HS g h L) (s:aR L (qx b xs) R):b<h.nx:=by obtain⟨e,A⟩:=H.obj s;exact A.lt
theorem qu {g' ha:AH} {L2 R2:List SP} {nx:Nat} {K0:Go.Ae.R} (H:HS g h L) (s:aR L (qx b xs) R) (hx:xs[off]? =some x) (H2:HS g' ha L2) (s2:aR L2 (qx b ys) R2) (mw:ys[off]? =some x) (ae:b<nx) (w:wp K0 Q):wp (ve (.ptr b off) none x h ha nx K0) Q:=by obtain⟨e,A⟩:=H.obj s;obtain⟨e2,A2⟩:=H2.obj s2;exact WA ((A.at _).trans hx) ((A2.at _).trans mw) ae w
theorem qD (H:HS g h L) (s:aR L (qx b xs) R) (hl:l.length=n) (hn:0<n) (hx:(xs.drop off).take n=l) (w:wp (K (.agg l)) Q):wp (q8 h (.ptr b off) n K) Q:=by obtain⟨e,A⟩:=H.obj s;exact Zy hl hn (λi hi=>by rw[A.at,← hx,List.getElem?_take_of_lt hi,List.getElem?_drop]) w
theorem qh (H:HS g h L) (s:aR L (qx b xs) R) (hc:x.cells.length=n) (ho:off+n≤xs.length) (h1:jV x.cells=true) (w:∀h',HS g h' (qx b (wL xs off x.cells)::R)→wp (K1 h') Q):wp (qn h (.ptr b off) x n K1) Q:=by obtain⟨D,⟨hD,e,A⟩,hb,k⟩:=(H.ah s).act;refine Wu A hc ho h1 λh' A' F hx=>w h' (k h' _ D (F.mono λa _ ha=>(hD a).2 ha) ⟨hD,e,A'⟩ λa ha=>⟨.inl ha,?_⟩);grind
theorem qw (H:HS g h L) (s:aR L (qx b xs) R) (h1:One x) (ho:off<xs.length) (w:∀h',HS g h' (qx b (xs.set off x)::R)→wp (K1 h') Q):wp (qn h (.ptr b off) x 1 K1) Q:=by refine qh H s (by rw[h1.1];rfl) omQ (by rw[h1.1];simp[jV,h1.2]) λh' H'=>w h' ?_;rw[h1.1,Gr ho]at H';grind
theorem qQ {f:Nat} (w:wp (K (.ptr b f)) Q):wp (qI (.ptr b 0) f K) Q:=qc (by rw[Nat.zero_add];exact w)
theorem HS.my (H:HS g h L) (x:cK):HS g (h.new x) (ku h.nx x::L) :=
 H.add (D':=λa=>a=h.nx) ⟨by simp,λa _ h2=>AH.bL h _ omQ⟩ ⟨λa=>Iff.rfl,by simp,AH.bw ..⟩ (by simp)
theorem HS.lx {x y:cK} (H:HS g h L) (s:aR L (ku b x) R):HS g (h.put b y) (ku b y::R):=by obtain⟨D,⟨hD,hb,_⟩,eI,k⟩:=(H.ah s).act;exact k _ _ D ⟨Nat.le_refl _,λa _ hn=>AH.br h _ λe=>hn ((hD a).2 e.symm)⟩ ⟨hD,hb,AH.aN ..⟩ λa ha=>⟨.inl ha,(eI a ha).2⟩
theorem HS.bf {x:cK} (H:HS g h L) (s:aR L (ku b x) R):h.get b=some x:=by obtain⟨D,_,_,p⟩:=H.p s;grind
theorem WE (H:HS g h L) (h1:jV x.cells=true) (w:∀b h',HS g h' (qx b x.cells::L)→wp (K2 (.ptr b 0) h') Q):wp (vQ h e x K2) Q:=by refine qw5 h1 λb h' hb A F=>w b h' (H.add (D':=λa=>a=b) F.none ⟨λa=>Iff.rfl,e,A⟩ ?_);rintro a rfl;exact⟨hb,A.lt⟩
theorem qH (H:HS g h L) (h1:jV l=true) (w:∀b h',HS g h' (qx b l::L)→wp (K2 (.ptr b 0) h') Q):wp (vQ h e (.agg l) K2) Q:=WE (x:=.agg l) H h1 w
theorem Xu (H:HS g h L) (h1:One x) (w:∀b h',HS g h' (qx b [x]::L)→wp (K2 (.ptr b 0) h') Q):wp (vQ h e x K2) Q :=
 WE H (by rw[h1.1];simp[jV,h1.2]) (by rw[h1.1];exact w)
theorem JG {z:List AV} {ln cp:Nat} {k1 k2:IntKind} (H:HS g h L) (hz:z.length=sz) (h1:ln≤cp) (h2:cp≤1073741824)
  (w:∀v h',HS g h' (qF e sz ln v ((gA z cp).take (ln*sz))::L)→wp (K2 v h') Q):wp (QC h e z (.int k1 (ln:Int)) (.int k2 (cp:Int)) K2) Q:=by
 refine Og h1 h2 λb h' hb A F=>w _ h' (H.add (D':=λa=>a=b) F.none ⟨?_,.inr ⟨b,cp,false,_,rfl,λa=>Iff.rfl,A,?_,rfl,?_⟩⟩ ?_)
 ·grind[Nat.mul_le_mul_right,List.length_take,vI]
 ·simp_all[vI,Nat.mul_le_mul_right]
 ·simp_all[aA,vI]
 ·rintro a rfl;exact⟨hb,A.lt⟩
theorem kO {z:AV} {k1 k2:IntKind} (H:HS g h L) (h2:n≤1073741824)
  (w:∀v h',HS g h' (qF e 1 n v (List.replicate n z)::L)→wp (K2 v h') Q):wp (QC h e [z] (.int k1 (n:Int)) (.int k2 (n:Int)) K2) Q:=by
 refine JG (sz:=1) H rfl (Nat.le_refl _) h2 λv h' H'=>w v h' ?_;simp_all[Uh,Nat.mul_one,List.take_of_length_le,aA]
theorem qr {z:List AV} {vs:List (Nat×Nat×AV)} (H:HS g h L) (_:z.length=sz) (hl:l.length=n*sz) (hf:vG (gA z n) vs=some l) (h1:jV l=true)
  (w:∀v h',HS g h' (qF e sz n v l::L)→wp (K2 v h') Q):wp (zR h e z n vs K2) Q:=by
 refine qVi hf h1 λb h' hb A F=>w _ h' (H.add (D':=λa=>a=b) F.none ⟨hl,.inr ⟨b,n,false,_,rfl,λa=>Iff.rfl,A,by omega,by grind,?_⟩⟩ ?_)
 ·grind
 ·rintro a rfl;exact⟨hb,A.lt⟩
theorem HS.ad (H:HS g h L):HS g h (qF e sz 0 .ad []::L):=H.put ⟨by simp,.inl ⟨rfl,rfl,λ_ h=>h⟩⟩
theorem Yo (A:Row h b xs e o) (ho:off+n≤xs.length):vK h b off n=some ((xs.drop off).take n):=by
 by_cases h0:n=0
 ·subst h0;obtain⟨c,c1,c2,c3⟩:=A.bf;unfold vK;rw[c1,List.take_zero];cases c<;>rfl
 ·have hl:((xs.drop off).take n).length=n:=by grind
  have:=X7 (h:=h) (b:=b) (off:=off) (l:=(xs.drop off).take n) omQ (λi hi=>by rw[A.at,List.getElem?_take_of_lt omQ,List.getElem?_drop])
  grind
theorem qVU (ho:off+ys.length≤xs.length):(wL xs off ys).take (off+ys.length)=xs.take off++ys:=by
 unfold wL;have:(xs.take off++ys).length=off+ys.length:=by grind
 grind
theorem jh {D':Nat→Prop} (H:HS g h (qF e sz n v xs::R)) (S:Sl D' h sz m x ys) (bC:0<sz) (BO:n+m≤67108864) (h1:jV ys=true)
  (w:∀v' h',HS g h' (qF e sz (n+m) v' (xs++ys)::R)→wp (K2 v' h') Q):wp (z6 h e sz v x K2) Q:=by
 obtain⟨nc,g1,g2,g3⟩:=qWU S;have hS:=S.len;unfold z6;simp only[qz4 S,g1,ob];rw[CT.dD,g2,hS,Nat.beq_refl,cond_true];by_cases h0:m=0
 ·subst h0;obtain rfl:ys=[]:=iA (by grind);have wH:=w v h (by grind);obtain⟨D,⟨hl,⟨rfl,rfl,hD⟩ |⟨b,cp,o,zs,rfl,hD,A,q1,q2,q3⟩⟩,hb,k⟩:=H.act
  ·exact wH
  ·unfold vV;cases o with
   |false=>rw[iQ aA]at q3;simp only;rw[iY (show n+0≤cp from q3.2),cond_true,show Nat.beq 0 0=true from rfl,cond_true];exact wH
   |true=>
    rw[iJ rfl]at q3;subst q3;obtain⟨c,c1,c2,c3⟩:=A.bf;simp only[c1];have dz:c.len=zs.length:=by rw[CT.dD,c2]
    rw[dz];have mX:(Nat.ble 1 sz&&(Nat.beq 0 (0*sz)&&(Nat.beq e e&&Nat.ble (0+n*sz) zs.length)))=true:=by simp;omega
    rw[mX,cond_true,show Nat.beq 0 0=true from rfl,cond_true];exact wH
 ·have Pu:Nat.beq m 0=false:=vY h0;have hmul:(n+m)*sz=n*sz+m*sz:=Nat.add_mul ..;have hmp:0<m*sz:=Nat.mul_pos omQ bC;have hns:h.nx<(h.new (.cells nc e true)).nx:=by simp
  obtain⟨D,⟨hl,⟨rfl,rfl,hD⟩ |⟨b,cp,o,zs,rfl,hD,A,q1,q2,q3⟩⟩,hb,k⟩:=H.act
  ·obtain rfl:xs=[]:=iA (by grind);unfold vV;simp only;rw[Pu,cond_false,iY omQ,cond_true];obtain⟨b1,b2⟩:=Row.new (h:=h) (e:=e) (o:=true) g3;rw[g2]at b1;refine w _ _ (k _ _ (λa=>a=h.nx) (b2.mono λ_ _ hf=>hf.elim) ⟨by grind,.inr ⟨h.nx,0,true,ys,by simp,λ_=>Iff.rfl,b1,by omega,?_,by rfl⟩⟩ ?_)
   all_goals grind
  ·have hbn:=A.lt;have pn:∀Dm,(n+m)*sz≤zs.length→(if o=true then Dm=0 else zs.length=Dm*sz∧n+m≤Dm)→
     wp (ob (wx h b (0+n*sz) nc.toList) λh'=>K2 (.slice b 0 (n+m) Dm o) h') Q:=by
    intro Dm hz BP;obtain⟨h',f1,f2,f3,f4⟩:=Kf (ys:=nc.toList) (off:=0+n*sz) A (by grind) (by grind);simp only[f1,ob];rw[g2,Nat.zero_add]at f2;refine w _ _ (k h' _ D (f3.mono λa _ ha=>(hD a).2 ha) ⟨by grind,.inr ⟨b,Dm,o,_,rfl,hD,f2,?_,?_,?_⟩⟩ λa ha=>⟨.inl ha,by grind⟩)
    ·rw[GR omQ];grind
    ·rw[hmul,← hS,qVU omQ,q2]
    ·rw[GR omQ];grind
   unfold vV;cases o with
   |false=>
    rw[iQ aA]at q3;simp only;by_cases hc:n+m≤cp
    ·rw[iY hc,cond_true,Pu,cond_false];exact pn cp (by grind[Nat.mul_le_mul_right]) (by grind)
    ·rw[show Nat.ble (n+m) cp=false by
      cases hb:Nat.ble (n+m) cp
      all_goals simp_all[gI],cond_false,iY BO,cond_true]
     rw[Yo A (show 0+n*sz≤zs.length by omega),List.drop_zero,q2];simp only[ob];have key:∀c:CT,c.toList=xs++ys→c.full→wp (K2 (.slice h.nx 0 (n+m) 0 true) (h.new (.cells c e true))) Q:=by
      intro c d1 d2;obtain⟨b1,b2⟩:=Row.new (h:=h) (e:=e) (o:=true) d2;rw[d1]at b1;refine w _ _ (k _ _ (λa=>a=h.nx) (b2.mono λ_ _ hf=>hf.elim) ⟨by grind,.inr ⟨h.nx,0,true,xs++ys,rfl,λ_=>Iff.rfl,b1,by grind,?_,by rfl⟩⟩ ?_)
      ·grind
      simp
     by_cases lf:n=0
     ·subst lf;rw[show Nat.beq 0 0=true from rfl,cond_true];obtain rfl:xs=[]:=iA (by grind);exact key nc (by grind) g3
     ·rw[show Nat.beq n 0=false from vY lf,cond_false];exact key _ (by rw[CT.aD,g2]) (CT.bx _)
   |true=>
    rw[iJ rfl]at q3;subst q3;obtain⟨c,c1,c2,c3⟩:=A.bf;simp only[c1];have dz:c.len=zs.length:=by rw[CT.dD,c2]
    rw[dz];have mX:(Nat.ble 1 sz&&(Nat.beq 0 (0*sz)&&(Nat.beq e e&&Nat.ble (0+n*sz) zs.length)))=true:=by simp;omega
    rw[mX,cond_true,Pu,cond_false];by_cases hc:0+(n+m)*sz≤zs.length
    ·rw[iY hc,cond_true];exact pn 0 omQ (by rfl)
    ·rw[show Nat.ble (0+(n+m)*sz) zs.length=false by
      grind[Nat.ble,absurd,gI],cond_false]
     have na:(Nat.beq 0 0&&(Nat.ble (n+m) 67108864&&jV nc.toList))=true:=by simp_all
     rw[na,cond_true];obtain⟨c',p1,p2,p3⟩:=CT.sK (c:=c) c3 (n:=n*sz) (by grind);simp only[p1];have uv:(c'.ix nc.toList).toList=xs++ys:=by grind[CT.r5]
     refine w _ _ (k _ _ (λa=>a=h.nx) ⟨by simp,λa ha hn=>?_⟩ ⟨by grind,.inr ⟨(h.put b .dead).nx,0,true,xs++ys,rfl,λ_=>Iff.rfl,⟨by simp,c'.ix nc.toList,AH.bw (h.put b .dead) _,uv,CT.sJ p3 _⟩,by grind,?_,by rfl⟩⟩ ?_)
     ·rw[AH.bL _ _ (by simp;omega),AH.br h _ (λWG:b=a=>hn ((hD a).2 WG.symm))]
     ·grind
     simp
theorem HS.ux (H:HS g h (qF e sz n v xs::R)) (hn:0<n):∃b cp o ys,v=.slice b 0 n cp o∧HS g h (Cell b ys e o::R)∧n*sz≤ys.length∧ys.take (n*sz)=xs∧(if o=true then cp=0 else ys.length=cp*sz∧n≤cp):=by
 obtain⟨D,⟨hl,⟨rfl,rfl,hD⟩ |⟨b,cp,o,zs,rfl,hD,A,q1,q2,q3⟩⟩,hb,k⟩:=H.act
 ·omega
 ·exact⟨b,cp,o,zs,rfl,k h _ D (Fr.refl _ _) ⟨hD,A⟩ λa ha=>⟨.inl ha,(hb a ha).2⟩,q1,q2,q3⟩
theorem HS.BQ {cp:Nat} (H:HS g h (Cell b ys e o::R)) (h1:n*sz≤ys.length) (h2:if o=true then cp=0 else ys.length=cp*sz∧n≤cp):HS g h (qF e sz n (.slice b 0 n cp o) (ys.take (n*sz))::R):=by obtain⟨D,⟨hD,A⟩,hb,k⟩:=H.act;exact k h _ D (Fr.refl _ _) ⟨by grind,.inr ⟨b,cp,o,ys,rfl,hD,A,h1,rfl,h2⟩⟩ λa ha=>⟨.inl ha,(hb a ha).2⟩
theorem WH (H:HS g h (Cell b xs e o::R)) (hc:x.cells.length=n) (ho:off+n≤xs.length) (h1:jV x.cells=true) (w:∀h',HS g h' (Cell b (wL xs off x.cells) e o::R)→wp (K1 h') Q):wp (qn h (.ptr b off) x n K1) Q:=by obtain⟨D,⟨hD,A⟩,hb,k⟩:=H.act;refine Wu A hc ho h1 λh' A' F hx=>w h' (k h' _ D (F.mono λa _ ha=>(hD a).2 ha) ⟨hD,A'⟩ λa ha=>⟨.inl ha,?_⟩);grind
theorem BR {j:Nat} (H:HS g h (qF e sz n v xs::R)) (hi:i<n) (hj:j+m≤sz) (hc:x.cells.length=m) (h1:jV x.cells=true) (w:∀h',HS g h' (qF e sz n v (wL xs (i*sz+j) x.cells)::R)→wp (K1 h') Q) :
  ∃b cp o,v=.slice b 0 n cp o∧wp (qn h (.ptr b (0+i*sz+j)) x m K1) Q:=by
 obtain⟨b,cp,o,ys,rfl,H',q1,q2,q3⟩:=H.ux omQ;have hle:i*sz+sz≤n*sz:=by rw[← Nat.succ_mul];exact Nat.mul_le_mul_right sz hi
 refine⟨b,cp,o,rfl,WH H' hc omQ h1 λh' Fj=>w h' ?_⟩;have:=Fj.BQ (n:=n) (sz:=sz) (cp:=cp) (by rw[GR omQ];grind) (by rw[GR omQ];grind);have e1:(wL ys (0+i*sz+j) x.cells).take (n*sz)=wL xs (i*sz+j) x.cells:=by
  rw[← q2,Nat.zero_add];unfold wL;rw[List.take_append,List.take_append,List.take_take,List.take_take,List.drop_take];have t1:min (n*sz) (i*sz+j)=min (i*sz+j) (n*sz):=Nat.min_comm ..;rw[t1,show(List.take (i*sz+j) ys).length=i*sz+j by grind];rw[List.take_of_length_le (show x.cells.length≤n*sz-(i*sz+j) by omega)];grind
 grind
theorem Vi {f:Nat} (H:HS g h (qF e sz n v xs::R)) (hi:i<n) (hf:f<sz) (h1:One x) (w:∀h',HS g h' (qF e sz n v (xs.set (i*sz+f) x)::R)→wp (K1 h') Q) :
  wp (xy v (.int k (i:Int)) sz λp=>qI p f λq=>qn h q x 1 K1) Q:=by
 have hl:=H.dl .here;have hle:i*sz+sz≤n*sz:=by rw[← Nat.succ_mul];exact Nat.mul_le_mul_right sz hi
 obtain⟨b,cp,o,rfl,w'⟩:=BR (x:=x) (m:=1) (j:=f) H hi omQ (by rw[h1.1];rfl) (by rw[h1.1];simp[jV,h1.2]) (λh' H'=>w h' (by rw[h1.1,Gr omQ]at H';grind));exact Ju hi (qc w')
theorem yr (H:HS g h (qF e 1 n v xs::R)) (hi:i<n) (h1:One x) (w:∀h',HS g h' (qF e 1 n v (xs.set i x)::R)→wp (K1 h') Q) :
  wp (xy v (.int k (i:Int)) 1 λp=>qn h p x 1 K1) Q:=by
 have hl:=H.dl .here;obtain⟨b,cp,o,rfl,w'⟩:=BR (x:=x) (m:=1) (j:=0) H hi omQ (by rw[h1.1];rfl) (by rw[h1.1];simp[jV,h1.2]) (λh' H'=>w h' (by rw[h1.1,Gr omQ,Nat.mul_one,Nat.add_zero]at H';grind));exact Ju hi w'
theorem Yp (H:HS g h (qF e sz n v xs::R)) (hi:i<n) (hl:l.length=sz) (h1:jV l=true) (w:∀h',HS g h' (qF e sz n v (wL xs (i*sz) l)::R)→wp (K1 h') Q) :
  wp (xy v (.int k (i:Int)) sz λp=>qn h p (.agg l) sz K1) Q:=by
 obtain⟨b,cp,o,rfl,w'⟩:=BR (x:=.agg l) (m:=sz) (j:=0) H hi omQ hl h1 (λh' H'=>w h' H');exact Ju hi w'
theorem gM {hi:Nat} (H:HS g h (qF e sz n v xs::R)) (bC:0<sz) (hle:hi≤n) (w:∀v',HS g h (qF e sz hi v' (xs.take (hi*sz))::R)→wp (K v') Q):wp (yX h e sz v none (some (.int k (hi:Int))) K) Q:=by
  by_cases hn:n=0
  · subst hn;obtain rfl:hi=0:=by omega
    have hH:=H;obtain⟨D,⟨hl,⟨rfl,_,hD⟩ |⟨b,cp,o,zs,rfl,hD,A,q1,q2,q3⟩⟩,hb,k⟩:=H.act
    · exact w .ad (by grind)
    · cases o with
      |false=>
        rw[iQ aA]at q3;refine NR (hi:=0) (lo:=0) (vZ (Nat.zero_le _)) rfl ?_
        have := w (.slice b 0 0 cp false) (by grind)
        have e0:(bif Nat.beq cp 0 then 0 else 0+0*sz)=0:=by simp
        rw[e0];exact this
      |true=>
        rw[iJ rfl]at q3;subst q3;refine Uq (i0:=0) (hi:=0) (lo:=0) A bC omQ omQ (vZ (Nat.zero_le _)) rfl (.inr rfl) ?_
        have := w (.slice b 0 0 0 true) (by grind)
        simpa using this
  · obtain⟨b,cp,o,zs,rfl,H',q1,q2,q3⟩:=H.ux omQ;have uy:=Nat.mul_le_mul_right sz hle;have e1:zs.take (hi*sz)=xs.take (hi*sz):=by grind
    cases o with
    |false=>
      rw[iQ aA]at q3;refine NR (hi:=hi) (lo:=0) (vZ omQ) rfl ?_;have:=w (.slice b 0 hi cp false) (by rw[← e1];exact H'.BQ omQ (by grind));have e0:(bif Nat.beq cp 0 then 0 else 0+0*sz)=0:=by simp
      rw[e0];exact this
    |true=>rw[iJ rfl]at q3;subst q3;obtain⟨D,_,A⟩:=H'.p .here;refine Uq (i0:=0) (hi:=hi) (lo:=0) A bC omQ omQ (vZ hle) rfl (.inr rfl) ?_;have:=w (.slice b 0 hi 0 true) (by rw[← e1];exact H'.BQ omQ (by rfl));simpa using this
theorem Xo (H:HS g h L) (s:aR L (qF e sz n v xs) R) (h1:v=.ad→n=0→wp (K (.bool true)) Q) (h2:wp (K (.bool false)) Q):wp (lJ .DW false v .ad K) Q:=by
 obtain⟨D,hl,⟨rfl,rfl,hD⟩ |⟨b,cp,o,zs,rfl,_⟩⟩:=H.p s
 ·exact h1 rfl rfl
 ·exact h2
theorem qd (H:HS g h L) (s:aR L (qF e sz n v xs) R) (w:wp (K (.int .i64 (n:Int))) Q):wp (xi v K) Q:=zH (H.sl s) w
def Rd (g:AH) (R:List SP) (sz n:Nat) (v:AV) (xs:List AV):Prop:=∀h,HS g h R→Sl (λ_=>True) h sz n v xs
theorem Rd.sl (S:Rd g L sz n v xs) (H:HS g h L):Sl (λ_=>True) h sz n v xs:=S h H
theorem Rd.more (S:Rd g R sz n v xs):Rd g (P::R) sz n v xs:=λh H=>S h H.drop
theorem Rd.own (s:aR L (qF e sz n v xs) R):Rd g L sz n v xs:=λ_ H=>H.sl s
theorem HS.rd (_:HS g h L) (s:aR L (qF e sz n v xs) R):Rd g L sz n v xs:=.own s
theorem Rd.arg {D:Nat→Prop} (S:Sl D g sz n v xs):Rd g L sz n v xs:=λ_ H=>(S.cr H.cr).mono λ_ _=>trivial
theorem Rd.len (S:Rd g L sz n v xs) (H:HS g h L):xs.length=n*sz:=(S h H).len
variable {c d:Int}
theorem qj (hc:c=d) (w:wp (K (.bool true)) Q):wp (jY .eql (.int k c) (.int k d) K) Q:=gc (by rw[iG hc];exact w)
theorem qV (hc:¬c=d) (w:wp (K (.bool false)) Q):wp (jY .eql (.int k c) (.int k d) K) Q:=gc (by rw[iV hc];exact w)
theorem jJ (hc:¬c=d) (w:wp (K (.bool true)) Q):wp (jY .neq (.int k c) (.int k d) K) Q:=XP (by rw[iG hc];exact w)
theorem q9 (hc:c=d) (w:wp (K (.bool false)) Q):wp (jY .neq (.int k c) (.int k d) K) Q:=XP (by rw[iV (not_not_intro hc)];exact w)
theorem jB (hc:c<d) (w:wp (K (.bool true)) Q):wp (jY .lss (.int k c) (.int k d) K) Q:=wX (by rw[iG hc];exact w)
theorem jk (hc:¬c<d) (w:wp (K (.bool false)) Q):wp (jY .lss (.int k c) (.int k d) K) Q:=wX (by rw[iV hc];exact w)
theorem yq (hc:c≤d) (w:wp (K (.bool true)) Q):wp (jY .leq (.int k c) (.int k d) K) Q:=NS (by rw[iG hc];exact w)
theorem yY (hc:¬c≤d) (w:wp (K (.bool false)) Q):wp (jY .leq (.int k c) (.int k d) K) Q:=NS (by rw[iV hc];exact w)
theorem zv (hc:d<c) (w:wp (K (.bool true)) Q):wp (jY .gtr (.int k c) (.int k d) K) Q:=Pm (by rw[iG hc];exact w)
theorem zV (hc:¬d<c) (w:wp (K (.bool false)) Q):wp (jY .gtr (.int k c) (.int k d) K) Q:=Pm (by rw[iV hc];exact w)
theorem jA (hc:d≤c) (w:wp (K (.bool true)) Q):wp (jY .geq (.int k c) (.int k d) K) Q:=Pn (by rw[iG hc];exact w)
theorem jz (hc:¬d≤c) (w:wp (K (.bool false)) Q):wp (jY .geq (.int k c) (.int k d) K) Q:=Pn (by rw[iV hc];exact w)
theorem Z0 {tab:BT} {rt:List RT} {N l:Nat} {as:List AV} {bT:Option AX} {f:Nat} {pos Ls:List Nat} {vs:List AV} {d:Nat} {w:VF} (hb:h.get l=some (.loop .ready bT f pos Ls vs d)) (hr:YR rt f pos Ls=some w) (hn:1≤N)
  (W:∀k,N=k+1→wp (w (callT tab rt k) l vs as h) Q):wp (callT tab rt N (.yield l) as h) Q:=by
 obtain⟨k,rfl⟩:∃k,N=k+1:=⟨N-1,by omega⟩
 show wp (match h.get l with
   |some (.loop .ready _ f pos L vs _)=>(match YR rt f pos L with |some g=>g (callT tab rt k) l vs as h |none=>none)
   |_=>none) Q
 rw[hb];simp only[hr];exact W k rfl
theorem ZL {l:Nat} {bT:Option AX} {f:Nat} {pos Ls:List Nat} {vs:List AV} {d:Nat} (H:HS g h L) (s:aR L (ku l (.loop .ready bT f pos Ls vs d)) R) (w:∀h',HS g h' (ku l (.loop .busy bT f pos Ls vs d)::R)→wp (K1 h') Q):wp (Jb h l K1) Q:=by unfold Jb;rw[H.bf s];exact w _ (H.lx s)
theorem WI {l:Nat} {st:LoopState} {bT:Option AX} {f:Nat} {pos Ls:List Nat} {vs:List AV} {d:Nat} (H:HS g h L) (s:aR L (ku l (.loop st bT f pos Ls vs d)) R) (w:∀h',HS g h' (ku l (.loop .ready none f pos Ls vs d)::R)→Q (.bool true) h'):wp (yJ h l none) Q:=by unfold yJ;rw[H.bf s];exact⟨_,_,rfl,w _ (H.lx s)⟩
theorem qgd {l:Nat} {j:AX} {st:LoopState} {bT:Option AX} {f:Nat} {pos Ls:List Nat} {vs:List AV} {d:Nat} (H:HS g h L) (s:aR L (ku l (.loop st bT f pos Ls vs d)) R) (w:∀h',HS g h' (ku l (.loop .done (some j) f pos Ls vs d)::R)→Q (.bool false) h'):wp (yJ h l (some j)) Q:=by unfold yJ;rw[H.bf s];exact⟨_,_,rfl,w _ (H.lx s)⟩
theorem N4 {l:Nat} {K':Option AX→AH→Go.Ae.R} {st:LoopState} {bT:Option AX} {f:Nat} {pos Ls:List Nat} {vs:List AV} {d:Nat} (H:HS g h L) (s:aR L (ku l (.loop st bT f pos Ls vs d)) R) (bK:st≠.busy) (w:∀h',HS g h' (ku l (.loop .exhausted bT f pos Ls vs d)::R)→wp (K' bT h') Q):wp (vt h l K') Q:=by
 unfold vt;rw[H.bf s];cases st with
 |busy=>exact absurd rfl bK
 |_=>exact w _ (H.lx s)
theorem KJ {d:Nat} (H:HS g h L) (s:aR L (ku d .lI) R) (w:∀h',HS g h' (ku d .pM::R)→wp (K1 h') Q):wp (jR [d] h K1) Q:=by unfold jR;rw[H.bf s];unfold jR;exact w _ (H.lx s)
theorem ZF {a b:Go.Ae.R} (w:wp a Q):wp (XW none a b) Q:=w
theorem qzh {p:AX} {a b:Go.Ae.R} (w:wp b Q):wp (XW (some p) a b) Q:=w
theorem qy0 {x:AX} {a b:Go.Ae.R} (hx:C7 x x=true) (w:wp a Q):wp (Bm (some x) x a b) Q:=by show wp (bif C7 x x then a else b) Q;rw[hx];exact w
theorem Z4 {c:CV} {f:FuncId} {a1 a2 as:List AV} {Q':AV→AH→Prop} (w:wp (c (.fn f a1 a2) as h) Q') (hk:∀v h',Q' v h'→wp (K2 v h') Q):wp (Jo c (.fn f a1 a2) as h K2) Q:=qW w hk
theorem HS.fits (H:HS g h L) (s:aR L (qF e sz n v xs) R) (bC:0<sz) (h1:sz<65536) {N:Nat} (hN:N=e*65536+sz) {u:AV}:xG v (some N) u h=true:=by
 obtain⟨D,hl,⟨rfl,rfl,hD⟩ |⟨b,cp,o,zs,rfl,hD,A,q1,q2,q3⟩⟩:=H.p s
 ·rfl
 ·cases o with
  |false=>rfl
  |true=>
   rw[iJ rfl]at q3;subst q3;obtain⟨c,c1,c2,c3⟩:=A.bf;show vL h (N/65536) b 0 (N%65536) 0 n=true;rw[hN,(Ni e sz h1).1,(Ni e sz h1).2];unfold vL;rw[c1];simp only[Bool.and_eq_true];have dz:c.len=zs.length:=by rw[CT.dD,c2]
   simp;omega
theorem HS.Fk (H:HS g h L) (s:aR L (qF e sz n v xs) R):D8 v h.nx=true:=by
 obtain⟨D,hl,⟨rfl,rfl,hD⟩ |⟨b,cp,o,zs,rfl,hD,A,q1,q2,q3⟩⟩:=H.p s
 ·rfl
 ·cases o with
  |false=>rfl
  |true=>exact iY A.lt
theorem Zr {g1 g2 ha h0:AH} {L1 R1 L2 R2:List SP} {n1 n2 N:Nat} {xs1 xs2:List AV} {u:AV} {K0:Go.Ae.R} (H:HS g h L) (s:aR L (qF e sz n v xs) R) (H1:HS g1 ha L1) (s1:aR L1 (qF e sz n1 v xs1) R1) (H2:HS g2 h0 L2) (s2:aR L2 (qF e sz n2 v xs2) R2)
  (bC:0<sz) (h1:sz<65536) (hN:N=e*65536+sz) (w:wp K0 Q):wp (ve v (some N) u h ha h0.nx K0) Q:=by
 unfold ve;rw[qqB,H.fits s bC h1 hN,H1.fits s1 bC h1 hN,H2.Fk s2];exact w
end Go.Ae
namespace Go.Ae
theorem e_1 {a0 P:SP} {R:List SP}:aR (a0::P::R) P (a0::R):=.there .here
theorem e_2 {a0 a1 P:SP} {R:List SP}:aR (a0::a1::P::R) P (a0::a1::R):=.there e_1
theorem e_3 {a0 a1 a2 P:SP} {R:List SP}:aR (a0::a1::a2::P::R) P (a0::a1::a2::R):=.there e_2
theorem e_4 {a0 a1 a2 a3 P:SP} {R:List SP}:aR (a0::a1::a2::a3::P::R) P (a0::a1::a2::a3::R):=.there e_3
theorem e_5 {a0 a1 a2 a3 a4 P:SP} {R:List SP}:aR (a0::a1::a2::a3::a4::P::R) P (a0::a1::a2::a3::a4::R):=.there e_4
theorem e_6 {a0 a1 a2 a3 a4 a5 P:SP} {R:List SP}:aR (a0::a1::a2::a3::a4::a5::P::R) P (a0::a1::a2::a3::a4::a5::R):=.there e_5
theorem e_7 {a0 a1 a2 a3 a4 a5 a6 P:SP} {R:List SP}:aR (a0::a1::a2::a3::a4::a5::a6::P::R) P (a0::a1::a2::a3::a4::a5::a6::R):=.there e_6
theorem e_8 {a0 a1 a2 a3 a4 a5 a6 a7 P:SP} {R:List SP}:aR (a0::a1::a2::a3::a4::a5::a6::a7::P::R) P (a0::a1::a2::a3::a4::a5::a6::a7::R):=.there e_7
theorem e_9 {a0 a1 a2 a3 a4 a5 a6 a7 a8 P:SP} {R:List SP}:aR (a0::a1::a2::a3::a4::a5::a6::a7::a8::P::R) P (a0::a1::a2::a3::a4::a5::a6::a7::a8::R):=.there e_8
theorem e_10 {a0 a1 a2 a3 a4 a5 a6 a7 a8 a9 P:SP} {R:List SP}:aR (a0::a1::a2::a3::a4::a5::a6::a7::a8::a9::P::R) P (a0::a1::a2::a3::a4::a5::a6::a7::a8::a9::R):=.there e_9
theorem e_11 {a0 a1 a2 a3 a4 a5 a6 a7 a8 a9 dT P:SP} {R:List SP}:aR (a0::a1::a2::a3::a4::a5::a6::a7::a8::a9::dT::P::R) P (a0::a1::a2::a3::a4::a5::a6::a7::a8::a9::dT::R):=.there e_10
theorem e_12 {a0 a1 a2 a3 a4 a5 a6 a7 a8 a9 dT eu P:SP} {R:List SP}:aR (a0::a1::a2::a3::a4::a5::a6::a7::a8::a9::dT::eu::P::R) P (a0::a1::a2::a3::a4::a5::a6::a7::a8::a9::dT::eu::R):=.there e_11
theorem e_13 {a0 a1 a2 a3 a4 a5 a6 a7 a8 a9 dT eu a12 P:SP} {R:List SP}:aR (a0::a1::a2::a3::a4::a5::a6::a7::a8::a9::dT::eu::a12::P::R) P (a0::a1::a2::a3::a4::a5::a6::a7::a8::a9::dT::eu::a12::R):=.there e_12
theorem e_14 {a0 a1 a2 a3 a4 a5 a6 a7 a8 a9 dT eu a12 fF P:SP} {R:List SP}:aR (a0::a1::a2::a3::a4::a5::a6::a7::a8::a9::dT::eu::a12::fF::P::R) P (a0::a1::a2::a3::a4::a5::a6::a7::a8::a9::dT::eu::a12::fF::R):=.there e_13
theorem e_15 {a0 a1 a2 a3 a4 a5 a6 a7 a8 a9 dT eu a12 fF hY P:SP} {R:List SP}:aR (a0::a1::a2::a3::a4::a5::a6::a7::a8::a9::dT::eu::a12::fF::hY::P::R) P (a0::a1::a2::a3::a4::a5::a6::a7::a8::a9::dT::eu::a12::fF::hY::R):=.there e_14
theorem e_16 {a0 a1 a2 a3 a4 a5 a6 a7 a8 a9 dT eu a12 fF hY ly P:SP} {R:List SP}:aR (a0::a1::a2::a3::a4::a5::a6::a7::a8::a9::dT::eu::a12::fF::hY::ly::P::R) P (a0::a1::a2::a3::a4::a5::a6::a7::a8::a9::dT::eu::a12::fF::hY::ly::R):=.there e_15
theorem e_17 {a0 a1 a2 a3 a4 a5 a6 a7 a8 a9 dT eu a12 fF hY ly ma P:SP} {R:List SP}:aR (a0::a1::a2::a3::a4::a5::a6::a7::a8::a9::dT::eu::a12::fF::hY::ly::ma::P::R) P (a0::a1::a2::a3::a4::a5::a6::a7::a8::a9::dT::eu::a12::fF::hY::ly::ma::R):=.there e_16
theorem e_18 {a0 a1 a2 a3 a4 a5 a6 a7 a8 a9 dT eu a12 fF hY ly ma nw P:SP} {R:List SP}:aR (a0::a1::a2::a3::a4::a5::a6::a7::a8::a9::dT::eu::a12::fF::hY::ly::ma::nw::P::R) P (a0::a1::a2::a3::a4::a5::a6::a7::a8::a9::dT::eu::a12::fF::hY::ly::ma::nw::R):=.there e_17
theorem e_19 {a0 a1 a2 a3 a4 a5 a6 a7 a8 a9 dT eu a12 fF hY ly ma nw po P:SP} {R:List SP}:aR (a0::a1::a2::a3::a4::a5::a6::a7::a8::a9::dT::eu::a12::fF::hY::ly::ma::nw::po::P::R) P (a0::a1::a2::a3::a4::a5::a6::a7::a8::a9::dT::eu::a12::fF::hY::ly::ma::nw::po::R):=.there e_18
theorem e_20 {a0 a1 a2 a3 a4 a5 a6 a7 a8 a9 dT eu a12 fF hY ly ma nw po sM P:SP} {R:List SP}:aR (a0::a1::a2::a3::a4::a5::a6::a7::a8::a9::dT::eu::a12::fF::hY::ly::ma::nw::po::sM::P::R) P (a0::a1::a2::a3::a4::a5::a6::a7::a8::a9::dT::eu::a12::fF::hY::ly::ma::nw::po::sM::R):=.there e_19
theorem e_21 {a0 a1 a2 a3 a4 a5 a6 a7 a8 a9 dT eu a12 fF hY ly ma nw po sM a20 P:SP} {R:List SP}:aR (a0::a1::a2::a3::a4::a5::a6::a7::a8::a9::dT::eu::a12::fF::hY::ly::ma::nw::po::sM::a20::P::R) P (a0::a1::a2::a3::a4::a5::a6::a7::a8::a9::dT::eu::a12::fF::hY::ly::ma::nw::po::sM::a20::R):=.there e_20
theorem e_22 {a0 a1 a2 a3 a4 a5 a6 a7 a8 a9 dT eu a12 fF hY ly ma nw po sM a20 a21 P:SP} {R:List SP}:aR (a0::a1::a2::a3::a4::a5::a6::a7::a8::a9::dT::eu::a12::fF::hY::ly::ma::nw::po::sM::a20::a21::P::R) P (a0::a1::a2::a3::a4::a5::a6::a7::a8::a9::dT::eu::a12::fF::hY::ly::ma::nw::po::sM::a20::a21::R):=.there e_21
theorem e_23 {a0 a1 a2 a3 a4 a5 a6 a7 a8 a9 dT eu a12 fF hY ly ma nw po sM a20 a21 a22 P:SP} {R:List SP}:aR (a0::a1::a2::a3::a4::a5::a6::a7::a8::a9::dT::eu::a12::fF::hY::ly::ma::nw::po::sM::a20::a21::a22::P::R) P (a0::a1::a2::a3::a4::a5::a6::a7::a8::a9::dT::eu::a12::fF::hY::ly::ma::nw::po::sM::a20::a21::a22::R):=.there e_22
end Go.Ae
namespace Go.Ae
open Go
theorem Fl {tab:BT} {rt:List RT} {n:Nat} {f:FuncId} {P:Program} {pl:Pl} {S:Eb P pl f}  {h:AH} {Q:AV→AH→Prop} (hg:tab.get f=some (Ec S)) (hn:1≤n) (w:∀k,n=k+1→wp (S (callT tab rt k)  h).1 Q):wp (callT tab rt n (.fn f [] []) [] h) Q:=qE hg hn w
theorem ag {tab:BT} {rt:List RT} {n:Nat} {f:FuncId} {P:Program} {pl:Pl} {S:aI P pl f} {a0:AV} {h:AH} {Q:AV→AH→Prop} (hg:tab.get f=some (aJ S)) (hn:1≤n) (w:∀k,n=k+1→wp (S (callT tab rt k) a0 h).1 Q):wp (callT tab rt n (.fn f [] []) [a0] h) Q:=qE hg hn w
theorem aG {tab:BT} {rt:List RT} {n:Nat} {f:FuncId} {P:Program} {pl:Pl} {S:bn P pl f} {a0 a1:AV} {h:AH} {Q:AV→AH→Prop} (hg:tab.get f=some (bj S)) (hn:1≤n) (w:∀k,n=k+1→wp (S (callT tab rt k) a0 a1 h).1 Q):wp (callT tab rt n (.fn f [] []) [a0,a1] h) Q:=qE hg hn w
theorem b8 {tab:BT} {rt:List RT} {n:Nat} {f:FuncId} {P:Program} {pl:Pl} {S:cD P pl f} {a0 a1 a2:AV} {h:AH} {Q:AV→AH→Prop} (hg:tab.get f=some (cE S)) (hn:1≤n) (w:∀k,n=k+1→wp (S (callT tab rt k) a0 a1 a2 h).1 Q):wp (callT tab rt n (.fn f [] []) [a0,a1,a2] h) Q:=qE hg hn w
theorem ra {tab:BT} {rt:List RT} {n:Nat} {f:FuncId} {P:Program} {pl:Pl} {S:lQ P pl f} {a0 a1 a2 a3:AV} {h:AH} {Q:AV→AH→Prop} (hg:tab.get f=some (lR S)) (hn:1≤n) (w:∀k,n=k+1→wp (S (callT tab rt k) a0 a1 a2 a3 h).1 Q):wp (callT tab rt n (.fn f [] []) [a0,a1,a2,a3] h) Q:=qE hg hn w
theorem Fm {tab:BT} {rt:List RT} {n:Nat} {f:FuncId} {P:Program} {pl:Pl} {S:rN P pl f} {a0 a1 a2 a3 a4:AV} {h:AH} {Q:AV→AH→Prop} (hg:tab.get f=some (rO S)) (hn:1≤n) (w:∀k,n=k+1→wp (S (callT tab rt k) a0 a1 a2 a3 a4 h).1 Q):wp (callT tab rt n (.fn f [] []) [a0,a1,a2,a3,a4] h) Q:=qE hg hn w
theorem Fo {tab:BT} {rt:List RT} {n:Nat} {f:FuncId} {P:Program} {pl:Pl} {S:Ed P pl f} {a0 a1 a2 a3 a4 a5 a6:AV} {h:AH} {Q:AV→AH→Prop} (hg:tab.get f=some (Ee S)) (hn:1≤n) (w:∀k,n=k+1→wp (S (callT tab rt k) a0 a1 a2 a3 a4 a5 a6 h).1 Q):wp (callT tab rt n (.fn f [] []) [a0,a1,a2,a3,a4,a5,a6] h) Q:=qE hg hn w
end Go.Ae
