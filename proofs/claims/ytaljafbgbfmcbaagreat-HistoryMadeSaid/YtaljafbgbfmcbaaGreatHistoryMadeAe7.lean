/- The abstract executor of the program's form in Lean, shown sound: steps of a run; a law's run. -/
import Derived.Test.YtaljafbgbfmcbaaGreatHistoryMadeAe6
namespace Go.Ae
open Go
def wp (r:R) (Q:AV→AH→Prop):Prop:=∃v h,r=some (v,h)∧Q v h
variable {Q Q':AV→AH→Prop} {h h':AH} {k:IntKind} {a b:Int} {K:AV→R}
theorem wp.mono {r:R} (w:wp r Q) (hq:∀v h,Q v h→Q' v h):wp r Q':=by obtain⟨v,h,e,q⟩:=w;exact⟨v,h,e,hq v h q⟩
theorem qq {v:AV} {g:AH} (q:Q v g):wp (some (v,g)) Q:=⟨_,_,rfl,q⟩
theorem Jh (a b:Int):pP a b=decide (a<b):=MK a b
theorem GN (a b:Int):ny a b=decide (a=b):=by
 grind[Mn]
theorem JN (op:BinOp) (a b:Int) (K:AV→R):j6 op (.int k a) (.int k b) K=ob (JP op k a b) K:=by simp[Z0]
theorem QB (w:wp (K (.bool (decide (a<b)))) Q):wp (j6 .lss (.int k a) (.int k b) K) Q:=by rw[JN];simpa only[JP,Jh]using w
theorem TI (w:wp (K (.bool (decide (a≤b)))) Q):wp (j6 .leq (.int k a) (.int k b) K) Q:=by rw[JN];simp only[JP,Jh];rw[show(!decide (b<a))=decide (a≤b) by grind];exact w
theorem PW (w:wp (K (.bool (decide (b<a)))) Q):wp (j6 .gtr (.int k a) (.int k b) K) Q:=by rw[JN];simpa only[JP,Jh]using w
theorem TJ (w:wp (K (.bool (decide (b≤a)))) Q):wp (j6 .geq (.int k a) (.int k b) K) Q:=by rw[JN];simp only[JP,Jh];rw[show(!decide (a<b))=decide (b≤a) by grind];exact w
theorem J7 (w:wp (K (.bool (decide (a=b)))) Q):wp (j6 .eql (.int k a) (.int k b) K) Q:=by rw[JN];simpa only[JP,GN]using w
theorem Kx (w:wp (K (.bool (decide (¬a=b)))) Q):wp (j6 .neq (.int k a) (.int k b) K) Q:=by rw[JN];simp only[JP,GN];rw[← decide_not];exact w
theorem Ic {n:Int} (h:-9223372036854775808≤n∧n≤9223372036854775807):zu .i64 n=n:=by
 grind[Jv,UK]
theorem MY {n:Int} (h:0≤n∧n≤18446744073709551615):zu .u64 n=n:=by grind[Jv,Mt]
theorem jQ3 {n:Int} (h:0≤n∧n≤255):zu .u8 n=n:=by grind[Jv,qWD]
theorem KD (w:wp (K (.int k (zu k (a+b)))) Q):wp (j6 .add (.int k a) (.int k b) K) Q:=by rw[JN];exact w
theorem TK (w:wp (K (.int k (zu k (a-b)))) Q):wp (j6 .sub (.int k a) (.int k b) K) Q:=by rw[JN];exact w
theorem qkc (w:wp (K (.int k (zu k (a*b)))) Q):wp (j6 .mul (.int k a) (.int k b) K) Q:=by rw[JN];exact w
theorem qE (h:-9223372036854775808≤a+b∧a+b≤9223372036854775807) (w:wp (K (.int .i64 (a+b))) Q):wp (j6 .add (.int .i64 a) (.int .i64 b) K) Q:=KD (by rw[Ic h];exact w)
theorem qn (h:-9223372036854775808≤a-b∧a-b≤9223372036854775807) (w:wp (K (.int .i64 (a-b))) Q):wp (j6 .sub (.int .i64 a) (.int .i64 b) K) Q:=TK (by rw[Ic h];exact w)
theorem Vg (h:-9223372036854775808≤a*b∧a*b≤9223372036854775807) (w:wp (K (.int .i64 (a*b))) Q):wp (j6 .mul (.int .i64 a) (.int .i64 b) K) Q:=qkc (by rw[Ic h];exact w)
theorem yK (h:0≤a+b∧a+b≤18446744073709551615) (w:wp (K (.int .u64 (a+b))) Q):wp (j6 .add (.int .u64 a) (.int .u64 b) K) Q:=KD (by rw[MY h];exact w)
theorem yc (h:0≤a-b∧a-b≤18446744073709551615) (w:wp (K (.int .u64 (a-b))) Q):wp (j6 .sub (.int .u64 a) (.int .u64 b) K) Q:=TK (by rw[MY h];exact w)
theorem Xb (h:b≠0) (w:wp (K (.int k (a.tmod b))) Q):wp (j6 .rem (.int k a) (.int k b) K) Q:=by rw[JN];simp only[JP,GN,iV h,cond_false];exact w
theorem qv2 (h:b≠0) (w:wp (K (.int k (zu k (a.tdiv b)))) Q):wp (j6 .quo (.int k a) (.int k b) K) Q:=by rw[JN];simp only[JP,GN,iV h,cond_false];exact w
theorem KP {d:IntKind} (w:wp (K (.int d (zu d a))) Q):wp (QI d (.int k a) K) Q:=w
theorem yP (h:-9223372036854775808≤a∧a≤9223372036854775807) (w:wp (K (.int .i64 a)) Q):wp (QI .i64 (.int k a) K) Q:=KP (by rw[Ic h];exact w)
theorem gC (h:0≤a∧a≤18446744073709551615) (w:wp (K (.int .u64 a)) Q):wp (QI .u64 (.int k a) K) Q:=KP (by rw[MY h];exact w)
theorem qkL {q:IntKind} (h:0≤b) (w:wp (K (.int k (zu k (a*2 ^ (min b.toNat k.bits))))) Q):wp (wh .shl (.int k a) (.int q b) K) Q:=by unfold wh;simp only[MI,Jh,iV (show¬b<0 by omega),cond_false];exact w
theorem jJ1 {q:IntKind} (h:0≤b) (w:wp (K (.int k (a.fdiv (2 ^ (min b.toNat k.bits))))) Q):wp (wh .shr (.int k a) (.int q b) K) Q:=by unfold wh;simp only[MI,Jh,iV (show¬b<0 by omega),cond_false];exact w
theorem ZE {t:Bool} (w:wp (K (.bool (!t))) Q):wp (sG .not (.bool t) K) Q:=w
theorem jE (w:wp (K (.bool false)) Q):wp (sG .not (.bool true) K) Q:=w
theorem jo (w:wp (K (.bool true)) Q):wp (sG .not (.bool false) K) Q:=w
theorem vX (w:wp (K (.int k (min a b))) Q):wp (rJ false [.int k a,.int k b] K) Q:=by unfold rJ;simp only[MS,cond_true,Cy,Fz,beq_self_eq_true,cond_false,Option.bind_some,Jh];rw[show(bif decide (b<a)then b else a)=min a b by grind];exact w
theorem vy (w:wp (K (.int k (max a b))) Q):wp (rJ true [.int k a,.int k b] K) Q:=by unfold rJ;simp only[MS,cond_true,Cy,Fz,beq_self_eq_true,Option.bind_some,Jh];rw[show(bif decide (a<b)then b else a)=max a b by grind];exact w
theorem k9 {p:Prop} [Decidable p] {K:AV→R} (h1:p→wp (K (.bool true)) Q) (h2:¬p→wp (K (.bool false)) Q):wp (K (.bool (decide p))) Q:=by
 by_cases hp:p
 ·rw[iG hp];exact h1 hp
 ·rw[iV hp];exact h2 hp
theorem j8 (h1:a<b→wp (K (.bool true)) Q) (h2:¬a<b→wp (K (.bool false)) Q):wp (j6 .lss (.int k a) (.int k b) K) Q:=QB (k9 h1 h2)
theorem QK (h1:a≤b→wp (K (.bool true)) Q) (h2:¬a≤b→wp (K (.bool false)) Q):wp (j6 .leq (.int k a) (.int k b) K) Q:=TI (k9 h1 h2)
theorem kw (h1:b<a→wp (K (.bool true)) Q) (h2:¬b<a→wp (K (.bool false)) Q):wp (j6 .gtr (.int k a) (.int k b) K) Q:=PW (k9 h1 h2)
theorem Ql (h1:b≤a→wp (K (.bool true)) Q) (h2:¬b≤a→wp (K (.bool false)) Q):wp (j6 .geq (.int k a) (.int k b) K) Q:=TJ (k9 h1 h2)
theorem wX (h1:a=b→wp (K (.bool true)) Q) (h2:¬a=b→wp (K (.bool false)) Q):wp (j6 .eql (.int k a) (.int k b) K) Q:=J7 (k9 h1 h2)
theorem Ja (h1:¬a=b→wp (K (.bool true)) Q) (h2:a=b→wp (K (.bool false)) Q):wp (j6 .neq (.int k a) (.int k b) K) Q:=Kx (k9 h1 λh=>h2 (Decidable.byContradiction h))
variable {x y:R} {p:Prop} [Decidable p] {u v:AV}
theorem kK {t:Bool} (h1:t=true→wp x Q) (h2:t=false→wp y Q):wp (zU (.bool t) x y) Q:=by
 cases t
 ·exact h2 rfl
 ·exact h1 rfl
theorem qK (w:wp x Q):wp (zU (.bool true) x y) Q:=w
theorem qJ (w:wp y Q):wp (zU (.bool false) x y) Q:=w
theorem Xd (h1:p→wp x Q) (h2:¬p→wp y Q):wp (JB (.bool (decide p)) true x y) Q:=by
 rw[MX];by_cases hp:p
 ·simpa[hp]using h1 hp
 ·simpa[hp]using h2 hp
theorem qf (w:wp x Q):wp (JB (.bool true) true x y) Q:=w
theorem ql (w:wp y Q):wp (JB (.bool true) false x y) Q:=w
theorem qe (w:wp y Q):wp (JB (.bool false) true x y) Q:=w
theorem qP (w:wp x Q):wp (JB (.bool false) false x y) Q:=w
theorem zQ {s:Bool} (w:wp y Q):wp (JB .undef s x y) Q:=w
theorem qF (w:wp (K u) Q):wp (w4 (.bool true) u v K) Q:=w
theorem qy (w:wp (K v) Q):wp (w4 (.bool false) u v K) Q:=w
theorem qG {α:Type} {j:α} {f:α→R} (w:wp (f j) Q):wp (vL j f) Q:=w
theorem wW {σ:Type} {j:σ→AH→R} {f:(σ→AH→R)→R} (Inv:σ→AH→Prop) (hf:∀j':σ→AH→R,(∀s h,Inv s h→wp (j' s h) Q)→wp (f j') Q) (hj:∀s h,Inv s h→wp (j s h) Q):wp (vL j f) Q:=hf j hj
theorem jc {σ:Type} {j:σ→AH→List Nat→R} {f:(σ→AH→List Nat→R)→R} (ds:List Nat) (Inv:σ→AH→Prop) (hf:∀j':σ→AH→List Nat→R,(∀s h,Inv s h→wp (j' s h ds) Q)→wp (f j') Q)
  (hj:∀s h,Inv s h→wp (j s h ds) Q):wp (vL j f) Q:=hf j hj
theorem qj {K:AH→R} (w:wp (K h) Q):wp (zT [] h K) Q:=w
theorem jB {σ:Type} {f:(σ→AH→List Nat→R)→σ→AH→List Nat→R} {d:List Nat} (Inv:Nat→σ→AH→Prop)
  (step:∀m ih s h,(∀m' s' h',m'<m→Inv m' s' h'→wp (ih s' h' d) Q)→Inv m s h→wp (f ih s h d) Q):∀{N m:Nat} {s:σ} {h:AH},m<N→Inv m s h→wp (Kh N f s h d) Q:=by
 intro N
 induction N with
 |zero=>intro m s h hm;omega
 |succ N ih=>intro m s h hm hi;show wp (f (Kh N f) s h d) Q;exact step m _ s h (λm' s' h' ap sQ=>ih omQ sQ) hi
theorem qY {c:CV} {f:AV} {as:List AV} {K:AV→AH→R} (w:wp (c f as h) Q') (hk:∀v h',Q' v h'→wp (K v h') Q):wp (xS c f as h K) Q:=by obtain⟨v,h',e,q⟩:=w;rw[JH,e];exact hk v h' q
theorem qvI {tab:BT} {rt:List RT} {n:Nat} {f:FuncId} {as:List AV} {g:WF} (hg:tab.get f=some g):callT tab rt (n+1) (.fn f [] []) as h=g (callT tab rt n) as h:=by simp_all[R,callT,List.nil_append,List.append_nil]
theorem qxT {tab:BT} {rt:List RT} {n:Nat} {f:FuncId} {a1 a2 as:List AV} {g:WF} (hg:tab.get f=some g):callT tab rt (n+1) (.fn f a1 a2) as h=g (callT tab rt n) (a1++as++a2) h:=by simp_all[R,callT]
end Go.Ae
namespace Go.Ae
open Go
def QX (z:Nat) (c:CV):CV:=λv as h=>match v,as with
 | .fn f [] [],[]=>if f=z then some (.bool true,h)else c v as h
 |_,_=>c v as h
theorem qjS {z:Nat} {c:CV} {h:AH}:QX z c (.fn z [] []) [] h=some (.bool true,h):=iJ rfl
theorem qKc {z f:Nat} {c:CV} {as:List AV} {h:AH} (hf:f≠z):QX z c (.fn f [] []) as h=c (.fn f [] []) as h:=by
 cases as with
 |nil=>exact iQ hf
 |cons a as=>rfl
theorem q8 {tab:BT} {rt:List RT} {n:Nat} {f:FuncId} {as:List AV} {g:WF} {h:AH} {Q:AV→AH→Prop} (hg:tab.get f=some g) (hn:1≤n) (w:∀k,n=k+1→wp (g (callT tab rt k) as h) Q):wp (callT tab rt n (.fn f [] []) as h) Q:=by obtain⟨k,rfl⟩:∃k,n=k+1:=⟨n-1,by omega⟩;rw[qvI hg];exact w k rfl
theorem Ie {tab:BT} {rt:List RT} {n:Nat} {f:FuncId} {a1 a2 as:List AV} {g:WF} {h:AH} {Q:AV→AH→Prop} (hg:tab.get f=some g) (hn:1≤n) (w:∀k,n=k+1→wp (g (callT tab rt k) (a1++as++a2) h) Q):wp (callT tab rt n (.fn f a1 a2) as h) Q:=by obtain⟨k,rfl⟩:∃k,n=k+1:=⟨n-1,by omega⟩;rw[qxT hg];exact w k rfl
theorem wQ {z:Nat} {c:CV} {f:FuncId} {as:List AV} {h:AH} {Q Q':AV→AH→Prop} {K:AV→AH→R} (hf:f≠z) (w:wp (c (.fn f [] []) as h) Q') (hk:∀v h',Q' v h'→wp (K v h') Q):wp (xS (QX z c) (.fn f [] []) as h K) Q :=
 qY (by rw[qKc hf];exact w) hk
theorem jJ5 {z:Nat} {c:CV} {h:AH} {Q:AV→AH→Prop} {K:AV→AH→R} (hk:wp (K (.bool true) h) Q):wp (xS (QX z c) (.fn z [] []) [] h K) Q :=
 qY (Q':=λv h'=>v=.bool true∧h'=h) ⟨_,_,qjS,rfl,rfl⟩ (by rintro v h' ⟨rfl,rfl⟩;exact hk)
theorem qYM {P:Program} {m:Mp} {D:Nat→Prop} {h:AH} {w w':World} (R:Rel P m D h w) (B:RowKit.Below w.heap.size w w'):Ext m D h w m D h w'∧Rel P m D h w':=by
 refine Ext.rel R ?_;refine⟨⟨λ_ x=>x,λ_ _=>rfl,B.size,λc hc hn=>⟨B.block c hc,hn⟩,Nat.le_refl _,λ_ _ hn=>⟨rfl,hn⟩,B.os,B.tape,B.output,λb=>⟨.inl,λhb=>hb.elim id λhb=>by omega⟩,λ_ _ h1 h2=>⟨h1,h2⟩⟩,?_,R.inj,R.lt,R.dh⟩;intro b hb;obtain⟨x,hx,hr,hd⟩:=R.bR b hb;refine⟨x,hx,?_,hd⟩;cases x with
 |dead=>trivial
 |dh t=>exact hr.congr (λ_ _=>rfl) hd (B.block _ hr.lI)
 |_=>exact hr.congr (λ_ _=>rfl) hd (B.block _ (di.inside (by trivial) hr))
theorem qKT {P:Program} {c:CV} (hc:vK P c) {z:Nat} (C7:∀(as:Array Value) (W:World),(callFunc z as).run P W=.ok (.enter z as) W)
  (cS:∀(w:World) (n:Nat),Gl P w→CallsIn Fence.wide n P z #[] w λe w'=>e=.returned (.bool true)∧RowKit.Below w.heap.size w w'):vK P (QX z c):=by
 intro vf as h r e m D w R hv ha;unfold QX at e
 split at e
 ·rename_i f
  split at e
  ·rename_i hf;subst hf;cases e;refine⟨C7,λn=>CallsIn.mono (cS w n R.gl.gl) ?_⟩;rintro ee w' ⟨rfl,B⟩;obtain⟨X,R'⟩:=qYM R B;exact⟨m,D,rfl,X,R',trivial⟩
  ·exact hc _ _ _ _ e m D w R hv ha
 ·exact hc _ _ _ _ e m D w R hv ha
theorem open_law {P:Program} {tab:BT} {rt:List RT} (hm:P.follows .mixedOrders=true) (ht:TabOk P tab rt) {z:Nat} {gz:WF} (hz:tab.get z=some gz)
  (cS:∀(w:World) (n:Nat),Gl P w→CallsIn Fence.wide n P z #[] w λe w'=>e=.returned (.bool true)∧RowKit.Below w.heap.size w w')
  {f:FuncId} {g:WF} (hg:tab.get f=some g) {k:Nat} {as:List AV} {w:World} {h:AH} (M:QN w h) (C8:Gl P w) (ha:aY (gH w) as)
  (e:wp (g (QX z (callT tab rt k)) as h) λv _=>v=.bool true) (n:Nat):CallsIn Fence.wide n P f (aQ Ux as).toArray w λe w'=>e=.returned (.bool true)∧RowKit.Below w.heap.size w w':=by
 obtain⟨v,h',e,rfl⟩:=e;have hc:=qKT (qJI hm ht k) (ht.enter z gz hz) cS;refine CallsIn.mono ((ht.w f g hg).call hc (qG8 hm hc) e (M.rel C8) ha n) ?_;rintro ee w' ⟨m',D',rfl,X,R',_⟩;exact⟨rfl,X.os,X.tape,X.output,X.size,λk hk=>(X.keep k hk (λ⟨b,hb,hl,_⟩=>M.m8 hb hl)).1⟩
theorem TL {P:Program} {h:AH} {d:Nat} {t0 t1 t2 t3:TypeId} {l:List AV} (H:PV P h d [t0,t1,t2,t3] l):∃a0 a1 a2 a3,l=[a0,a1,a2,a3]∧BK P h d t0 a0∧BK P h d t1 a1∧BK P h d t2 a2∧BK P h d t3 a3:=by
 cases l with
 |nil=>trivial
 |cons a0 l=>
 obtain⟨h0,H⟩:=H;cases l with
 |nil=>trivial
 |cons a1 l=>
 obtain⟨h1,H⟩:=H;cases l with
 |nil=>trivial
 |cons a2 l=>
 obtain⟨h2,H⟩:=H;cases l with
 |nil=>trivial
 |cons a3 l=>
 obtain⟨h3,H⟩:=H;cases l with
 |cons _ _=>trivial
 |nil=>grind
end Go.Ae
namespace Go.Ae
open Go
variable {Q:AV→AH→Prop} {h h' oM:AH} {K:AV→R} {K2:AV→AH→R} {K1:AH→R} {b off n sz:Nat} {xs ys l:List AV} {e:TypeId} {o:Bool} {x v:AV} {k:IntKind}
def CT.full:CT→Prop
 | .fG _=>True
 | .tree n z tr=>∀i,i<n→∃v,Jb z tr i=some v
theorem CT.rV {c:CT} (hc:c.full) (i:Nat):c.fN i=c.toList[i]?:=by
 cases c with
 |fG xs=>exact yv xs i
 |tree n z tr=>
  simp only[CT.fN,CT.toList,List.getElem?_map];cases hb:Nat.ble (i+1) n
  ·have:=KG hb;grind
  ·have:=wm hb;obtain⟨v,hv⟩:=hc i omQ;rw[cond_true,List.getElem?_range omQ,hv];grind[Gz]
theorem qXn {z:List AV} {t:aH AV}:∀{l:List AV} {i:Nat},(∀k,k<l.length→Jb z t (i+k)=l[k]?)→XC z t i l.length=some l:=by
 intro l
 induction l with
 |nil=>intro i _;rfl
 |cons a l ih=>intro i H;rw[List.length_cons,ZM];have h0:=H 0 aM;simp only[Nat.add_zero,List.getElem?_cons_zero]at h0;rw[h0,Option.bind_some,ih (i:=i+1) (λk hk=>by have:=H (k+1) (by grind);grind)];rfl
theorem NV {t:aH AV} {i:Nat}:Jb [] t i=aH.get t i:=by
 grind[vi,MA]
theorem GP {α:Type} {xs l:List α} {off:Nat} (H:∀i,i<l.length→xs[off+i]? =l[i]?):(xs.drop off).take l.length=l:=by
 apply List.ext_getElem?;grind
theorem Xj (hl:0<l.length) (H:∀i,i<l.length→h.at b (off+i)=l[i]?):yo h b off l.length=some l:=by
 have hd:∀i,i<l.length→∃u,l[i]? =some u:=λi hi=>⟨_,iW hi⟩;have bZ:=H (l.length-1) omQ;obtain⟨u,hu⟩:=hd (l.length-1) omQ;unfold AH.at at H bZ;unfold yo;cases hg:h.get b with
 |none=>grind
 |some x=>
  simp only[hg]at H bZ;cases x with
  |cells c e o=>
   simp only at H bZ ⊢;cases c with
   |fG ys=>simp only[CT.fN,yv]at H bZ;grind[CT.lT,JL,List.getElem?_eq_some_iff,Qj,GP]
   |tree m z tr=>
    simp only[CT.fN]at H bZ;have hm:off+l.length≤m:=by
     rw[hu]at bZ;cases hb:Nat.ble (off+(l.length-1)+1) m
     ·grind
     simp_all;omega
    simp only[CT.lT];rw[show Nat.beq l.length 0=false from yY omQ,cond_false,iY hm,cond_true];refine qXn λk hk=>?_;grind
  |dh t=>grind[qXn,NV]
  |_=>grind
theorem vn (hx:h.at b off=some x) (w:wp (K x) Q):wp (jK h (.ptr b off) K) Q:=by
 unfold AH.at at hx;rw[gD];simp only
 split at hx
 ·rename_i hg;rw[hg];simp only[hx,ob];exact w
 ·rename_i hg;rw[hg];simp only[hx,ob];exact w
 ·cases hx
theorem YM (hl:l.length=n) (hn:0<n) (H:∀i,i<n→h.at b (off+i)=l[i]?) (w:wp (K (.agg l)) Q):wp (jr h (.ptr b off) n K) Q:=by subst hl;rw[ku];simp only[Xj hn H,ob];exact w
structure Fr (fp:Nat→Prop) (h h':AH):Prop where
  nx:h.nx≤h'.nx
  get:∀b,b<h.nx→¬fp b→h'.get b=h.get b
theorem Fr.refl (fp:Nat→Prop) (h:AH):Fr fp h h:=⟨Nat.le_refl _,λ_ _ _=>rfl⟩
theorem Fr.mono {fp fq:Nat→Prop} (F:Fr fp h h') (H:∀b,b<h.nx→fp b→fq b):Fr fq h h':=⟨F.nx,λb hb hn=>F.get b hb λhf=>hn (H b hb hf)⟩
theorem Fr.trans {fp fq:Nat→Prop} (F:Fr fp h h') (G:Fr fq h' oM):Fr (λb=>fp b∨fq b) h oM :=
 ⟨Nat.le_trans F.nx G.nx,λb hb hn=>(G.get b (Nat.lt_of_lt_of_le hb F.nx) λhf=>hn (.inr hf)).trans (F.get b hb λhf=>hn (.inl hf))⟩
abbrev fj (N:Nat) (h h':AH):Prop:=Fr (λb=>N≤b) h h'
theorem fj.refl (N:Nat) (h:AH):fj N h h:=Fr.refl _ _
theorem fj.step {N:Nat} {fp:Nat→Prop} (F:fj N h h') (G:Fr fp h' oM) (H:∀b,fp b→N≤b):fj N h oM :=
 (F.trans G).mono λb _ hb=>hb.elim id (H b)
structure Row (h:AH) (b:Nat) (xs:List AV) (e:TypeId) (o:Bool):Prop where
  lt:b<h.nx
  bR:∃c,h.get b=some (.cells c e o)∧c.toList=xs∧c.full
theorem Row.fr {fp:Nat→Prop} (A:Row h b xs e o) (F:Fr fp h h') (hb:¬fp b):Row h' b xs e o :=
 ⟨Nat.lt_of_lt_of_le A.lt F.nx,by rw[F.get b A.lt hb];exact A.bR⟩
theorem Row.at (A:Row h b xs e o) (i:Nat):h.at b i=xs[i]?:=by
 obtain⟨c,h1,rfl,h3⟩:=A.bR;grind[AH.at,CT.rV]
theorem TM {fp:Nat→Prop} {i:Nat} (F:Fr fp h h') (hb:b<h.nx) (hf:¬fp b):h'.at b i=h.at b i:=by unfold AH.at;rw[F.get b hb hf]
theorem CT.cd (xs:List AV):(CT.ofList xs).full:=by
 unfold CT.ofList;cases Nat.ble xs.length 16
 ·intro i hi;simp_all[NV,QV,omQ,Nat.sub_zero]
 trivial
theorem CT.tC (z:List AV) (n:Nat):(CT.Ep z n).full:=by
 unfold CT.Ep;cases hb:Nat.ble (z.length*n) 16
 ·intro i hi;have h1:=KG hb;have hz:0<z.length:=Nat.pos_of_ne_zero λh0=>by grind
  have hm:=Nat.mod_lt i hz;refine⟨z[i%z.length],?_⟩;rw[vi,show aH.get (PT.e:aH AV) i=none from aH.ic i];simp[yv]
 trivial
theorem ZB {z:List AV} {t:aH AV} {i:Nat} {xs:List AV} {j:Nat}:Jb z (Bj t i xs) j=if i≤j∧j<i+xs.length then xs[j-i]? else Jb z t j:=by
 rw[vi,vi,QV];grind
theorem CT.pC {c c':CT} (hc:c.full) (e:c.write off xs=some c'):c'.full:=by
 cases c with
 |fG ys=>simp only[CT.write,Option.bind_eq_some_iff]at e;obtain⟨s,_,e⟩:=e;cases e;trivial
 |tree n z tr=>
  simp only[CT.write,jL]at e;obtain⟨_,e⟩:=e;cases e;intro i hi;rw[ZB];by_cases hj:off≤i∧i<off+xs.length
  ·rw[iJ hj];exact⟨_,iW omQ⟩
  ·rw[iQ hj];exact hc i hi
theorem CT.pD {c:CT} (ho:off+xs.length≤c.toList.length):∃c',c.write off xs=some c':=by
 cases c with
 |fG ys=>exact⟨_,by simp only[CT.write];rw[Ud (show off+xs.length≤ys.length from ho)];rfl⟩
 |tree n z tr=>simp_all[CT.write,iY,CT.toList,cond_true]
theorem CT.tD {c:CT} (hc:c.full) (xs:List AV):(c.lH xs).full:=by
 cases c with
 |fG ys=>exact CT.cd _
 |tree n z tr=>
  intro i hi;rw[ZB];by_cases hj:n≤i∧i<n+xs.length
  ·rw[iJ hj];exact⟨_,iW omQ⟩
  ·rw[iQ hj];exact hc i omQ
theorem CT.tE {c:CT} (hc:c.full) (hn:n≤c.toList.length):∃c',c.pre n=some c'∧c'.toList=c.toList.take n∧c'.full:=by
 have key:∃c',c.pre n=some c'∧c'.full:=by
  cases c with
  |fG ys=>exact⟨.fG (ys.take n),by simp only[CT.pre];rw[Qj (show n≤ys.length from hn)];rfl,trivial⟩
  |tree m z tr=>
   have hm:n≤m:=by grind[CT.toList]
   exact⟨.tree n z tr,by simp_all[CT.pre,iY,cond_true],λi hi=>hc i omQ⟩
 obtain⟨c',h1,h2⟩:=key;have h3:=CT.pd h1;grind[Qj,Option.some.inj]
def QH (xs:List AV) (off:Nat) (ys:List AV):List AV:=xs.take off++ys++xs.drop (off+ys.length)
theorem K5 (ho:off+ys.length≤xs.length):(QH xs off ys).length=xs.length:=by grind[QH]
theorem qQ3 (ho:off+ys.length≤xs.length) (i:Nat):(QH xs off ys)[i]? =if off≤i∧i<off+ys.length then ys[i-off]? else xs[i]?:=by
 unfold QH;by_cases h1:i<off
 all_goals grind
theorem UX {y:AV} (ho:off<xs.length):QH xs off [y]=xs.set off y:=by
 apply List.ext_getElem?;intro i;rw[qQ3 (by grind),List.getElem?_set];grind
theorem Yi (A:Row h b xs e o) (ho:off+ys.length≤xs.length) (h1:jW ys=true):∃h',wK h b off ys=some h'∧Row h' b (QH xs off ys) e o∧Fr (λa=>a=b) h h'∧h'.nx=h.nx:=by obtain⟨c,g1,rfl,g3⟩:=A.bR;obtain⟨c',bA⟩:=CT.pD (c:=c) ho;have h2:=CT.nN bA;rw[Ud ho]at h2;refine⟨h.put b (.cells c' e o),?_,⟨A.lt,c',AH.bu ..,(Option.some.inj h2).symm,CT.pC g3 bA⟩,⟨Nat.le_refl _,λa _ hn=>AH.cn h _ (λe=>hn e.symm)⟩,rfl⟩;simp_all[wK,cond_true,Option.bind_some]
theorem UW (A:Row h b xs e o) (hn:x.cells.length=n) (ho:off+n≤xs.length) (h1:jW x.cells=true)
  (w:∀h',Row h' b (QH xs off x.cells) e o→Fr (λa=>a=b) h h'→h'.nx=h.nx→wp (K1 h') Q):wp (jw h (.ptr b off) x n K1) Q:=by
 subst hn;obtain⟨h',g1,g2,g3,g4⟩:=Yi A ho h1;rw[UT];simp only[Nat.beq_refl,cond_true,g1,ob];exact w h' g2 g3 g4
theorem Row.new {c:CT} (hc:c.full):Row (h.new (.cells c e o)) h.nx c.toList e o∧Fr (λ_=>False) h (h.new (.cells c e o)) :=
 ⟨⟨by simp,c,AH.bD ..,rfl,hc⟩,⟨by simp,λb hb _=>AH.cq h _ omQ⟩⟩
theorem UH (h1:jW x.cells=true) (w:∀b h',h.nx≤b→Row h' b x.cells e false→Fr (λ_=>False) h h'→wp (K2 (.ptr b 0) h') Q):wp (J4 h e x K2) Q:=by unfold J4;rw[h1,cond_true];obtain⟨a1,a2⟩:=Row.new (h:=h) (e:=e) (o:=false) (CT.cd x.cells);rw[CT.aZ]at a1;exact w h.nx _ (Nat.le_refl _) a1 a2
theorem qA {z:List AV} {vs:List (Nat×Nat×AV)} (hf:gn z vs=some l) (w:wp (K (.agg l)) Q):wp (zc z vs K) Q:=by unfold zc;rw[hf];exact w
theorem qYd {z:List AV} {vs:List (Nat×Nat×AV)} (hf:gn (gu z n) vs=some l) (h1:jW l=true)
  (w:∀b h',h.nx≤b→Row h' b l e false→Fr (λ_=>False) h h'→wp (K2 (.slice b 0 n n false) h') Q):wp (xd h e z n vs K2) Q:=by
 unfold xd;simp only[hf,ob,h1,cond_true];obtain⟨a1,a2⟩:=Row.new (h:=h) (e:=e) (o:=false) (CT.cd l);rw[CT.aZ]at a1;exact w h.nx _ (Nat.le_refl _) a1 a2
theorem V9 (z:AV):∀n,gu [z] n=List.replicate n z:=by
 intro n
 induction n with
 |zero=>rfl
 |succ n ih=>grind[gu]
theorem TN {z:List AV} {ln cp:Nat} {k1 k2:IntKind} (h1:ln≤cp) (h2:cp≤1073741824)
  (w:∀b h',h.nx≤b→Row h' b (gu z cp) e false→Fr (λ_=>False) h h'→wp (K2 (.slice b 0 ln cp false) h') Q):wp (YG h e z (.int k1 (ln:Int)) (.int k2 (cp:Int)) K2) Q:=by
 show wp (bif Nat.ble ln cp&&Nat.ble cp 1073741824 then K2 (.slice h.nx 0 ln cp false) (h.new (.cells (CT.Ep z cp) e false))else none) Q;rw[iY h1,iY h2];obtain⟨a1,a2⟩:=Row.new (h:=h) (e:=e) (o:=false) (CT.tC z cp);rw[CT.o7]at a1;exact w h.nx _ (Nat.le_refl _) a1 a2
theorem qI {f:Nat} (w:wp (K (.ptr b (off+f))) Q):wp (qH (.ptr b off) f K) Q:=w
theorem MQ {f:Nat} (hx:l[f]? =some x) (w:wp (K x) Q):wp (Gt (.agg l) f K) Q:=by rw[Un];simp only[yv,hx,ob];exact w
theorem Zo {cp:Nat} (w:wp (K (.int .i64 (n:Int))) Q):wp (kH (.slice b off n cp o) K) Q:=w
theorem YZ {cp i:Nat} (hi:i<n) (w:wp (K (.ptr b (off+i*sz))) Q):wp (yt (.slice b off n cp o) (.int k (i:Int)) sz K) Q:=by rw[Vf];show wp (bif Nat.ble (i+1) n then K (.ptr b (off+i*sz))else none) Q;rw[iY hi,cond_true];exact w
theorem qi {i:Nat} (hx:l[i]? =some x) (w:wp (K x) Q):wp (wn (.cA l) i K) Q:=by rw[Yw];simp only[yv,hx,ob];exact w
def AH.rd (h:AH) (b:Nat):Prop:=match h.get b with
 |some (.cells _ _ _)=>True
 |some (.dh _)=>True
 |_=>False
theorem TO {fp:Nat→Prop} (F:Fr fp h h') (hb:b<h.nx) (hf:¬fp b) (hr:h.rd b):h'.rd b:=by unfold AH.rd at*;rw[F.get b hb hf];grind
theorem Row.rd (A:Row h b xs e o):h.rd b:=by obtain⟨c,h1,_⟩:=A.bR;grind[AH.rd]
inductive Sl (D:Nat→Prop) (h:AH) (sz:Nat):Nat→AV→List AV→Prop
  |aj:Sl D h sz 0 .aj []
  |bM (a:Addr):Sl D h sz 0 (.bM a) []
  |tail (b off rI i1:Nat):Sl D h sz 0 (.tail b off rI i1) []
  |mk {b off n cp:Nat} {o:Bool} {xs:List AV} (hd:D b) (hb:b<h.nx) (hr:h.rd b) (hl:xs.length=n*sz) (ha:∀i,i<n*sz→h.at b (off+i)=xs[i]?):Sl D h sz n (.slice b off n cp o) xs
theorem Sl.len {D:Nat→Prop} (S:Sl D h sz n v xs):xs.length=n*sz:=by
 cases S with
 |aj=>simp
 |bM a=>simp
 |tail b o o' i=>simp
 |mk hd hb hr hl ha=>grind
theorem Sl.fr {D fp:Nat→Prop} (S:Sl D h sz n v xs) (F:Fr fp h h') (hD:∀b,D b→¬fp b):Sl D h' sz n v xs:=by
 cases S with
 |aj=>exact .aj
 |bM a=>exact .bM a
 |tail b o o' i=>exact .tail b o o' i
 |mk hd hb hr hl ha=>exact .mk hd (Nat.lt_of_lt_of_le hb F.nx) (TO F hb (hD _ hd) hr) hl λi hi=>by grind[TM]
theorem Sl.mono {D D':Nat→Prop} (S:Sl D h sz n v xs) (hD:∀b,D b→D' b):Sl D' h sz n v xs:=by
 cases S with
 |aj=>exact .aj
 |bM a=>exact .bM a
 |tail b o o' i=>exact .tail b o o' i
 |mk hd hb hr hl ha=>exact .mk (hD _ hd) hb hr hl ha
theorem Sl.bU {D:Nat→Prop} (S:Sl D h sz n v xs) (F:fj h.nx h h'):Sl D h' sz n v xs:=by
 cases S with
 |aj=>exact .aj
 |bM a=>exact .bM a
 |tail b o o' i=>exact .tail b o o' i
 |mk hd hb hr hl ha=>exact .mk hd (Nat.lt_of_lt_of_le hb F.nx) (TO F hb omQ hr) hl λi hi=>by rw[TM F hb omQ];grind
theorem Row.bU {N:Nat} (A:Row h b xs e o) (F:fj N h h') (hb:b<N):Row h' b xs e o:=A.fr F omQ
theorem yH {D:Nat→Prop} (S:Sl D h sz n v xs) (w:wp (K (.int .i64 (n:Int))) Q):wp (kH v K) Q:=by
 cases S<;>exact w
theorem PX {D:Nat→Prop} {i:Nat} (S:Sl D h sz n v xs) (hi:i<n) (w:∀b off,b<h.nx→D b→(∀j,j<sz→h.at b (off+j)=xs[i*sz+j]?)→wp (K (.ptr b off)) Q):wp (yt v (.int k (i:Int)) sz K) Q:=by
 cases S with
 |aj=>omega
 |bM a=>omega
 |tail b o o' i=>omega
 |mk hd hb hr hl ha=>
  refine YZ hi (w _ _ hb hd λj hj=>?_)
  rw[Nat.add_assoc,ha _ (by
   have:i*sz+sz≤n*sz:=by rw[← Nat.succ_mul];exact Nat.mul_le_mul_right sz hi
   omega)]
theorem Sl.m9 {D:Nat→Prop} {cp:Nat} (A:Row h b xs e o) (hd:D b) (ho:xs.length=n*sz):Sl D h sz n (.slice b 0 n cp o) xs :=
 .mk hd A.lt A.rd ho λi _=>by rw[A.at,Nat.zero_add]
theorem yz {y d i:Nat} (hi:i≤y):vI (some (.int k (i:Int))) y d=some i:=by show(bif Nat.ble i y then some i else none)=some i;rw[iY hi];rfl
theorem UC {el cp lo hi:Nat} {BM Ig:Option AV} (hh:vI Ig cp n=some hi) (hl:vI BM hi 0=some lo) (w:wp (K (.slice b (bif Nat.beq cp lo then off else off+lo*sz) (hi-lo) (cp-lo) false)) Q):wp (xC h el sz (.slice b off n cp false) BM Ig K) Q:=by unfold xC;simp only[hh,hl,ob];exact w
theorem K9 {i0 lo hi:Nat} {BM Ig:Option AV} (A:Row h b xs e true) (bz:0<sz) (ho:off=i0*sz) (hx:off+n*sz≤xs.length) (hh:vI Ig n n=some hi) (hl:vI BM hi 0=some lo) (ap:lo<n∨lo=0)
  (w:wp (K (.slice b (off+lo*sz) (hi-lo) (i0+lo) true)) Q):wp (xC h e sz (.slice b off n i0 true) BM Ig K) Q:=by
 obtain⟨c,g1,g2,g3⟩:=A.bR;unfold xC;have hf:vJ h e b off sz i0 n=true:=by unfold vJ;rw[g1];simp only[Nat.beq_refl,Bool.true_and,Bool.and_eq_true];refine⟨iY bz,by simp_all,iY ?_⟩;grind[CT.dD]
 simp only[hf,cond_true,hh,hl,ob];by_cases h0:lo=0
 ·subst h0;simpa using w
 ·rw[show Nat.beq lo 0=false from yY h0,cond_false,iY (show lo+1≤n by omega),cond_true];exact w
theorem qyl {i0:Nat} {BM:Option AV} (A:Row h b xs e true) (bz:0<sz) (ho:off=i0*sz) (hx:off+n*sz≤xs.length) (hl:vI BM n 0=some n) (hn:0<n)
  (w:wp (K (.tail b off (off+n*sz) (i0+n))) Q):wp (xC h e sz (.slice b off n i0 true) BM none K) Q:=by
 obtain⟨c,g1,g2,g3⟩:=A.bR;unfold xC;have hf:vJ h e b off sz i0 n=true:=by unfold vJ;rw[g1];simp only[Nat.beq_refl,Bool.true_and,Bool.and_eq_true];refine⟨iY bz,by simp_all,iY ?_⟩;grind[CT.dD]
 simp only[hf,cond_true,show vI none n n=some n from rfl,hl,ob];rw[show Nat.beq n 0=false from yY omQ,cond_false];cases hc:Nat.ble (n+1) n
 ·exact w
 ·have:=Nat.le_of_ble_eq_true hc;omega
def shut:AV→Bool
 | .slice _ _ _ _ o=>!o
 | .tail _ _ _ _=>false
 |_=>true
def Ih:AV→Prop
 | .slice _ _ n cp false=>n≤cp
 |_=>True
theorem qGa {D:Nat→Prop} {el lo:Nat} (S:Sl D h sz n v xs) (hs:shut v=true) (hr:Ih v) (fh:lo≤n)
  (w:∀v',Sl D h sz (n-lo) v' (xs.drop (lo*sz))→shut v'=true→Ih v'→wp (K v') Q):wp (xC h el sz v (some (.int k (lo:Int))) none K) Q:=by
 have uD:=S.len;cases S with
 |aj=>
  obtain rfl:lo=0:=by omega
  unfold xC;simp only[show vI none 0 0=some 0 from rfl,yz (k:=k) (Nat.le_refl 0),ob];exact w _ (by simpa using Sl.aj) rfl trivial
 |bM a=>
  obtain rfl:lo=0:=by omega
  unfold xC;simp only[show vI none 0 0=some 0 from rfl,yz (k:=k) (Nat.le_refl 0),ob];exact w _ (by simpa using Sl.bM a) rfl trivial
 |tail b o o' i=>cases hs
 |mk hd hb hrd hl ha=>
  rename_i b off cp o;cases o with
  |true=>cases hs
  |false=>
   have Ii:n≤cp:=hr;refine UC (hi:=n) (lo:=lo) rfl (yz fh) (w _ ?_ rfl (show n-lo≤cp-lo by omega));have hle:lo*sz≤n*sz:=Nat.mul_le_mul_right sz fh;have rN:(n-lo)*sz=n*sz-lo*sz:=Nat.sub_mul ..;refine .mk hd hb hrd (by grind) ?_;intro i hi;by_cases hc:cp=lo
   ·grind
   ·rw[show Nat.beq cp lo=false from yY hc,cond_false,Nat.add_assoc,ha _ omQ,List.getElem?_drop]
theorem qK8 {D:Nat→Prop} {m:Nat} (S:Sl D h sz n v xs) (hm:m≤n) (h0:0<m*sz):kJ h sz m v=some (xs.take (m*sz)):=by
 have C0:m*sz≤n*sz:=Nat.mul_le_mul_right sz hm;cases S with
 |aj=>omega
 |bM a=>omega
 |tail b o o' i=>omega
 |mk hd hb hr hl ha=>
  show yo h _ _ (m*sz)=_;have hlen:(xs.take (m*sz)).length=m*sz:=by grind
  have:=Xj (h:=h) (b:=_) (off:=_) (l:=xs.take (m*sz)) omQ (λi hi=>(by rw[ha i omQ,List.getElem?_take_of_lt omQ]:h.at _ (_+i)=_));grind
theorem qXU {D:Nat→Prop} (S:Sl D h sz n v xs):QF v=some n:=by cases S<;>rfl
theorem qy4 {D:Nat→Prop} {m cp:Nat} (S:Sl D h sz n v xs) (A:Row h b ys e o) (ho:off+m*sz≤ys.length) (bz:0<sz) (h1:jW (xs.take (min n m*sz))=true)
  (w:∀h',Row h' b (QH ys off (xs.take (min n m*sz))) e o→Fr (λa=>a=b) h h'→h'.nx=h.nx→wp (K2 (.int .i64 ((min n m:Nat):Int)) h') Q):wp (K7 h sz (.slice b off m cp o) v K2) Q:=by
 unfold K7;have he:QF (.slice b off m cp o)=some m:=rfl;simp only[qXU S,he,ob];have hmm:Nat.min n m=min n m:=rfl;rw[hmm];have hle:min n m*sz≤n*sz:=Nat.mul_le_mul_right sz (Nat.min_le_left _ _);have tF:min n m*sz≤m*sz:=Nat.mul_le_mul_right sz (Nat.min_le_right _ _);have uD:=S.len;by_cases h0:min n m=0
 ·have hf:∃l,kJ h sz (min n m) v=some l:=by
   rw[h0];cases S with
   |aj=>exact⟨_,rfl⟩
   |bM a=>exact⟨_,rfl⟩
   |tail b o o' i=>exact⟨_,rfl⟩
   |mk hd hb hr hl ha=>
    show∃l,yo h _ _ (0*sz)=some l;rw[Nat.zero_mul];unfold AH.rd at hr;unfold yo
    split at hr
    ·rename_i c _ _ hg;rw[hg];cases c with
     |fG ys=>exact⟨[],rfl⟩
     |tree n z tr=>exact⟨[],rfl⟩
    ·rename_i hg;rw[hg];exact⟨[],rfl⟩
    grind
  obtain⟨l,hf⟩:=hf;rw[hf];simp only[h0,Nat.beq_refl,cond_true];have:=w h (by rw[h0];simp_all[QH]) (Fr.refl _ _) rfl;rw[h0]at this;exact this
 ·rw[qK8 S (Nat.min_le_left _ _) (Nat.mul_pos omQ bz)];simp only[show Nat.beq (min n m) 0=false from yY h0,cond_false];have hlen:(xs.take (min n m*sz)).length=min n m*sz:=by grind
  obtain⟨h',g1,g2,g3,g4⟩:=Yi (ys:=xs.take (min n m*sz)) A (off:=off) (by grind) h1;simp only[g1];exact w h' g2 g3 g4
theorem CT.C9 {c:CT} {ys:List AV} (H:∀i,i<ys.length→c.fN i=ys[i]?):∃c',c.pre ys.length=some c'∧c'.toList=ys∧c'.full:=by
 by_cases h0:ys.length=0
 ·have:=iA h0;subst this;cases c with
  |fG xs=>exact⟨.fG [],rfl,rfl,trivial⟩
  |tree m z tr=>exact⟨.tree 0 z tr,by rfl,rfl,λi hi=>by omega⟩
 ·have bZ:=H (ys.length-1) omQ;rw[iW omQ]at bZ;cases c with
  |fG xs=>simp only[CT.fN,yv]at H bZ;have hl:=(List.getElem?_eq_some_iff.1 bZ).1;refine⟨.fG (xs.take ys.length),by simp only[CT.pre];rw[Qj omQ];rfl,?_,trivial⟩;have:=GP (xs:=xs) (l:=ys) (off:=0) (λi hi=>by grind);trivial
  |tree m z tr=>
   simp only[CT.fN]at H bZ;have hm:ys.length≤m:=by
    grind[Nat.ble,wm]
   have ht:∀i,i<ys.length→Jb z tr i=ys[i]?:=λi hi=>by
    grind
   refine⟨.tree ys.length z tr,by simp_all[CT.pre,iY,cond_true],?_,λi hi=>⟨_,(ht i hi).trans (iW hi)⟩⟩;apply List.ext_getElem?;grind[CT.toList,List.getElem?_range,Gz]
theorem qjH {D:Nat→Prop} (S:Sl D h sz n v ys):∃nc,NB h sz n v=some nc∧nc.toList=ys∧nc.full:=by
 cases S with
 |aj=>exact⟨_,rfl,rfl,trivial⟩
 |bM a=>exact⟨_,rfl,rfl,trivial⟩
 |tail b o o' i=>exact⟨_,rfl,rfl,trivial⟩
 |mk hd hb hr hl ha=>
  rename_i b off cp o;have n9:0<ys.length→yo h b off ys.length=some ys:=λh0=>Xj h0 λi hi=>ha i omQ;unfold NB;simp only[← hl];unfold AH.rd at hr;unfold AH.at at ha;unfold yo at n9
  split at hr
  ·rename_i c e' o' hg;simp only[hg]at ha n9 ⊢;unfold CT.Pe;by_cases h0:off=0
   ·subst h0;rw[Nat.beq_refl,cond_true];obtain⟨c',h1,h2,h3⟩:=CT.C9 (c:=c) (ys:=ys) λi hi=>by grind
    grind
   ·rw[show Nat.beq off 0=false from yY h0,cond_false];by_cases hy:0<ys.length
    ·rw[n9 hy];exact⟨_,rfl,CT.aZ ys,CT.cd ys⟩
    ·have:=iA (show ys.length=0 by omega);subst this;refine⟨CT.ofList [],?_,CT.aZ [],CT.cd []⟩;cases c<;>rfl
  ·rename_i t hg;simp only[hg]at n9 ⊢;by_cases hy:0<ys.length
   ·rw[n9 hy];exact⟨_,rfl,CT.aZ ys,CT.cd ys⟩
   ·have:=iA (show ys.length=0 by omega);subst this;exact⟨CT.ofList [],rfl,CT.aZ [],CT.cd []⟩
  grind
def Acc (D:Nat→Prop) (h:AH) (e:TypeId) (sz n:Nat) (v:AV) (xs:List AV):Prop :=
 xs.length=n*sz∧(v=.aj∧n=0∨∃b,v=.slice b 0 n 0 true∧D b∧Row h b xs e true)
theorem Acc.aj {D:Nat→Prop}:Acc D h e sz 0 .aj []:=⟨by simp,.inl ⟨rfl,rfl⟩⟩
theorem Acc.sl {D:Nat→Prop} (A:Acc D h e sz n v xs):Sl D h sz n v xs:=by
 obtain⟨h1,⟨rfl,rfl⟩ |⟨b,rfl,h2,h3⟩⟩:=A
 ·obtain rfl:xs=[]:=iA (by grind);exact .aj
 ·exact .m9 h3 h2 h1
theorem Acc.fr {D fp:Nat→Prop} (A:Acc D h e sz n v xs) (F:Fr fp h h') (hD:∀b,D b→¬fp b):Acc D h' e sz n v xs:=by
 obtain⟨h1,h2 |⟨b,rfl,h2,h3⟩⟩:=A
 ·exact⟨h1,.inl h2⟩
 ·exact⟨h1,.inr ⟨b,rfl,h2,h3.fr F (hD b h2)⟩⟩
theorem Acc.mono {D D':Nat→Prop} (A:Acc D h e sz n v xs) (hD:∀b,D b→D' b):Acc D' h e sz n v xs:=by
 obtain⟨h1,h2 |⟨b,rfl,h2,h3⟩⟩:=A
 ·exact⟨h1,.inl h2⟩
 ·exact⟨h1,.inr ⟨b,rfl,hD b h2,h3⟩⟩
end Go.Ae
namespace Go.Ae
open Go
variable {h:AH} {n sz:Nat} {xs:List AV}
theorem qX {b o:Nat} {K:AV→R} {Q:AV→AH→Prop} (w:wp (K (.ptr b o)) Q):wp (zn (.ptr b o) K) Q:=w
theorem zO {D:Nat→Prop} {v x:AV} {i:Nat} {k:IntKind} {K:AV→R} {Q:AV→AH→Prop} (S:Sl D h 1 n v xs) (hx:xs[i]? =some x) (w:wp (K x) Q):wp (yt v (.int k (i:Int)) 1 λp=>jK h p K) Q:=by
 have hi:i<n:=by have:=(List.getElem?_eq_some_iff.1 hx).1;have:=S.len;omega
 refine PX S hi λb off _ _ H=>vn ?_ w;grind
theorem jn {D:Nat→Prop} {v x:AV} {i f:Nat} {k:IntKind} {K:AV→R} {Q:AV→AH→Prop} (S:Sl D h sz n v xs) (hf:f<sz) (hi:i<n) (hx:xs[i*sz+f]? =some x) (w:wp (K x) Q):wp (yt v (.int k (i:Int)) sz λp=>qH p f λq=>jK h q K) Q:=by refine PX S hi λb off _ _ H=>qI (vn ?_ w);grind
theorem xI {D:Nat→Prop} {v:AV} {i:Nat} {l:List AV} {k:IntKind} {K:AV→R} {Q:AV→AH→Prop} (S:Sl D h sz n v xs) (hi:i<n) (h0:0<sz) (hl:(xs.drop (i*sz)).take sz=l) (w:wp (K (.agg l)) Q):wp (yt v (.int k (i:Int)) sz λp=>jr h p sz K) Q:=by
 have hle:i*sz+sz≤n*sz:=by rw[← Nat.succ_mul];exact Nat.mul_le_mul_right sz hi
 have uD:=S.len;refine PX S hi λb off _ _ H=>YM (l:=l) (by grind) h0 (λj hj=>?_) w;grind
theorem QM {b off f:Nat} {e:TypeId} {o:Bool} {x:AV} {K:AV→R} {Q:AV→AH→Prop} (A:Row h b xs e o) (hx:xs[off+f]? =some x) (w:wp (K x) Q):wp (qH (.ptr b off) f λq=>jK h q K) Q :=
 qI (vn ((A.at _).trans hx) w)
theorem TP {b off i cp:Nat} {e:TypeId} {o o':Bool} {k:IntKind} {x:AV} {K:AH→R} {Q:AV→AH→Prop} (A:Row h b xs e o) (h1:x.cells=[x]) (hb:x.one=true) (hi:i<n) (ho:off+i<xs.length)
  (w:∀h',Row h' b (xs.set (off+i) x) e o→Fr (λa=>a=b) h h'→h'.nx=h.nx→wp (K h') Q):wp (yt (.slice b off n cp o') (.int k (i:Int)) 1 λq=>jw h q x 1 K) Q:=by
 refine YZ hi (UW A (by grind) omQ (by grind[jW]) λh' g1 g2 g3=>w h' ?_ g2 g3);simp_all[Nat.mul_one,UX,omQ]
theorem qzi (a:Int):ny a a=true:=by simp[Mn]
theorem qvh (a:List UInt8):lU a a=true:=by simp[lK]
mutual
theorem Q1:∀v:AV,gw v v=true
 | .bool b=>by simp[gw]
 | .int k n=>by simp[gw,qzi]
 | .str s=>by simp[gw,qvh]
 | .ptr b o=>by simp[gw,Nat.beq_refl]
 | .aW=>rfl
 | .slice b o l c p=>by simp[gw,Nat.beq_refl]
 | .aj=>rfl
 | .fn f a c=>by simp[gw,Nat.beq_refl,JG a,JG c]
 | .yield l=>by simp[gw,Nat.beq_refl]
 | .eR=>rfl
 | .iface t v=>by simp[gw,Nat.beq_refl,Q1 v]
 | .dQ=>rfl
 | .agg l=>by simp[gw,JG l]
 | .cA l=>by simp[gw,JG l]
 | .bM a=>by simp[gw]
 | .da _=>by simp[gw]
 | .tail b o o' i=>by simp[gw,Nat.beq_refl]
theorem JG:∀l:List AV,Kf l l=true
 |[]=>rfl
 |a::r=>by simp[Kf,Q1 a,JG r]
end
theorem qzS {b off:Nat} {x:AV} (hx:h.at b off=some x):zR (.ptr b off) none x h=true:=by
 grind[AH.at,zR,Q1]
theorem qzf {b off n:Nat} {l:List AV} (hl:l.length=n) (h0:0<n) (H:∀i,i<n→h.at b (off+i)=l[i]?):zR (.ptr b off) (some n) (.agg l) h=true:=by
 subst hl;have:=Xj h0 H;grind[yo,zR,Q1]
theorem TQ {hb ha:AH} {b off nx:Nat} {x:AV} {K:R} {Q:AV→AH→Prop} (h1:hb.at b off=some x) (h2:ha.at b off=some x) (ap:b<nx) (w:wp K Q):wp (kA (.ptr b off) none x hb ha nx K) Q:=by unfold kA;rw[qzS h1,qzS h2,show Uj (.ptr b off) nx=true from iY ap];exact w
theorem qGR {hb ha:AH} {b off n nx:Nat} {l:List AV} {K:R} {Q:AV→AH→Prop} (hl:l.length=n) (h0:0<n) (h1:∀i,i<n→hb.at b (off+i)=l[i]?) (h2:∀i,i<n→ha.at b (off+i)=l[i]?) (ap:b<nx) (w:wp K Q) :
  wp (kA (.ptr b off) (some n) (.agg l) hb ha nx K) Q:=by
 unfold kA;rw[qzf hl h0 h1,qzf hl h0 h2,show Uj (.ptr b off) nx=true from iY ap];exact w
def Ah (v:AV) (n:Nat):Prop:=QF v=some n∧∀s,v≠.str s
theorem Sl.Ij {D:Nat→Prop} {v:AV} (S:Sl D h sz n v xs):Ah v n:=by cases S<;>exact⟨rfl,λs hs=>by grind⟩
theorem wV {v:AV} {K:AV→R} {Q:AV→AH→Prop} (H:Ah v n) (w:wp (K (.int .i64 (n:Int))) Q):wp (kH v K) Q:=by obtain⟨h1,h2⟩:=H;cases v<;>simp only[QF,reduceCtorEq,Option.some.injEq]at h1<;>subst h1<;>first |exact w |exact absurd rfl (h2 _)
theorem wo {α:Type} (enc:α→List AV) (he:∀a,(enc a).length=sz):∀l:List α,(l.flatMap enc).length=l.length*sz:=by
 intro l
 induction l with
 |nil=>simp
 |cons a l ih=>grind
theorem J9 {α:Type} (enc:α→List AV) (he:∀a,(enc a).length=sz):∀(l:List α) (i:Nat),(l.flatMap enc).drop (i*sz)=(l.drop i).flatMap enc:=by
 intro l
 induction l with
 |nil=>simp
 |cons a l ih=>
  intro i;cases i with
  |zero=>simp
  |succ i=>
   rw[List.flatMap_cons,List.drop_succ_cons,← ih i,Nat.add_mul,Nat.one_mul,Nat.add_comm,← List.drop_drop]
   grind
theorem y9 {α:Type} (enc:α→List AV) (he:∀a,(enc a).length=sz) (l:List α) (i j:Nat) (hj:j<sz):(l.flatMap enc)[i*sz+j]? =(l[i]?).bind λa=>(enc a)[j]?:=by
 rw[← List.getElem?_drop,J9 enc he];grind[List.drop_eq_nil_of_le,List.getElem?_eq_none_iff,List.getElem?_eq_some_iff,List.drop_eq_getElem_cons]
theorem qZm {α:Type} {Pr:α→Prop} (enc:α→List AV):∀{n:Nat} {xs:List AV},xs.length=n*sz→(∀i,i<n→∃a,Pr a∧(xs.drop (i*sz)).take sz=enc a)→
  ∃l:List α,l.length=n∧(∀a∈l,Pr a)∧xs=l.flatMap enc:=by
 intro n
 induction n with
 |zero=>simp
 |succ n ih=>
  intro xs hl H;obtain⟨a,ha,e⟩:=H 0 omQ;rw[Nat.zero_mul,List.drop_zero]at e;rw[Nat.add_mul,Nat.one_mul]at hl
  obtain⟨l,h1,h2,h3⟩:=ih (xs:=xs.drop sz) (by grind) (λi hi=>by
   obtain⟨b,hb,e⟩:=H (i+1) omQ;refine⟨b,hb,?_⟩
   rw[List.drop_drop,← e,Nat.add_mul,Nat.one_mul,Nat.add_comm])
  refine⟨a::l,by grind,λb hb=>?_,?_⟩
  ·grind
  grind[List.take_append_drop]
theorem KM {P:Program} {d:Nat} {t e:TypeId} {v:AV} (hu:P.underlying t=some (.slice e)) (hs:P.cellsOf e=sz) (bz:0<sz) (H:WT P h (d+1) t [v]) :
  ∃n xs,Sl (λb=>b<h.nx) h sz n v xs∧n≤maxLen∧∀i,i<n→WT P h d e ((xs.drop (i*sz)).take sz):=by
 unfold WT at H;simp only[hu]at H;rcases H with h1 |⟨a,h1⟩ |h1 |⟨b,off,len,cap,h1,h2,h3,h4,⟨tt,h5⟩,h6⟩
 ·cases h1;exact⟨0,[],.aj,Nat.zero_le _,λi hi=>by omega⟩
 ·cases h1;exact⟨0,[],.bM a,Nat.zero_le _,λi hi=>by omega⟩
 ·omega
 ·cases h1;rw[hs]at h6;have key:∀k,k<len*sz→∃u,h.at b (off+k)=some u:=by
   intro k hk;have hm:=Nat.mod_lt k bz;obtain⟨row,r1,r2,_⟩:=h6 (k/sz) ((Nat.div_lt_iff_lt_mul bz).2 hk);have:=r2 (k%sz) hm;simp_all[omQ,Nat.add_assoc,Nat.mul_comm,Nat.div_add_mod]
  refine⟨len,(List.range (len*sz)).map λk=>(h.at b (off+k)).getD .undef,.mk h4 h4 (by grind[AH.rd]) aM ?_,by omega,?_⟩
  ·grind
  ·intro i hi;obtain⟨row,r1,r2,r3⟩:=h6 i hi;have hle:i*sz+sz≤len*sz:=by rw[← Nat.succ_mul];exact Nat.mul_le_mul_right sz hi
   have:(((List.range (len*sz)).map λk=>(h.at b (off+k)).getD .undef).drop (i*sz)).take sz=row:=by
    apply List.ext_getElem?;grind
   grind
end Go.Ae
namespace Go.Ae
open Go
structure SP where
  p:(Nat→Prop)→AH→Prop
  loc:∀{D:Nat→Prop} {h h':AH},p D h→h.nx≤h'.nx→(∀b,D b→h'.get b=h.get b)→p D h'
def na:List SP→(Nat→Prop)→AH→Prop
 |[],D,_=>∀b,¬D b
 |P::L,D,h=>∃D1 D2:Nat→Prop,(∀b,D b↔D1 b∨D2 b)∧(∀b,D1 b→¬D2 b)∧P.p D1 h∧na L D2 h
theorem na.loc {L:List SP}:∀{D:Nat→Prop} {h h':AH},na L D h→h.nx≤h'.nx→(∀b,D b→h'.get b=h.get b)→na L D h':=by
 induction L with
 |nil=>intro D h h' H _ _;exact H
 |cons P L ih=>intro D h h' ⟨D1,D2,e,d,p,r⟩ hn hg;exact⟨D1,D2,e,d,P.loc p hn λb hb=>hg b ((e b).2 (.inl hb)),ih r hn λb hb=>hg b ((e b).2 (.inr hb))⟩
structure HS (g h:AH) (L:List SP):Prop where
  bU:fj g.nx g h
  own:∃D:Nat→Prop,(∀b,D b→g.nx≤b∧b<h.nx)∧na L D h
variable {g h h':AH} {P P':SP} {L R:List SP}
theorem HS.nx (H:HS g h L):g.nx≤h.nx:=H.bU.nx
theorem HS.act (H:HS g h (P::R)):∃D:Nat→Prop,P.p D h∧(∀b,D b→g.nx≤b∧b<h.nx)∧
  ∀(h':AH) (P':SP) (D':Nat→Prop),Fr D h h'→P'.p D' h'→(∀b,D' b→(D b∨h.nx≤b)∧b<h'.nx)→HS g h' (P'::R):=by
 obtain⟨ho,D0,hb,D1,D2,he,hd,p,r⟩:=H;refine⟨D1,p,λb h1=>hb b ((he b).2 (.inl h1)),λh' P' D' F p' hD'=>?_⟩;have hn:=ho.nx;refine⟨ho.step F λb h1=>(hb b ((he b).2 (.inl h1))).1,λb=>D' b∨D2 b,?_,D',D2,λb=>Iff.rfl,?_,p',?_⟩
 ·rintro b (h1 |h1)
  ·grind
  ·have:=hb b ((he b).2 (.inr h1));have h4:=F.nx;grind
 ·grind
 ·exact r.loc F.nx λb h2=>F.get b (hb b ((he b).2 (.inr h2))).2 λh1=>hd b h1 h2
inductive bB:List SP→SP→List SP→Prop
  |here {P:SP} {R:List SP}:bB (P::R) P R
  |there {Q P:SP} {L R:List SP} (s:bB L P R):bB (Q::L) P (Q::R)
theorem bB.sx (s:bB L P R):∀{D:Nat→Prop} {h:AH},na L D h→∃D1 D2:Nat→Prop,(∀b,D b↔D1 b∨D2 b)∧(∀b,D1 b→¬D2 b)∧P.p D1 h∧na R D2 h:=by
 induction s with
 |here=>exact λH=>H
 |there s ih=>
  rintro D h ⟨D1,D2,e,d,q,r⟩;obtain⟨E1,E2,e',d',p,r'⟩:=ih r;refine⟨E1,λb=>D1 b∨E2 b,λb=>?_,λb h1 h2=>?_,p,D1,E2,λb=>Iff.rfl,λb h1 h2=>d b h1 ((e' b).2 (.inr h2)),q,r'⟩
  all_goals grind
theorem HS.aJ (H:HS g h L) (s:bB L P R):HS g h (P::R):=⟨H.bU,H.own.imp λ_ h1=>⟨h1.1,s.sx h1.2⟩⟩
theorem bB.gib (s:bB L P R):∀{D1 D2:Nat→Prop} {h:AH},(∀b,D1 b→¬D2 b)→P.p D1 h→na R D2 h→na L (λb=>D1 b∨D2 b) h:=by
 induction s with
 |here=>exact λ{D1 D2 h} d p r=>⟨D1,D2,λ_=>Iff.rfl,d,p,r⟩
 |there s ih=>
  rintro D1 D2 h d p ⟨E1,E2,e,d',q,r⟩;refine⟨E1,λb=>D1 b∨E2 b,λb=>?_,λb h1 h2=>?_,q,ih (λb h1 h2=>d b h1 ((e b).2 (.inr h2))) p r⟩
  all_goals grind
theorem HS.mj (s:bB L P R) (H:HS g h (P::R)):HS g h L:=by obtain⟨ho,D,hb,D1,D2,e,d,p,r⟩:=H;refine⟨ho,λb=>D1 b∨D2 b,λb h1=>hb b ((e b).2 h1),s.gib d p r⟩
theorem HS.drop (H:HS g h (P::R)):HS g h R:=by obtain⟨ho,D,hb,D1,D2,e,d,p,r⟩:=H;exact⟨ho,D2,λb h2=>hb b ((e b).2 (.inr h2)),r⟩
theorem bB.skip (A:List SP) (s:bB L P R):bB (A++L) P (A++R):=by
 induction A with
 |nil=>grind
 |cons Q A ih=>exact .there ih
theorem HS.back {A:List SP} (H:HS g h (P::(A++R))):HS g h (A++P::R):=HS.mj (bB.skip A .here) H
inductive Sub:List SP→List SP→Prop
  |refl {L:List SP}:Sub L L
  |cons {L L1 L':List SP} {P:SP} (s:bB L P L1) (t:Sub L1 L'):Sub L (P::L')
  |drop {Q:SP} {L L':List SP} (t:Sub L L'):Sub (Q::L) L'
theorem Sub.sx {L L':List SP} (t:Sub L L'):∀{D:Nat→Prop} {h:AH},na L D h→∃D':Nat→Prop,(∀b,D' b→D b)∧na L' D' h:=by
 induction t with
 |refl=>grind
 |cons s t ih=>intro D h H;obtain⟨D1,D2,e,d,p,r⟩:=s.sx H;obtain⟨D',h1,h2⟩:=ih r;exact⟨λb=>D1 b∨D' b,λb hb=>(e b).2 (hb.imp id (h1 b)),D1,D',λ_=>Iff.rfl,λb hb h3=>d b hb (h1 b h3),p,h2⟩
 |drop t ih=>intro D h ⟨D1,D2,e,d,p,r⟩;grind
theorem HS.sub {L L':List SP} (H:HS g h L) (t:Sub L L'):HS g h L':=by obtain⟨ho,D,hb,r⟩:=H;obtain⟨D',h1,h2⟩:=t.sx r;exact⟨ho,D',λb h=>hb b (h1 b h),h2⟩
def PY:Nat→List SP→Option (SP×List SP)
 | 0,P::L=>some (P,L)
 |i+1,P::L=>match PY i L with
  |some x=>some (x.1,P::x.2)
  |none=>none
 |_,[]=>none
def EF:Nat→List SP→List SP
 | 0,L=>L
 |k+1,_::L=>EF k L
 |_+1,[]=>[]
def PZ:List Nat→Nat→List SP→List SP
 |[],k,L=>EF k L
 |i::is,k,L=>match PY i L with
  |some x=>x.1::PZ is k x.2
  |none=>L
theorem jJm:∀{i:Nat} {L:List SP} {x:SP×List SP},PY i L=some x→bB L x.1 x.2:=by
 intro i
 induction i with
 |zero=>
  intro L x h;cases L with
  |nil=>cases h
  |cons P L=>cases h;exact .here
 |succ i ih=>
  intro L x h;cases L with
  |nil=>cases h
  |cons P L=>
   unfold PY at h
   split at h
   ·rename_i y hy;cases h;exact .there (ih hy)
   grind
theorem Sub.EF:∀(k:Nat) (L:List SP),Sub L (EF k L)
 | 0,_=>.refl
 |k+1,_::L=>.drop (Sub.EF k L)
 |_+1,[]=>.refl
theorem Sub.pk:∀(is:List Nat) (k:Nat) (L:List SP),Sub L (PZ is k L)
 |[],k,L=>Sub.EF k L
 |i::is,k,L=>by
  unfold PZ
  split
  ·rename_i x hx;exact .cons (jJm hx) (Sub.pk is k x.2)
  ·exact .refl
theorem HS.pk {L:List SP} (H:HS g h L) (is:List Nat) (k:Nat):HS g h (PZ is k L):=H.sub (Sub.pk is k L)
def SP.emp:SP:=⟨λD _=>∀b,¬D b,λH _ _=>H⟩
def SP.fk (φ:Prop):SP:=⟨λD _=>(∀b,¬D b)∧φ,λH _ _=>H⟩
def SP.ex {α:Type} (f:α→SP):SP:=⟨λD h=>∃a,(f a).p D h,λ⟨a,H⟩ h1 h2=>⟨a,(f a).loc H h1 h2⟩⟩
def SP.all (A:List SP):SP:=⟨na A,λH h1 h2=>H.loc h1 h2⟩
theorem HS.put (H:HS g h R) (hp:P.p (λ_=>False) h):HS g h (P::R):=by obtain⟨ho,D,hb,r⟩:=H;exact⟨ho,D,hb,λ_=>False,D,λb=>⟨.inr,λh=>h.elim False.elim id⟩,λ_ h=>h.elim,hp,r⟩
theorem HS.iq {α:Type} {f:α→SP} (H:HS g h (.ex f::R)):∃a,HS g h (f a::R):=by obtain⟨ho,D,hb,D1,D2,e,d,⟨a,p⟩,r⟩:=H;exact⟨a,ho,D,hb,D1,D2,e,d,p,r⟩
theorem HS.iO {α:Type} {f:α→SP} (a:α) (H:HS g h (f a::R)):HS g h (.ex f::R):=by obtain⟨ho,D,hb,D1,D2,e,d,p,r⟩:=H;exact⟨ho,D,hb,D1,D2,e,d,⟨a,p⟩,r⟩
theorem HS.dT {φ:Prop} (H:HS g h (.fk φ::R)):φ∧HS g h R:=by refine⟨?_,H.drop⟩;obtain⟨ho,D,hb,D1,D2,e,d,p,r⟩:=H;exact p.2
theorem HS.dU {φ:Prop} (hφ:φ) (H:HS g h R):HS g h (.fk φ::R):=H.put ⟨λ_ h=>h,hφ⟩
theorem jQr {A:List SP}:∀{D1 D2:Nat→Prop} {h:AH},(∀b,D1 b→¬D2 b)→na A D1 h→na R D2 h→na (A++R) (λb=>D1 b∨D2 b) h:=by
 induction A with
 |nil=>intro D1 D2 h _ H1 H2;rw[List.nil_append,show(λb=>D1 b∨D2 b)=D2 from funext λb=>propext ⟨λh=>h.elim (λh=>(H1 b h).elim) id,.inr⟩];grind
 |cons P A ih=>
  rintro D1 D2 h hd ⟨E1,E2,e,d,p,r⟩ H2;refine⟨E1,λb=>E2 b∨D2 b,λb=>?_,λb h1 h2=>?_,p,ih (λb h1=>hd b ((e b).2 (.inr h1))) r H2⟩
  all_goals grind
theorem qwM {A:List SP}:∀{D:Nat→Prop} {h:AH},na (A++R) D h→∃D1 D2:Nat→Prop,(∀b,D b↔D1 b∨D2 b)∧(∀b,D1 b→¬D2 b)∧na A D1 h∧na R D2 h:=by
 induction A with
 |nil=>intro D h H;exact⟨λ_=>False,D,λb=>⟨.inr,λh=>h.elim False.elim id⟩,λ_ h=>h.elim,λ_ h=>h,H⟩
 |cons P A ih=>
  rintro D h ⟨E1,E2,e,d,p,r⟩;obtain⟨F1,F2,f,d',r1,r2⟩:=ih r;refine⟨λb=>E1 b∨F1 b,F2,λb=>?_,λb h1 h2=>?_,⟨E1,F1,λb=>Iff.rfl,λb h1 h2=>d b h1 ((f b).2 (.inl h2)),p,r1⟩,r2⟩
  all_goals grind
theorem HS.cE {A:List SP} (H:HS g h (.all A::R)):HS g h (A++R):=by obtain⟨ho,D,hb,D1,D2,e,d,p,r⟩:=H;refine⟨ho,D,hb,?_⟩;rw[show D=(λb=>D1 b∨D2 b)from funext λb=>propext (e b)];exact jQr d p r
theorem HS.allI {A:List SP} (H:HS g h (A++R)):HS g h (.all A::R):=by obtain⟨ho,D,hb,r⟩:=H;exact⟨ho,D,hb,qwM r⟩
theorem HS.nil (g:AH):HS g g []:=⟨fj.refl _ _,λ_=>False,λ_ h=>h.elim,λ_ h=>h⟩
theorem HS.add {D':Nat→Prop} (H:HS g h R) (F:fj h.nx h h') (p:P.p D' h') (hD:∀b,D' b→h.nx≤b∧b<h'.nx):HS g h' (P::R):=by
 obtain⟨D,_,hb,k⟩:=(H.put (P:=.emp) λ_ h=>h).act;obtain⟨ho,D0,pX,r⟩:=H;have hn:=ho.nx;refine⟨⟨Nat.le_trans hn F.nx,λb h1 h2=>(F.get b omQ omQ).trans (ho.get b h1 h2)⟩,λb=>D' b∨D0 b,?_,D',D0,λb=>Iff.rfl,?_,p,r.loc F.nx λb h1=>F.get b (pX b h1).2 (by grind)⟩
 ·have:=F.nx;grind
 grind
theorem HS.keep (H:HS g h R) (F:fj h.nx h h'):HS g h' R:=(H.add (P:=.emp) (D':=λ_=>False) F (λ_ h=>h) λ_ h=>h.elim).drop
theorem Fr.none (F:Fr (λ_=>False) h h'):fj h.nx h h':=F.mono λ_ _ h=>h.elim
variable {b off n m sz:Nat} {xs ys l:List AV} {e:TypeId} {o:Bool} {x v:AV} {k:IntKind} {Q:AV→AH→Prop} {i:Nat}
def Cell (b:Nat) (xs:List AV) (e:TypeId) (o:Bool):SP:=⟨λD h=>(∀a,D a↔a=b)∧Row h b xs e o,λ{D h h'} H h1 h2=>⟨H.1,Nat.lt_of_lt_of_le H.2.lt h1,by rw[h2 b ((H.1 b).2 rfl)];exact H.2.bR⟩⟩
def qv (b:Nat) (xs:List AV):SP:=⟨λD h=>(∀a,D a↔a=b)∧∃e,Row h b xs e false,λ{D h h'} H h1 h2=>⟨H.1,H.2.imp λ_ A=>⟨Nat.lt_of_lt_of_le A.lt h1,by rw[h2 b ((H.1 b).2 rfl)];exact A.bR⟩⟩⟩
def TR (b:Nat) (x:cW):SP:=⟨λD h=>(∀a,D a↔a=b)∧b<h.nx∧h.get b=some x,λ{D h h'} H h1 h2=>⟨H.1,by grind,by grind⟩⟩
def qC (e:TypeId) (sz n:Nat) (v:AV) (xs:List AV):SP :=
  ⟨λD h=>xs.length=n*sz∧((v=.aj∧n=0∧∀b,¬D b)∨∃b cp o ys,v=.slice b 0 n cp o∧(∀a,D a↔a=b)∧Row h b ys e o∧n*sz≤ys.length∧ys.take (n*sz)=xs∧(if o=true then cp=0 else ys.length=cp*sz∧n≤cp)),
   λ{D h h'} H h1 h2=>⟨H.1,H.2.imp id λ⟨b,cp,o,ys,q1,q2,q3,q4⟩=>⟨b,cp,o,ys,q1,q2,⟨Nat.lt_of_lt_of_le q3.lt h1,by rw[h2 b ((q2 b).2 rfl)];exact q3.bR⟩,q4⟩⟩⟩
theorem HS.p (H:HS g h L) (s:bB L P R):∃D,P.p D h:=by obtain⟨D,p,_⟩:=(H.aJ s).act;grind
theorem HS.obj (H:HS g h L) (s:bB L (qv b xs) R):∃e,Row h b xs e false:=by obtain⟨D,_,p⟩:=H.p s;grind
theorem HS.sl (H:HS g h L) (s:bB L (qC e sz n v xs) R):Sl (λ_=>True) h sz n v xs:=by
 obtain⟨D,h1,⟨rfl,rfl,_⟩ |⟨b,cp,o,ys,rfl,_,A,h2,h3,_⟩⟩:=H.p s
 ·obtain rfl:xs=[]:=iA (by grind);exact .aj
 ·exact .mk trivial A.lt A.rd h1 λi hi=>by rw[A.at,Nat.zero_add,← h3,List.getElem?_take_of_lt hi]
theorem HS.pE (H:HS g h L) (s:bB L (qC e sz n v xs) R):xs.length=n*sz:=(H.sl s).len
def One (v:AV):Prop:=v.cells=[v]∧v.one=true
theorem HS.one (H:HS g h L) (s:bB L (qC e sz n v xs) R):One v:=by obtain⟨D,h1,⟨rfl,rfl,_⟩ |⟨b,cp,o,ys,rfl,_⟩⟩:=H.p s<;>exact⟨rfl,rfl⟩
variable {K:AV→Go.Ae.R} {K2:AV→AH→Go.Ae.R} {K1:AH→Go.Ae.R}
theorem qZ (H:HS g h L) (s:bB L (qv b xs) R) (hx:xs[off]? =some x) (w:wp (K x) Q):wp (jK h (.ptr b off) K) Q:=by obtain⟨e,A⟩:=H.obj s;exact vn ((A.at _).trans hx) w
theorem HS.lt (H:HS g h L) (s:bB L (qv b xs) R):b<h.nx:=by obtain⟨e,A⟩:=H.obj s;exact A.lt
theorem jU {g' ha:AH} {L2 R2:List SP} {nx:Nat} {K0:Go.Ae.R} (H:HS g h L) (s:bB L (qv b xs) R) (hx:xs[off]? =some x) (H2:HS g' ha L2) (s2:bB L2 (qv b ys) R2) (rj:ys[off]? =some x) (ap:b<nx) (w:wp K0 Q):wp (kA (.ptr b off) none x h ha nx K0) Q:=by obtain⟨e,A⟩:=H.obj s;obtain⟨e2,A2⟩:=H2.obj s2;exact TQ ((A.at _).trans hx) ((A2.at _).trans rj) ap w
theorem qo (H:HS g h L) (s:bB L (qv b xs) R) (hl:l.length=n) (hn:0<n) (hx:(xs.drop off).take n=l) (w:wp (K (.agg l)) Q):wp (jr h (.ptr b off) n K) Q:=by obtain⟨e,A⟩:=H.obj s;exact YM hl hn (λi hi=>by rw[A.at,← hx,List.getElem?_take_of_lt hi,List.getElem?_drop]) w
theorem zq (H:HS g h L) (s:bB L (qv b xs) R) (hc:x.cells.length=n) (ho:off+n≤xs.length) (h1:jW x.cells=true) (w:∀h',HS g h' (qv b (QH xs off x.cells)::R)→wp (K1 h') Q):wp (jw h (.ptr b off) x n K1) Q:=by obtain⟨D,⟨hD,e,A⟩,hb,k⟩:=(H.aJ s).act;refine UW A hc ho h1 λh' A' F hx=>w h' (k h' _ D (F.mono λa _ ha=>(hD a).2 ha) ⟨hD,e,A'⟩ λa ha=>⟨.inl ha,?_⟩);grind
theorem qx (H:HS g h L) (s:bB L (qv b xs) R) (h1:One x) (ho:off<xs.length) (w:∀h',HS g h' (qv b (xs.set off x)::R)→wp (K1 h') Q):wp (jw h (.ptr b off) x 1 K1) Q:=by refine zq H s (by rw[h1.1];rfl) omQ (by rw[h1.1];simp[jW,h1.2]) λh' H'=>w h' ?_;rw[h1.1,UX ho]at H';grind
theorem qQ {f:Nat} (w:wp (K (.ptr b f)) Q):wp (qH (.ptr b 0) f K) Q:=qI (by rw[Nat.zero_add];exact w)
theorem HS.bR {x:cW} (H:HS g h L) (s:bB L (TR b x) R):h.get b=some x:=by obtain⟨D,_,_,p⟩:=H.p s;grind
theorem qyc (H:HS g h L) (h1:jW x.cells=true) (w:∀b h',HS g h' (qv b x.cells::L)→wp (K2 (.ptr b 0) h') Q):wp (J4 h e x K2) Q:=by refine UH h1 λb h' hb A F=>w b h' (H.add (D':=λa=>a=b) F.none ⟨λa=>Iff.rfl,e,A⟩ ?_);rintro a rfl;exact⟨hb,A.lt⟩
theorem qh (H:HS g h L) (h1:jW l=true) (w:∀b h',HS g h' (qv b l::L)→wp (K2 (.ptr b 0) h') Q):wp (J4 h e (.agg l) K2) Q:=qyc (x:=.agg l) H h1 w
theorem Ve {z:List AV} {ln cp:Nat} {k1 k2:IntKind} (H:HS g h L) (hz:z.length=sz) (h1:ln≤cp) (h2:cp≤1073741824)
  (w:∀v h',HS g h' (qC e sz ln v ((gu z cp).take (ln*sz))::L)→wp (K2 v h') Q):wp (YG h e z (.int k1 (ln:Int)) (.int k2 (cp:Int)) K2) Q:=by
 refine TN h1 h2 λb h' hb A F=>w _ h' (H.add (D':=λa=>a=b) F.none ⟨?_,.inr ⟨b,cp,false,_,rfl,λa=>Iff.rfl,A,?_,rfl,?_⟩⟩ ?_)
 ·grind[Nat.mul_le_mul_right,List.length_take,JF]
 ·simp_all[JF,Nat.mul_le_mul_right]
 ·simp_all[aM,JF]
 ·rintro a rfl;exact⟨hb,A.lt⟩
theorem Xy {z:AV} {k1 k2:IntKind} (H:HS g h L) (h2:n≤1073741824)
  (w:∀v h',HS g h' (qC e 1 n v (List.replicate n z)::L)→wp (K2 v h') Q):wp (YG h e [z] (.int k1 (n:Int)) (.int k2 (n:Int)) K2) Q:=by
 refine Ve (sz:=1) H rfl (Nat.le_refl _) h2 λv h' H'=>w v h' ?_;simp_all[V9,Nat.mul_one,List.take_of_length_le,aM]
theorem jY {z:List AV} {vs:List (Nat×Nat×AV)} (H:HS g h L) (_:z.length=sz) (hl:l.length=n*sz) (hf:gn (gu z n) vs=some l) (h1:jW l=true)
  (w:∀v h',HS g h' (qC e sz n v l::L)→wp (K2 v h') Q):wp (xd h e z n vs K2) Q:=by
 refine qYd hf h1 λb h' hb A F=>w _ h' (H.add (D':=λa=>a=b) F.none ⟨hl,.inr ⟨b,n,false,_,rfl,λa=>Iff.rfl,A,by omega,by grind,?_⟩⟩ ?_)
 ·grind
 ·rintro a rfl;exact⟨hb,A.lt⟩
theorem HS.aj (H:HS g h L):HS g h (qC e sz 0 .aj []::L):=H.put ⟨by simp,.inl ⟨rfl,rfl,λ_ h=>h⟩⟩
theorem Mi (A:Row h b xs e o) (ho:off+n≤xs.length):yo h b off n=some ((xs.drop off).take n):=by
 by_cases h0:n=0
 ·subst h0;obtain⟨c,c1,c2,c3⟩:=A.bR;unfold yo;rw[c1,List.take_zero];cases c<;>rfl
 ·have hl:((xs.drop off).take n).length=n:=by grind
  have:=Xj (h:=h) (b:=b) (off:=off) (l:=(xs.drop off).take n) omQ (λi hi=>by rw[A.at,List.getElem?_take_of_lt omQ,List.getElem?_drop])
  grind
theorem qYT (ho:off+ys.length≤xs.length):(QH xs off ys).take (off+ys.length)=xs.take off++ys:=by
 unfold QH;grind
theorem zA {D':Nat→Prop} (H:HS g h (qC e sz n v xs::R)) (S:Sl D' h sz m x ys) (bz:0<sz) (Da:n+m≤67108864) (h1:jW ys=true)
  (w:∀v' h',HS g h' (qC e sz (n+m) v' (xs++ys)::R)→wp (K2 v' h') Q):wp (xH h e sz v x K2) Q:=by
 obtain⟨nc,g1,g2,g3⟩:=qjH S;have eF:=S.len;unfold xH;simp only[qXU S,g1,ob];rw[CT.dD,g2,eF,Nat.beq_refl,cond_true];by_cases h0:m=0
 ·subst h0;obtain rfl:ys=[]:=iA (by grind);have wH:=w v h (by grind);obtain⟨D,⟨hl,⟨rfl,rfl,hD⟩ |⟨b,cp,o,zs,rfl,hD,A,q1,q2,q3⟩⟩,hb,k⟩:=H.act
  ·exact wH
  ·unfold vt;cases o with
   |false=>rw[iQ aM]at q3;simp only;rw[iY (show n+0≤cp from q3.2),cond_true,show Nat.beq 0 0=true from rfl,cond_true];exact wH
   |true=>
    rw[iJ rfl]at q3;subst q3;obtain⟨c,c1,c2,c3⟩:=A.bR;simp only[c1];have dE:c.len=zs.length:=by rw[CT.dD,c2]
    rw[dE];have nS:(Nat.ble 1 sz&&(Nat.beq 0 (0*sz)&&(Nat.beq e e&&Nat.ble (0+n*sz) zs.length)))=true:=by simp;omega
    rw[nS,cond_true,show Nat.beq 0 0=true from rfl,cond_true];exact wH
 ·have TU:Nat.beq m 0=false:=yY h0;have hmul:(n+m)*sz=n*sz+m*sz:=Nat.add_mul ..;have hmp:0<m*sz:=Nat.mul_pos omQ bz;have hns:h.nx<(h.new (.cells nc e true)).nx:=by simp
  obtain⟨D,⟨hl,⟨rfl,rfl,hD⟩ |⟨b,cp,o,zs,rfl,hD,A,q1,q2,q3⟩⟩,hb,k⟩:=H.act
  ·obtain rfl:xs=[]:=iA (by grind);unfold vt;simp only;rw[TU,cond_false,iY omQ,cond_true];obtain⟨b1,b2⟩:=Row.new (h:=h) (e:=e) (o:=true) g3;rw[g2]at b1;refine w _ _ (k _ _ (λa=>a=h.nx) (b2.mono λ_ _ hf=>hf.elim) ⟨by grind,.inr ⟨h.nx,0,true,ys,by simp,λ_=>Iff.rfl,b1,by omega,?_,by rfl⟩⟩ ?_)
   all_goals grind
  ·have SE:=A.lt;have rq:∀EG,(n+m)*sz≤zs.length→(if o=true then EG=0 else zs.length=EG*sz∧n+m≤EG)→
     wp (ob (wK h b (0+n*sz) nc.toList) λh'=>K2 (.slice b 0 (n+m) EG o) h') Q:=by
    intro EG hz hcp;obtain⟨h',f1,f2,f3,f4⟩:=Yi (ys:=nc.toList) (off:=0+n*sz) A (by grind) (by grind);simp only[f1,ob];rw[g2,Nat.zero_add]at f2;refine w _ _ (k h' _ D (f3.mono λa _ ha=>(hD a).2 ha) ⟨by grind,.inr ⟨b,EG,o,_,rfl,hD,f2,?_,?_,?_⟩⟩ λa ha=>⟨.inl ha,by grind⟩)
    ·rw[K5 omQ];grind
    ·rw[hmul,← eF,qYT omQ,q2]
    ·rw[K5 omQ];grind
   unfold vt;cases o with
   |false=>
    rw[iQ aM]at q3;simp only;by_cases hc:n+m≤cp
    ·rw[iY hc,cond_true,TU,cond_false];exact rq cp (by grind[Nat.mul_le_mul_right]) (by grind)
    ·rw[show Nat.ble (n+m) cp=false by
      cases hb:Nat.ble (n+m) cp
      all_goals simp_all[wm],cond_false,iY Da,cond_true]
     rw[Mi A (show 0+n*sz≤zs.length by omega),List.drop_zero,q2];simp only[ob];have key:∀c:CT,c.toList=xs++ys→c.full→wp (K2 (.slice h.nx 0 (n+m) 0 true) (h.new (.cells c e true))) Q:=by
      intro c d1 d2;obtain⟨b1,b2⟩:=Row.new (h:=h) (e:=e) (o:=true) d2;rw[d1]at b1;refine w _ _ (k _ _ (λa=>a=h.nx) (b2.mono λ_ _ hf=>hf.elim) ⟨by grind,.inr ⟨h.nx,0,true,xs++ys,rfl,λ_=>Iff.rfl,b1,by grind,?_,by rfl⟩⟩ ?_)
      ·grind
      simp
     by_cases lA:n=0
     ·subst lA;rw[show Nat.beq 0 0=true from rfl,cond_true];obtain rfl:xs=[]:=iA (by grind);exact key nc (by grind) g3
     ·rw[show Nat.beq n 0=false from yY lA,cond_false];exact key _ (by rw[CT.aZ,g2]) (CT.cd _)
   |true=>
    rw[iJ rfl]at q3;subst q3;obtain⟨c,c1,c2,c3⟩:=A.bR;simp only[c1];have dE:c.len=zs.length:=by rw[CT.dD,c2]
    rw[dE];have nS:(Nat.ble 1 sz&&(Nat.beq 0 (0*sz)&&(Nat.beq e e&&Nat.ble (0+n*sz) zs.length)))=true:=by simp;omega
    rw[nS,cond_true,TU,cond_false];by_cases hc:0+(n+m)*sz≤zs.length
    ·rw[iY hc,cond_true];exact rq 0 omQ (by rfl)
    ·rw[show Nat.ble (0+(n+m)*sz) zs.length=false by
      grind[Nat.ble,absurd,wm],cond_false]
     have lN:(Nat.beq 0 0&&(Nat.ble (n+m) 67108864&&jW nc.toList))=true:=by simp_all
     rw[lN,cond_true];obtain⟨c',p1,p2,p3⟩:=CT.tE (c:=c) c3 (n:=n*sz) (by grind);simp only[p1];have Ai:(c'.lH nc.toList).toList=xs++ys:=by grind[CT.sK]
     refine w _ _ (k _ _ (λa=>a=h.nx) ⟨by simp,λa ha hn=>?_⟩ ⟨by grind,.inr ⟨(h.put b .dead).nx,0,true,xs++ys,rfl,λ_=>Iff.rfl,⟨by simp,c'.lH nc.toList,AH.bD (h.put b .dead) _,Ai,CT.tD p3 _⟩,by grind,?_,by rfl⟩⟩ ?_)
     ·rw[AH.cq _ _ (by simp;omega),AH.cn h _ (λEH:b=a=>hn ((hD a).2 EH.symm))]
     ·grind
     simp
theorem HS.EI (H:HS g h (qC e sz n v xs::R)) (hn:0<n):∃b cp o ys,v=.slice b 0 n cp o∧HS g h (Cell b ys e o::R)∧n*sz≤ys.length∧ys.take (n*sz)=xs∧(if o=true then cp=0 else ys.length=cp*sz∧n≤cp):=by
 obtain⟨D,⟨hl,⟨rfl,rfl,hD⟩ |⟨b,cp,o,zs,rfl,hD,A,q1,q2,q3⟩⟩,hb,k⟩:=H.act
 ·omega
 ·exact⟨b,cp,o,zs,rfl,k h _ D (Fr.refl _ _) ⟨hD,A⟩ λa ha=>⟨.inl ha,(hb a ha).2⟩,q1,q2,q3⟩
theorem HS.Ik {cp:Nat} (H:HS g h (Cell b ys e o::R)) (h1:n*sz≤ys.length) (h2:if o=true then cp=0 else ys.length=cp*sz∧n≤cp):HS g h (qC e sz n (.slice b 0 n cp o) (ys.take (n*sz))::R):=by obtain⟨D,⟨hD,A⟩,hb,k⟩:=H.act;exact k h _ D (Fr.refl _ _) ⟨by grind,.inr ⟨b,cp,o,ys,rfl,hD,A,h1,rfl,h2⟩⟩ λa ha=>⟨.inl ha,(hb a ha).2⟩
theorem jJ6 (H:HS g h (Cell b xs e o::R)) (hc:x.cells.length=n) (ho:off+n≤xs.length) (h1:jW x.cells=true) (w:∀h',HS g h' (Cell b (QH xs off x.cells) e o::R)→wp (K1 h') Q):wp (jw h (.ptr b off) x n K1) Q:=by obtain⟨D,⟨hD,A⟩,hb,k⟩:=H.act;refine UW A hc ho h1 λh' A' F hx=>w h' (k h' _ D (F.mono λa _ ha=>(hD a).2 ha) ⟨hD,A'⟩ λa ha=>⟨.inl ha,?_⟩);grind
theorem Db {j:Nat} (H:HS g h (qC e sz n v xs::R)) (hi:i<n) (hj:j+m≤sz) (hc:x.cells.length=m) (h1:jW x.cells=true) (w:∀h',HS g h' (qC e sz n v (QH xs (i*sz+j) x.cells)::R)→wp (K1 h') Q) :
  ∃b cp o,v=.slice b 0 n cp o∧wp (jw h (.ptr b (0+i*sz+j)) x m K1) Q:=by
 obtain⟨b,cp,o,ys,rfl,H',q1,q2,q3⟩:=H.EI omQ;have hle:i*sz+sz≤n*sz:=by rw[← Nat.succ_mul];exact Nat.mul_le_mul_right sz hi
 refine⟨b,cp,o,rfl,jJ6 H' hc omQ h1 λh' Il=>w h' ?_⟩;have:=Il.Ik (n:=n) (sz:=sz) (cp:=cp) (by rw[K5 omQ];grind) (by rw[K5 omQ];grind);have e1:(QH ys (0+i*sz+j) x.cells).take (n*sz)=QH xs (i*sz+j) x.cells:=by
  rw[← q2,Nat.zero_add];unfold QH;rw[List.take_append,List.take_append,List.take_take,List.take_take,List.drop_take];have t1:min (n*sz) (i*sz+j)=min (i*sz+j) (n*sz):=Nat.min_comm ..;rw[t1,show(List.take (i*sz+j) ys).length=i*sz+j by grind];rw[List.take_of_length_le (show x.cells.length≤n*sz-(i*sz+j) by omega)];grind
 grind
theorem NM {f:Nat} (H:HS g h (qC e sz n v xs::R)) (hi:i<n) (hf:f<sz) (h1:One x) (w:∀h',HS g h' (qC e sz n v (xs.set (i*sz+f) x)::R)→wp (K1 h') Q) :
  wp (yt v (.int k (i:Int)) sz λp=>qH p f λq=>jw h q x 1 K1) Q:=by
 have hl:=H.pE .here;have hle:i*sz+sz≤n*sz:=by rw[← Nat.succ_mul];exact Nat.mul_le_mul_right sz hi
 obtain⟨b,cp,o,rfl,w'⟩:=Db (x:=x) (m:=1) (j:=f) H hi omQ (by rw[h1.1];rfl) (by rw[h1.1];simp[jW,h1.2]) (λh' H'=>w h' (by rw[h1.1,UX omQ]at H';grind));exact YZ hi (qI w')
theorem Q9 (H:HS g h (qC e 1 n v xs::R)) (hi:i<n) (h1:One x) (w:∀h',HS g h' (qC e 1 n v (xs.set i x)::R)→wp (K1 h') Q) :
  wp (yt v (.int k (i:Int)) 1 λp=>jw h p x 1 K1) Q:=by
 have hl:=H.pE .here;obtain⟨b,cp,o,rfl,w'⟩:=Db (x:=x) (m:=1) (j:=0) H hi omQ (by rw[h1.1];rfl) (by rw[h1.1];simp[jW,h1.2]) (λh' H'=>w h' (by rw[h1.1,UX omQ,Nat.mul_one,Nat.add_zero]at H';grind));exact YZ hi w'
theorem P2 (H:HS g h (qC e sz n v xs::R)) (hi:i<n) (hl:l.length=sz) (h1:jW l=true) (w:∀h',HS g h' (qC e sz n v (QH xs (i*sz) l)::R)→wp (K1 h') Q) :
  wp (yt v (.int k (i:Int)) sz λp=>jw h p (.agg l) sz K1) Q:=by
 obtain⟨b,cp,o,rfl,w'⟩:=Db (x:=.agg l) (m:=sz) (j:=0) H hi omQ hl h1 (λh' H'=>w h' H');exact YZ hi w'
theorem JS {hi:Nat} (H:HS g h (qC e sz n v xs::R)) (bz:0<sz) (hle:hi≤n) (w:∀v',HS g h (qC e sz hi v' (xs.take (hi*sz))::R)→wp (K v') Q):wp (xC h e sz v none (some (.int k (hi:Int))) K) Q:=by
  by_cases hn:n=0
  · subst hn;obtain rfl:hi=0:=by omega
    have hH:=H;obtain⟨D,⟨hl,⟨rfl,_,hD⟩ |⟨b,cp,o,zs,rfl,hD,A,q1,q2,q3⟩⟩,hb,k⟩:=H.act
    · exact w .aj (by grind)
    · cases o with
      |false=>
        rw[iQ aM]at q3;refine UC (hi:=0) (lo:=0) (yz (Nat.zero_le _)) rfl ?_
        have := w (.slice b 0 0 cp false) (by grind)
        have e0:(bif Nat.beq cp 0 then 0 else 0+0*sz)=0:=by simp
        rw[e0];exact this
      |true=>
        rw[iJ rfl]at q3;subst q3;refine K9 (i0:=0) (hi:=0) (lo:=0) A bz omQ omQ (yz (Nat.zero_le _)) rfl (.inr rfl) ?_
        have := w (.slice b 0 0 0 true) (by grind)
        simpa using this
  · obtain⟨b,cp,o,zs,rfl,H',q1,q2,q3⟩:=H.EI omQ;have tF:=Nat.mul_le_mul_right sz hle;have e1:zs.take (hi*sz)=xs.take (hi*sz):=by grind
    cases o with
    |false=>
      rw[iQ aM]at q3;refine UC (hi:=hi) (lo:=0) (yz omQ) rfl ?_;have:=w (.slice b 0 hi cp false) (by rw[← e1];exact H'.Ik omQ (by grind));have e0:(bif Nat.beq cp 0 then 0 else 0+0*sz)=0:=by simp
      rw[e0];exact this
    |true=>rw[iJ rfl]at q3;subst q3;obtain⟨D,_,A⟩:=H'.p .here;refine K9 (i0:=0) (hi:=hi) (lo:=0) A bz omQ omQ (yz hle) rfl (.inr rfl) ?_;have:=w (.slice b 0 hi 0 true) (by rw[← e1];exact H'.Ik omQ (by rfl));simpa using this
theorem qzB {lo:Nat} (H:HS g h (qC e sz n v xs::R)) (bz:0<sz) (fh:lo≤n) (hn:0<n) (w:∀v',Sl (λ_=>True) h sz (n-lo) v' (xs.drop (lo*sz))→wp (K v') Q):wp (xC h e sz v (some (.int k (lo:Int))) none K) Q:=by
 have S:=H.sl .here;obtain⟨D,⟨hl,⟨rfl,rfl,hD⟩ |⟨b,cp,o,ys,rfl,hD,A,q1,q2,q3⟩⟩,hb,_⟩:=H.act
 ·omega
 cases o with
 |false=>rw[iQ aM]at q3;exact qGa S rfl q3.2 fh λv' S' _ _=>w v' S'
 |true=>
  rw[iJ rfl]at q3;subst q3;by_cases h0:lo<n∨lo=0
  ·refine K9 (hi:=n) (lo:=lo) A bz (by simp) (by grind) rfl (yz fh) h0 (w _ ?_);have hle:lo*sz≤n*sz:=Nat.mul_le_mul_right sz fh;have rN:(n-lo)*sz=n*sz-lo*sz:=Nat.sub_mul ..;refine .mk trivial A.lt A.rd (by grind) λi hi=>?_;rw[A.at,Nat.zero_add,List.getElem?_drop,← q2,List.getElem?_take_of_lt omQ]
  ·obtain rfl:lo=n:=by omega
   refine qyl A bz (by simp) (by grind) (yz (Nat.le_refl _)) hn (w _ ?_);rw[Nat.sub_self,List.drop_of_length_le omQ];exact .tail ..
theorem qr (H:HS g h L) (s:bB L (qC e sz n v xs) R) (w:wp (K (.int .i64 (n:Int))) Q):wp (kH v K) Q:=yH (H.sl s) w
def Rd (g:AH) (R:List SP) (sz n:Nat) (v:AV) (xs:List AV):Prop:=∀h,HS g h R→Sl (λ_=>True) h sz n v xs
theorem Rd.sl (S:Rd g L sz n v xs) (H:HS g h L):Sl (λ_=>True) h sz n v xs:=S h H
theorem Rd.more (S:Rd g R sz n v xs):Rd g (P::R) sz n v xs:=λh H=>S h H.drop
theorem Rd.own (s:bB L (qC e sz n v xs) R):Rd g L sz n v xs:=λ_ H=>H.sl s
theorem HS.rd (_:HS g h L) (s:bB L (qC e sz n v xs) R):Rd g L sz n v xs:=.own s
theorem Rd.arg {D:Nat→Prop} (S:Sl D g sz n v xs):Rd g L sz n v xs:=λ_ H=>(S.bU H.bU).mono λ_ _=>trivial
theorem Rd.len (S:Rd g L sz n v xs) (H:HS g h L):xs.length=n*sz:=(S h H).len
variable {c d:Int}
theorem qk (hc:c=d) (w:wp (K (.bool true)) Q):wp (j6 .eql (.int k c) (.int k d) K) Q:=J7 (by rw[iG hc];exact w)
theorem qW (hc:¬c=d) (w:wp (K (.bool false)) Q):wp (j6 .eql (.int k c) (.int k d) K) Q:=J7 (by rw[iV hc];exact w)
theorem jb (hc:¬c=d) (w:wp (K (.bool true)) Q):wp (j6 .neq (.int k c) (.int k d) K) Q:=Kx (by rw[iG hc];exact w)
theorem jR (hc:c=d) (w:wp (K (.bool false)) Q):wp (j6 .neq (.int k c) (.int k d) K) Q:=Kx (by rw[iV (not_not_intro hc)];exact w)
theorem jO (hc:c<d) (w:wp (K (.bool true)) Q):wp (j6 .lss (.int k c) (.int k d) K) Q:=QB (by rw[iG hc];exact w)
theorem jM (hc:¬c<d) (w:wp (K (.bool false)) Q):wp (j6 .lss (.int k c) (.int k d) K) Q:=QB (by rw[iV hc];exact w)
theorem ve (hc:c≤d) (w:wp (K (.bool true)) Q):wp (j6 .leq (.int k c) (.int k d) K) Q:=TI (by rw[iG hc];exact w)
theorem vj (hc:¬c≤d) (w:wp (K (.bool false)) Q):wp (j6 .leq (.int k c) (.int k d) K) Q:=TI (by rw[iV hc];exact w)
theorem xL (hc:d<c) (w:wp (K (.bool true)) Q):wp (j6 .gtr (.int k c) (.int k d) K) Q:=PW (by rw[iG hc];exact w)
theorem xJ (hc:¬d<c) (w:wp (K (.bool false)) Q):wp (j6 .gtr (.int k c) (.int k d) K) Q:=PW (by rw[iV hc];exact w)
theorem zK (hc:d≤c) (w:wp (K (.bool true)) Q):wp (j6 .geq (.int k c) (.int k d) K) Q:=TJ (by rw[iG hc];exact w)
theorem jt (hc:¬d≤c) (w:wp (K (.bool false)) Q):wp (j6 .geq (.int k c) (.int k d) K) Q:=TJ (by rw[iV hc];exact w)
theorem HS.fits (H:HS g h L) (s:bB L (qC e sz n v xs) R) (bz:0<sz) (h1:sz<65536) {N:Nat} (hN:N=e*65536+sz) {u:AV}:zR v (some N) u h=true:=by
 obtain⟨D,hl,⟨rfl,rfl,hD⟩ |⟨b,cp,o,zs,rfl,hD,A,q1,q2,q3⟩⟩:=H.p s
 ·rfl
 ·cases o with
  |false=>rfl
  |true=>
   rw[iJ rfl]at q3;subst q3;obtain⟨c,c1,c2,c3⟩:=A.bR;show vJ h (N/65536) b 0 (N%65536) 0 n=true;rw[hN,(Za e sz h1).1,(Za e sz h1).2];unfold vJ;rw[c1];simp only[Bool.and_eq_true];have dE:c.len=zs.length:=by rw[CT.dD,c2]
   simp;omega
theorem HS.Im (H:HS g h L) (s:bB L (qC e sz n v xs) R):Uj v h.nx=true:=by
 obtain⟨D,hl,⟨rfl,rfl,hD⟩ |⟨b,cp,o,zs,rfl,hD,A,q1,q2,q3⟩⟩:=H.p s
 ·rfl
 ·cases o with
  |false=>rfl
  |true=>exact iY A.lt
theorem qZP {g1 g2 ha h0:AH} {L1 R1 L2 R2:List SP} {n1 n2 N:Nat} {xs1 xs2:List AV} {u:AV} {K0:Go.Ae.R} (H:HS g h L) (s:bB L (qC e sz n v xs) R) (H1:HS g1 ha L1) (s1:bB L1 (qC e sz n1 v xs1) R1) (H2:HS g2 h0 L2) (s2:bB L2 (qC e sz n2 v xs2) R2)
  (bz:0<sz) (h1:sz<65536) (hN:N=e*65536+sz) (w:wp K0 Q):wp (kA v (some N) u h ha h0.nx K0) Q:=by
 unfold kA;rw[H.fits s bz h1 hN,H1.fits s1 bz h1 hN,H2.Im s2];exact w
end Go.Ae
namespace Go.Ae
theorem e_1 {a0 P:SP} {R:List SP}:bB (a0::P::R) P (a0::R):=.there .here
theorem e_2 {a0 a1 P:SP} {R:List SP}:bB (a0::a1::P::R) P (a0::a1::R):=.there e_1
theorem e_3 {a0 a1 a2 P:SP} {R:List SP}:bB (a0::a1::a2::P::R) P (a0::a1::a2::R):=.there e_2
theorem e_4 {a0 a1 a2 a3 P:SP} {R:List SP}:bB (a0::a1::a2::a3::P::R) P (a0::a1::a2::a3::R):=.there e_3
theorem e_5 {a0 a1 a2 a3 a4 P:SP} {R:List SP}:bB (a0::a1::a2::a3::a4::P::R) P (a0::a1::a2::a3::a4::R):=.there e_4
theorem e_6 {a0 a1 a2 a3 a4 a5 P:SP} {R:List SP}:bB (a0::a1::a2::a3::a4::a5::P::R) P (a0::a1::a2::a3::a4::a5::R):=.there e_5
theorem e_7 {a0 a1 a2 a3 a4 a5 a6 P:SP} {R:List SP}:bB (a0::a1::a2::a3::a4::a5::a6::P::R) P (a0::a1::a2::a3::a4::a5::a6::R):=.there e_6
theorem e_8 {a0 a1 a2 a3 a4 a5 a6 a7 P:SP} {R:List SP}:bB (a0::a1::a2::a3::a4::a5::a6::a7::P::R) P (a0::a1::a2::a3::a4::a5::a6::a7::R):=.there e_7
theorem e_9 {a0 a1 a2 a3 a4 a5 a6 a7 a8 P:SP} {R:List SP}:bB (a0::a1::a2::a3::a4::a5::a6::a7::a8::P::R) P (a0::a1::a2::a3::a4::a5::a6::a7::a8::R):=.there e_8
theorem e_10 {a0 a1 a2 a3 a4 a5 a6 a7 a8 a9 P:SP} {R:List SP}:bB (a0::a1::a2::a3::a4::a5::a6::a7::a8::a9::P::R) P (a0::a1::a2::a3::a4::a5::a6::a7::a8::a9::R):=.there e_9
theorem e_11 {a0 a1 a2 a3 a4 a5 a6 a7 a8 a9 eu P:SP} {R:List SP}:bB (a0::a1::a2::a3::a4::a5::a6::a7::a8::a9::eu::P::R) P (a0::a1::a2::a3::a4::a5::a6::a7::a8::a9::eu::R):=.there e_10
theorem e_12 {a0 a1 a2 a3 a4 a5 a6 a7 a8 a9 eu fl P:SP} {R:List SP}:bB (a0::a1::a2::a3::a4::a5::a6::a7::a8::a9::eu::fl::P::R) P (a0::a1::a2::a3::a4::a5::a6::a7::a8::a9::eu::fl::R):=.there e_11
theorem e_13 {a0 a1 a2 a3 a4 a5 a6 a7 a8 a9 eu fl fI P:SP} {R:List SP}:bB (a0::a1::a2::a3::a4::a5::a6::a7::a8::a9::eu::fl::fI::P::R) P (a0::a1::a2::a3::a4::a5::a6::a7::a8::a9::eu::fl::fI::R):=.there e_12
theorem e_14 {a0 a1 a2 a3 a4 a5 a6 a7 a8 a9 eu fl fI iu P:SP} {R:List SP}:bB (a0::a1::a2::a3::a4::a5::a6::a7::a8::a9::eu::fl::fI::iu::P::R) P (a0::a1::a2::a3::a4::a5::a6::a7::a8::a9::eu::fl::fI::iu::R):=.there e_13
theorem e_15 {a0 a1 a2 a3 a4 a5 a6 a7 a8 a9 eu fl fI iu lg P:SP} {R:List SP}:bB (a0::a1::a2::a3::a4::a5::a6::a7::a8::a9::eu::fl::fI::iu::lg::P::R) P (a0::a1::a2::a3::a4::a5::a6::a7::a8::a9::eu::fl::fI::iu::lg::R):=.there e_14
theorem e_16 {a0 a1 a2 a3 a4 a5 a6 a7 a8 a9 eu fl fI iu lg mn P:SP} {R:List SP}:bB (a0::a1::a2::a3::a4::a5::a6::a7::a8::a9::eu::fl::fI::iu::lg::mn::P::R) P (a0::a1::a2::a3::a4::a5::a6::a7::a8::a9::eu::fl::fI::iu::lg::mn::R):=.there e_15
theorem e_17 {a0 a1 a2 a3 a4 a5 a6 a7 a8 a9 eu fl fI iu lg mn mS P:SP} {R:List SP}:bB (a0::a1::a2::a3::a4::a5::a6::a7::a8::a9::eu::fl::fI::iu::lg::mn::mS::P::R) P (a0::a1::a2::a3::a4::a5::a6::a7::a8::a9::eu::fl::fI::iu::lg::mn::mS::R):=.there e_16
theorem e_18 {a0 a1 a2 a3 a4 a5 a6 a7 a8 a9 eu fl fI iu lg mn mS oe P:SP} {R:List SP}:bB (a0::a1::a2::a3::a4::a5::a6::a7::a8::a9::eu::fl::fI::iu::lg::mn::mS::oe::P::R) P (a0::a1::a2::a3::a4::a5::a6::a7::a8::a9::eu::fl::fI::iu::lg::mn::mS::oe::R):=.there e_17
theorem e_19 {a0 a1 a2 a3 a4 a5 a6 a7 a8 a9 eu fl fI iu lg mn mS oe ru P:SP} {R:List SP}:bB (a0::a1::a2::a3::a4::a5::a6::a7::a8::a9::eu::fl::fI::iu::lg::mn::mS::oe::ru::P::R) P (a0::a1::a2::a3::a4::a5::a6::a7::a8::a9::eu::fl::fI::iu::lg::mn::mS::oe::ru::R):=.there e_18
theorem e_20 {a0 a1 a2 a3 a4 a5 a6 a7 a8 a9 eu fl fI iu lg mn mS oe ru tG P:SP} {R:List SP}:bB (a0::a1::a2::a3::a4::a5::a6::a7::a8::a9::eu::fl::fI::iu::lg::mn::mS::oe::ru::tG::P::R) P (a0::a1::a2::a3::a4::a5::a6::a7::a8::a9::eu::fl::fI::iu::lg::mn::mS::oe::ru::tG::R):=.there e_19
theorem e_21 {a0 a1 a2 a3 a4 a5 a6 a7 a8 a9 eu fl fI iu lg mn mS oe ru tG BN P:SP} {R:List SP}:bB (a0::a1::a2::a3::a4::a5::a6::a7::a8::a9::eu::fl::fI::iu::lg::mn::mS::oe::ru::tG::BN::P::R) P (a0::a1::a2::a3::a4::a5::a6::a7::a8::a9::eu::fl::fI::iu::lg::mn::mS::oe::ru::tG::BN::R):=.there e_20
theorem e_22 {a0 a1 a2 a3 a4 a5 a6 a7 a8 a9 eu fl fI iu lg mn mS oe ru tG BN Io P:SP} {R:List SP}:bB (a0::a1::a2::a3::a4::a5::a6::a7::a8::a9::eu::fl::fI::iu::lg::mn::mS::oe::ru::tG::BN::Io::P::R) P (a0::a1::a2::a3::a4::a5::a6::a7::a8::a9::eu::fl::fI::iu::lg::mn::mS::oe::ru::tG::BN::Io::R):=.there e_21
theorem e_23 {a0 a1 a2 a3 a4 a5 a6 a7 a8 a9 eu fl fI iu lg mn mS oe ru tG BN Io a22 P:SP} {R:List SP}:bB (a0::a1::a2::a3::a4::a5::a6::a7::a8::a9::eu::fl::fI::iu::lg::mn::mS::oe::ru::tG::BN::Io::a22::P::R) P (a0::a1::a2::a3::a4::a5::a6::a7::a8::a9::eu::fl::fI::iu::lg::mn::mS::oe::ru::tG::BN::Io::a22::R):=.there e_22
end Go.Ae
namespace Go.Ae
open Go
theorem bw {tab:BT} {rt:List RT} {n:Nat} {f:FuncId} {P:Program} {pl:Pl} {S:cX P pl f} {a0:AV} {h:AH} {Q:AV→AH→Prop} (hg:tab.get f=some (cY S)) (hn:1≤n) (w:∀k,n=k+1→wp (S (callT tab rt k) a0 h).1 Q):wp (callT tab rt n (.fn f [] []) [a0] h) Q:=q8 hg hn w
theorem cu {tab:BT} {rt:List RT} {n:Nat} {f:FuncId} {P:Program} {pl:Pl} {S:dM P pl f} {a0 a1:AV} {h:AH} {Q:AV→AH→Prop} (hg:tab.get f=some (dN S)) (hn:1≤n) (w:∀k,n=k+1→wp (S (callT tab rt k) a0 a1 h).1 Q):wp (callT tab rt n (.fn f [] []) [a0,a1] h) Q:=q8 hg hn w
theorem dV {tab:BT} {rt:List RT} {n:Nat} {f:FuncId} {P:Program} {pl:Pl} {S:lu P pl f} {a0 a1 a2:AV} {h:AH} {Q:AV→AH→Prop} (hg:tab.get f=some (lf S)) (hn:1≤n) (w:∀k,n=k+1→wp (S (callT tab rt k) a0 a1 a2 h).1 Q):wp (callT tab rt n (.fn f [] []) [a0,a1,a2] h) Q:=q8 hg hn w
theorem tH {tab:BT} {rt:List RT} {n:Nat} {f:FuncId} {P:Program} {pl:Pl} {S:Bo P pl f} {a0 a1 a2 a3:AV} {h:AH} {Q:AV→AH→Prop} (hg:tab.get f=some (uB S)) (hn:1≤n) (w:∀k,n=k+1→wp (S (callT tab rt k) a0 a1 a2 a3 h).1 Q):wp (callT tab rt n (.fn f [] []) [a0,a1,a2,a3] h) Q:=q8 hg hn w
theorem tI {tab:BT} {rt:List RT} {n:Nat} {f:FuncId} {P:Program} {pl:Pl} {S:CD P pl f} {a0 a1 a2 a3 a4:AV} {h:AH} {Q:AV→AH→Prop} (hg:tab.get f=some (Bp S)) (hn:1≤n) (w:∀k,n=k+1→wp (S (callT tab rt k) a0 a1 a2 a3 a4 h).1 Q):wp (callT tab rt n (.fn f [] []) [a0,a1,a2,a3,a4] h) Q:=q8 hg hn w
theorem TV {tab:BT} {rt:List RT} {n:Nat} {f:FuncId} {P:Program} {pl:Pl} {S:Pt P pl f} {a0 a1 a2 a3 a4 a5 a6:AV} {h:AH} {Q:AV→AH→Prop} (hg:tab.get f=some (Pu S)) (hn:1≤n) (w:∀k,n=k+1→wp (S (callT tab rt k) a0 a1 a2 a3 a4 a5 a6 h).1 Q):wp (callT tab rt n (.fn f [] []) [a0,a1,a2,a3,a4,a5,a6] h) Q:=q8 hg hn w
end Go.Ae
