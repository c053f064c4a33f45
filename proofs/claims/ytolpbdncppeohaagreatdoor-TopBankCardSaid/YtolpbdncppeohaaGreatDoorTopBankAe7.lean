/- The abstract executor of the program's form in Lean, shown sound: steps of a run; a law's run. -/
import Derived.Test.YtolpbdncppeohaaGreatDoorTopBankAe6
namespace Go.Ae
open Go
def wp (r:R) (Q:AV→AH→Prop):Prop:=∃v h,r=some (v,h)∧Q v h
variable {Q Q':AV→AH→Prop} {h h':AH} {k:IntKind} {a b:Int} {K:AV→R}
theorem wp.mono {r:R} (w:wp r Q) (hq:∀v h,Q v h→Q' v h):wp r Q':=by obtain⟨v,h,e,q⟩:=w;exact⟨v,h,e,hq v h q⟩
theorem qW {v:AV} {g:AH} (q:Q v g):wp (some (v,g)) Q:=⟨_,_,rfl,q⟩
theorem Jc (a b:Int):oE a b=decide (a<b):=MK a b
theorem Gg (a b:Int):mG a b=decide (a=b):=by
 grind[M2]
theorem JH (op:BinOp) (a b:Int) (K:AV→R):zB op (.int k a) (.int k b) K=ob (JL op k a b) K:=by simp[Lz]
theorem XI (w:wp (K (.bool (decide (a<b)))) Q):wp (zB .lss (.int k a) (.int k b) K) Q:=by rw[JH];simpa only[JL,Jc]using w
theorem ZT (w:wp (K (.bool (decide (a≤b)))) Q):wp (zB .leq (.int k a) (.int k b) K) Q:=by rw[JH];simp only[JL,Jc];rw[show(!decide (b<a))=decide (a≤b) by grind];exact w
theorem Ix (w:wp (K (.bool (decide (b<a)))) Q):wp (zB .gtr (.int k a) (.int k b) K) Q:=by rw[JH];simpa only[JL,Jc]using w
theorem PB (w:wp (K (.bool (decide (b≤a)))) Q):wp (zB .geq (.int k a) (.int k b) K) Q:=by rw[JH];simp only[JL,Jc];rw[show(!decide (a<b))=decide (b≤a) by grind];exact w
theorem YO (w:wp (K (.bool (decide (a=b)))) Q):wp (zB .eql (.int k a) (.int k b) K) Q:=by rw[JH];simpa only[JL,Gg]using w
theorem Nz (w:wp (K (.bool (decide (¬a=b)))) Q):wp (zB .neq (.int k a) (.int k b) K) Q:=by rw[JH];simp only[JL,Gg];rw[← decide_not];exact w
theorem EZ {n:Int} (h:-9223372036854775808≤n∧n≤9223372036854775807):jR .i64 n=n:=by
 grind[QC,UQ]
theorem Iy {n:Int} (h:0≤n∧n≤18446744073709551615):jR .u64 n=n:=by grind[QC,M7]
theorem WO {n:Int} (h:0≤n∧n≤255):jR .u8 n=n:=by grind[QC,TG]
theorem NP (w:wp (K (.int k (jR k (a+b)))) Q):wp (zB .add (.int k a) (.int k b) K) Q:=by rw[JH];exact w
theorem PC (w:wp (K (.int k (jR k (a-b)))) Q):wp (zB .sub (.int k a) (.int k b) K) Q:=by rw[JH];exact w
theorem WQ (w:wp (K (.int k (jR k (a*b)))) Q):wp (zB .mul (.int k a) (.int k b) K) Q:=by rw[JH];exact w
theorem qi (h:-9223372036854775808≤a+b∧a+b≤9223372036854775807) (w:wp (K (.int .i64 (a+b))) Q):wp (zB .add (.int .i64 a) (.int .i64 b) K) Q:=NP (by rw[EZ h];exact w)
theorem zu (h:-9223372036854775808≤a-b∧a-b≤9223372036854775807) (w:wp (K (.int .i64 (a-b))) Q):wp (zB .sub (.int .i64 a) (.int .i64 b) K) Q:=PC (by rw[EZ h];exact w)
theorem Z6 (h:-9223372036854775808≤a*b∧a*b≤9223372036854775807) (w:wp (K (.int .i64 (a*b))) Q):wp (zB .mul (.int .i64 a) (.int .i64 b) K) Q:=WQ (by rw[EZ h];exact w)
theorem yT (h:0≤a+b∧a+b≤18446744073709551615) (w:wp (K (.int .u64 (a+b))) Q):wp (zB .add (.int .u64 a) (.int .u64 b) K) Q:=NP (by rw[Iy h];exact w)
theorem wK (h:0≤a-b∧a-b≤18446744073709551615) (w:wp (K (.int .u64 (a-b))) Q):wp (zB .sub (.int .u64 a) (.int .u64 b) K) Q:=PC (by rw[Iy h];exact w)
theorem ka (h:b≠0) (w:wp (K (.int k (a.tmod b))) Q):wp (zB .rem (.int k a) (.int k b) K) Q:=by rw[JH];simp only[JL,Gg,iV h,cond_false];exact w
theorem WR (h:b≠0) (w:wp (K (.int k (jR k (a.tdiv b)))) Q):wp (zB .quo (.int k a) (.int k b) K) Q:=by rw[JH];simp only[JL,Gg,iV h,cond_false];exact w
theorem YQ {d:IntKind} (w:wp (K (.int d (jR d a))) Q):wp (wA d (.int k a) K) Q:=w
theorem yZ (h:-9223372036854775808≤a∧a≤9223372036854775807) (w:wp (K (.int .i64 a)) Q):wp (wA .i64 (.int k a) K) Q:=YQ (by rw[EZ h];exact w)
theorem kh (h:0≤a∧a≤18446744073709551615) (w:wp (K (.int .u64 a)) Q):wp (wA .u64 (.int k a) K) Q:=YQ (by rw[Iy h];exact w)
theorem jKU {q:IntKind} (h:0≤b) (w:wp (K (.int k (jR k (a*2 ^ (min b.toNat k.bits))))) Q):wp (w5 .shl (.int k a) (.int q b) K) Q:=by unfold w5;simp only[MI,Jc,iV (show¬b<0 by omega),cond_false];exact w
theorem WS {q:IntKind} (h:0≤b) (w:wp (K (.int k (a.fdiv (2 ^ (min b.toNat k.bits))))) Q):wp (w5 .shr (.int k a) (.int q b) K) Q:=by unfold w5;simp only[MI,Jc,iV (show¬b<0 by omega),cond_false];exact w
theorem jd (w:wp (K (.bool false)) Q):wp (tg .not (.bool true) K) Q:=w
theorem jo (w:wp (K (.bool true)) Q):wp (tg .not (.bool false) K) Q:=w
theorem zt (w:wp (K (.int k (min a b))) Q):wp (pf false [.int k a,.int k b] K) Q:=by unfold pf;simp only[MU,cond_true,Bd,DI,beq_self_eq_true,cond_false,Option.bind_some,Jc];rw[show(bif decide (b<a)then b else a)=min a b by grind];exact w
theorem xg (w:wp (K (.int k (max a b))) Q):wp (pf true [.int k a,.int k b] K) Q:=by unfold pf;simp only[MU,cond_true,Bd,DI,beq_self_eq_true,Option.bind_some,Jc];rw[show(bif decide (a<b)then b else a)=max a b by grind];exact w
theorem QY {p:Prop} [Decidable p] {K:AV→R} (h1:p→wp (K (.bool true)) Q) (h2:¬p→wp (K (.bool false)) Q):wp (K (.bool (decide p))) Q:=by
 by_cases hp:p
 ·rw[iG hp];exact h1 hp
 ·rw[iV hp];exact h2 hp
theorem yG (h1:a<b→wp (K (.bool true)) Q) (h2:¬a<b→wp (K (.bool false)) Q):wp (zB .lss (.int k a) (.int k b) K) Q:=XI (QY h1 h2)
theorem Qx (h1:a≤b→wp (K (.bool true)) Q) (h2:¬a≤b→wp (K (.bool false)) Q):wp (zB .leq (.int k a) (.int k b) K) Q:=ZT (QY h1 h2)
theorem Qm (h1:b<a→wp (K (.bool true)) Q) (h2:¬b<a→wp (K (.bool false)) Q):wp (zB .gtr (.int k a) (.int k b) K) Q:=Ix (QY h1 h2)
theorem vK (h1:b≤a→wp (K (.bool true)) Q) (h2:¬b≤a→wp (K (.bool false)) Q):wp (zB .geq (.int k a) (.int k b) K) Q:=PB (QY h1 h2)
theorem wG (h1:a=b→wp (K (.bool true)) Q) (h2:¬a=b→wp (K (.bool false)) Q):wp (zB .eql (.int k a) (.int k b) K) Q:=YO (QY h1 h2)
theorem gI (h1:¬a=b→wp (K (.bool true)) Q) (h2:a=b→wp (K (.bool false)) Q):wp (zB .neq (.int k a) (.int k b) K) Q:=Nz (QY h1 λh=>h2 (Decidable.byContradiction h))
variable {x y:R} {p:Prop} [Decidable p] {u v:AV}
theorem jJ7 (h1:p→wp x Q) (h2:¬p→wp y Q):wp (xY (.bool (decide p)) x y) Q:=by
 rw[Tz];by_cases hp:p
 ·simpa[hp]using h1 hp
 ·simpa[hp]using h2 hp
theorem kG {t:Bool} (h1:t=true→wp x Q) (h2:t=false→wp y Q):wp (xY (.bool t) x y) Q:=by
 cases t
 ·exact h2 rfl
 ·exact h1 rfl
theorem qX (w:wp x Q):wp (xY (.bool true) x y) Q:=w
theorem qJ (w:wp y Q):wp (xY (.bool false) x y) Q:=w
theorem WU (h1:p→wp x Q) (h2:¬p→wp y Q):wp (wa (.bool (decide p)) true x y) Q:=by
 rw[MX];by_cases hp:p
 ·simpa[hp]using h1 hp
 ·simpa[hp]using h2 hp
theorem qd (w:wp x Q):wp (wa (.bool true) true x y) Q:=w
theorem jC (w:wp y Q):wp (wa (.bool true) false x y) Q:=w
theorem qb (w:wp y Q):wp (wa (.bool false) true x y) Q:=w
theorem qo (w:wp x Q):wp (wa (.bool false) false x y) Q:=w
theorem xJ {s:Bool} (w:wp y Q):wp (wa .undef s x y) Q:=w
theorem qE (w:wp (K u) Q):wp (gt (.bool true) u v K) Q:=w
theorem qI (w:wp (K v) Q):wp (gt (.bool false) u v K) Q:=w
theorem qY {α:Type} {j:α} {f:α→R} (w:wp (f j) Q):wp (yc j f) Q:=w
theorem UG {σ:Type} {j:σ→AH→R} {f:(σ→AH→R)→R} (Inv:σ→AH→Prop) (hf:∀j':σ→AH→R,(∀s h,Inv s h→wp (j' s h) Q)→wp (f j') Q) (hj:∀s h,Inv s h→wp (j s h) Q):wp (yc j f) Q:=hf j hj
theorem zb {σ:Type} {j:σ→AH→List Nat→R} {f:(σ→AH→List Nat→R)→R} (ds:List Nat) (Inv:σ→AH→Prop) (hf:∀j':σ→AH→List Nat→R,(∀s h,Inv s h→wp (j' s h ds) Q)→wp (f j') Q)
  (hj:∀s h,Inv s h→wp (j s h ds) Q):wp (yc j f) Q:=hf j hj
theorem qx {K:AH→R} (w:wp (K h) Q):wp (xL [] h K) Q:=w
theorem zQ {σ:Type} {f:(σ→AH→List Nat→R)→σ→AH→List Nat→R} {d:List Nat} (Inv:Nat→σ→AH→Prop)
  (step:∀m ih s h,(∀m' s' h',m'<m→Inv m' s' h'→wp (ih s' h' d) Q)→Inv m s h→wp (f ih s h d) Q):∀{N m:Nat} {s:σ} {h:AH},m<N→Inv m s h→wp (GM N f s h d) Q:=by
 intro N
 induction N with
 |zero=>intro m s h hm;omega
 |succ N ih=>intro m s h hm hi;show wp (f (GM N f) s h d) Q;exact step m _ s h (λm' s' h' aw nM=>ih omQ nM) hi
theorem qG {c:CV} {f:AV} {as:List AV} {K:AV→AH→R} (w:wp (c f as h) Q') (hk:∀v h',Q' v h'→wp (K v h') Q):wp (ze c f as h K) Q:=by obtain⟨v,h',e,q⟩:=w;rw[JD,e];exact hk v h' q
theorem qgn {tab:BT} {rt:List RT} {n:Nat} {f:FuncId} {as:List AV} {g:WF} (hg:tab.get f=some g):callT tab rt (n+1) (.fn f [] []) as h=g (callT tab rt n) as h:=by simp_all[R,callT,List.nil_append,List.append_nil]
theorem qkS {tab:BT} {rt:List RT} {n:Nat} {f:FuncId} {a1 a2 as:List AV} {g:WF} (hg:tab.get f=some g):callT tab rt (n+1) (.fn f a1 a2) as h=g (callT tab rt n) (a1++as++a2) h:=by simp_all[R,callT]
end Go.Ae
namespace Go.Ae
open Go
def Qj (z:Nat) (c:CV):CV:=λv as h=>match v,as with
 | .fn f [] [],[]=>if f=z then some (.bool true,h)else c v as h
 |_,_=>c v as h
theorem qzA {z:Nat} {c:CV} {h:AH}:Qj z c (.fn z [] []) [] h=some (.bool true,h):=iJ rfl
theorem qK2 {z f:Nat} {c:CV} {as:List AV} {h:AH} (hf:f≠z):Qj z c (.fn f [] []) as h=c (.fn f [] []) as h:=by
 cases as with
 |nil=>exact iQ hf
 |cons a as=>rfl
theorem qA {tab:BT} {rt:List RT} {n:Nat} {f:FuncId} {as:List AV} {g:WF} {h:AH} {Q:AV→AH→Prop} (hg:tab.get f=some g) (hn:1≤n) (w:∀k,n=k+1→wp (g (callT tab rt k) as h) Q):wp (callT tab rt n (.fn f [] []) as h) Q:=by obtain⟨k,rfl⟩:∃k,n=k+1:=⟨n-1,by omega⟩;rw[qgn hg];exact w k rfl
theorem WV {tab:BT} {rt:List RT} {n:Nat} {f:FuncId} {a1 a2 as:List AV} {g:WF} {h:AH} {Q:AV→AH→Prop} (hg:tab.get f=some g) (hn:1≤n) (w:∀k,n=k+1→wp (g (callT tab rt k) (a1++as++a2) h) Q):wp (callT tab rt n (.fn f a1 a2) as h) Q:=by obtain⟨k,rfl⟩:∃k,n=k+1:=⟨n-1,by omega⟩;rw[qkS hg];exact w k rfl
theorem vU {z:Nat} {c:CV} {f:FuncId} {as:List AV} {h:AH} {Q Q':AV→AH→Prop} {K:AV→AH→R} (hf:f≠z) (w:wp (c (.fn f [] []) as h) Q') (hk:∀v h',Q' v h'→wp (K v h') Q):wp (ze (Qj z c) (.fn f [] []) as h K) Q :=
 qG (by rw[qK2 hf];exact w) hk
theorem jKS {z:Nat} {c:CV} {h:AH} {Q:AV→AH→Prop} {K:AV→AH→R} (hk:wp (K (.bool true) h) Q):wp (ze (Qj z c) (.fn z [] []) [] h K) Q :=
 qG (Q':=λv h'=>v=.bool true∧h'=h) ⟨_,_,qzA,rfl,rfl⟩ (by rintro v h' ⟨rfl,rfl⟩;exact hk)
theorem Yu {P:Program} {m:Mp} {D:Nat→Prop} {h:AH} {w w':World} (R:Rel P m D h w) (B:RowKit.Below w.heap.size w w'):Ext m D h w m D h w'∧Rel P m D h w':=by
 refine Ext.rel R ?_;refine⟨⟨λ_ x=>x,λ_ _=>rfl,B.size,λc hc hn=>⟨B.block c hc,hn⟩,Nat.le_refl _,λ_ _ hn=>⟨rfl,hn⟩,B.os,B.tape,B.output,λb=>⟨.inl,λhb=>hb.elim id λhb=>by omega⟩,λ_ _ h1 h2=>⟨h1,h2⟩⟩,?_,R.inj,R.lt,R.dq⟩;intro b hb;obtain⟨x,hx,hr,hd⟩:=R.bp b hb;refine⟨x,hx,?_,hd⟩;cases x with
 |dead=>trivial
 |dq t=>exact hr.congr (λ_ _=>rfl) hd (B.block _ hr.iN)
 |_=>exact hr.congr (λ_ _=>rfl) hd (B.block _ (dr.inside (by trivial) hr))
theorem qKt {P:Program} {c:CV} (hc:y9 P c) {z:Nat} (BE:∀(as:Array Value) (W:World),(callFunc z as).run P W=.ok (.enter z as) W)
  (cP:∀(w:World) (n:Nat),Gl P w→CallsIn Fence.wide n P z #[] w λe w'=>e=.returned (.bool true)∧RowKit.Below w.heap.size w w'):y9 P (Qj z c):=by
 intro vf as h r e m D w R hv ha;unfold Qj at e
 split at e
 ·rename_i f
  split at e
  ·rename_i hf;subst hf;cases e;refine⟨BE,λn=>CallsIn.mono (cP w n R.gl.gl) ?_⟩;rintro ee w' ⟨rfl,B⟩;obtain⟨X,R'⟩:=Yu R B;exact⟨m,D,rfl,X,R',trivial⟩
  ·exact hc _ _ _ _ e m D w R hv ha
 ·exact hc _ _ _ _ e m D w R hv ha
theorem open_law {P:Program} {tab:BT} {rt:List RT} (hm:P.follows .mixedOrders=true) (ht:TabOk P tab rt) {z:Nat} {gz:WF} (hz:tab.get z=some gz)
  (cP:∀(w:World) (n:Nat),Gl P w→CallsIn Fence.wide n P z #[] w λe w'=>e=.returned (.bool true)∧RowKit.Below w.heap.size w w')
  {f:FuncId} {g:WF} (hg:tab.get f=some g) {k:Nat} {as:List AV} {w:World} {h:AH} (M:QP w h) (AE:Gl P w) (ha:ba (gP w) as)
  (e:wp (g (Qj z (callT tab rt k)) as h) λv _=>v=.bool true) (n:Nat):CallsIn Fence.wide n P f (aW UV as).toArray w λe w'=>e=.returned (.bool true)∧RowKit.Below w.heap.size w w':=by
 obtain⟨v,h',e,rfl⟩:=e;have hc:=qKt (WJ hm ht k) (ht.enter z gz hz) cP;refine CallsIn.mono ((ht.w f g hg).call hc (WI hm hc) e (M.rel AE) ha n) ?_;rintro ee w' ⟨m',D',rfl,X,R',_⟩;exact⟨rfl,X.os,X.tape,X.output,X.size,λk hk=>(X.keep k hk (λ⟨b,hb,hl,_⟩=>M.mq hb hl)).1⟩
theorem PD {P:Program} {h:AH} {d:Nat} {t0 t1 t2 t3:TypeId} {l:List AV} (H:Iw P h d [t0,t1,t2,t3] l):∃a0 a1 a2 a3,l=[a0,a1,a2,a3]∧AD P h d t0 a0∧AD P h d t1 a1∧AD P h d t2 a2∧AD P h d t3 a3:=by
 cases l with
 |nil=>trivial
 |cons a0 l=>
 obtain⟨h0,H⟩:=H;cases l with
 |nil=>trivial
 |cons a1 l=>
 obtain⟨h1,H⟩:=H;cases l with
 |nil=>trivial
 |cons a2 l=>
 obtain⟨h2,H⟩:=H;cases l with
 |nil=>trivial
 |cons a3 l=>
 obtain⟨h3,H⟩:=H;cases l with
 |cons _ _=>trivial
 |nil=>grind
end Go.Ae
namespace Go.Ae
open Go
variable {Q:AV→AH→Prop} {h h' po:AH} {K:AV→R} {K2:AV→AH→R} {K1:AH→R} {b off n sz:Nat} {xs ys l:List AV} {e:TypeId} {o:Bool} {x v:AV} {k:IntKind}
def CT.full:CT→Prop
 | .e9 _=>True
 | .tree n z tr=>∀i,i<n→∃v,JP z tr i=some v
theorem CT.pJ {c:CT} (hc:c.full) (i:Nat):c.fa i=c.toList[i]?:=by
 cases c with
 |e9 xs=>exact yR xs i
 |tree n z tr=>
  simp only[CT.fa,CT.toList,List.getElem?_map];cases hb:Nat.ble (i+1) n
  ·have:=KJ hb;grind
  ·have:=wX hb;obtain⟨v,hv⟩:=hc i omQ;rw[cond_true,List.getElem?_range omQ,hv];simp_all[Option.map_some,Y8]
theorem WW {z:List AV} {t:aO AV}:∀{l:List AV} {i:Nat},(∀k,k<l.length→JP z t (i+k)=l[k]?)→XC z t i l.length=some l:=by
 intro l
 induction l with
 |nil=>intro i _;rfl
 |cons a l ih=>intro i H;rw[List.length_cons,Zc];have h0:=H 0 aS;simp only[Nat.add_zero,List.getElem?_cons_zero]at h0;rw[h0,Option.bind_some,ih (i:=i+1) (λk hk=>by have:=H (k+1) (by grind);grind)];rfl
theorem Nq {t:aO AV} {i:Nat}:JP [] t i=aO.get t i:=by
 grind[vS,MA]
theorem GF {α:Type} {xs l:List α} {off:Nat} (H:∀i,i<l.length→xs[off+i]? =l[i]?):(xs.drop off).take l.length=l:=by
 apply List.ext_getElem?;grind
theorem Y5 (hl:0<l.length) (H:∀i,i<l.length→h.at b (off+i)=l[i]?):vq h b off l.length=some l:=by
 have hd:∀i,i<l.length→∃u,l[i]? =some u:=λi hi=>⟨_,iW hi⟩;have cd:=H (l.length-1) omQ;obtain⟨u,hu⟩:=hd (l.length-1) omQ;unfold AH.at at H cd;unfold vq;cases hg:h.get b with
 |none=>grind
 |some x=>
  simp only[hg]at H cd;cases x with
  |cells c e o=>
   simp only at H cd ⊢;cases c with
   |e9 ys=>simp only[CT.fa,yR]at H cd;grind[CT.iU,QI,List.getElem?_eq_some_iff,kQ,GF]
   |tree m z tr=>
    simp only[CT.fa]at H cd;have hm:off+l.length≤m:=by
     rw[hu]at cd;cases hb:Nat.ble (off+(l.length-1)+1) m
     ·grind
     simp_all;omega
    simp only[CT.iU];rw[show Nat.beq l.length 0=false from yi omQ,cond_false,iY hm,cond_true];refine WW λk hk=>?_;grind
  |dq t=>grind[WW,Nq]
  |_=>grind
theorem JV (hx:h.at b off=some x) (w:wp (K x) Q):wp (ja h (.ptr b off) K) Q:=by
 unfold AH.at at hx;rw[gM];simp only
 split at hx
 ·rename_i hg;rw[hg];simp only[hx,ob];exact w
 ·rename_i hg;rw[hg];simp only[hx,ob];exact w
 ·cases hx
theorem WY (hl:l.length=n) (hn:0<n) (H:∀i,i<n→h.at b (off+i)=l[i]?) (w:wp (K (.agg l)) Q):wp (xH h (.ptr b off) n K) Q:=by subst hl;rw[QK];simp only[Y5 hn H,ob];exact w
structure Fr (fp:Nat→Prop) (h h':AH):Prop where
  nx:h.nx≤h'.nx
  get:∀b,b<h.nx→¬fp b→h'.get b=h.get b
theorem Fr.refl (fp:Nat→Prop) (h:AH):Fr fp h h:=⟨Nat.le_refl _,λ_ _ _=>rfl⟩
theorem Fr.mono {fp fq:Nat→Prop} (F:Fr fp h h') (H:∀b,b<h.nx→fp b→fq b):Fr fq h h':=⟨F.nx,λb hb hn=>F.get b hb λhf=>hn (H b hb hf)⟩
theorem Fr.trans {fp fq:Nat→Prop} (F:Fr fp h h') (G:Fr fq h' po):Fr (λb=>fp b∨fq b) h po :=
 ⟨Nat.le_trans F.nx G.nx,λb hb hn=>(G.get b (Nat.lt_of_lt_of_le hb F.nx) λhf=>hn (.inr hf)).trans (F.get b hb λhf=>hn (.inl hf))⟩
abbrev rb (N:Nat) (h h':AH):Prop:=Fr (λb=>N≤b) h h'
theorem rb.refl (N:Nat) (h:AH):rb N h h:=Fr.refl _ _
theorem rb.step {N:Nat} {fp:Nat→Prop} (F:rb N h h') (G:Fr fp h' po) (H:∀b,fp b→N≤b):rb N h po :=
 (F.trans G).mono λb _ hb=>hb.elim id (H b)
structure Row (h:AH) (b:Nat) (xs:List AV) (e:TypeId) (o:Bool):Prop where
  lt:b<h.nx
  bp:∃c,h.get b=some (.cells c e o)∧c.toList=xs∧c.full
theorem Row.fr {fp:Nat→Prop} (A:Row h b xs e o) (F:Fr fp h h') (hb:¬fp b):Row h' b xs e o :=
 ⟨Nat.lt_of_lt_of_le A.lt F.nx,by rw[F.get b A.lt hb];exact A.bp⟩
theorem Row.at (A:Row h b xs e o) (i:Nat):h.at b i=xs[i]?:=by
 obtain⟨c,h1,rfl,h3⟩:=A.bp;grind[AH.at,CT.pJ]
theorem WZ {fp:Nat→Prop} {i:Nat} (F:Fr fp h h') (hb:b<h.nx) (hf:¬fp b):h'.at b i=h.at b i:=by unfold AH.at;rw[F.get b hb hf]
theorem CT.bC (xs:List AV):(CT.ofList xs).full:=by
 unfold CT.ofList;cases Nat.ble xs.length 16
 ·intro i hi;simp_all[Nq,Qk,omQ,Nat.sub_zero]
 trivial
theorem CT.sc (z:List AV) (n:Nat):(CT.CH z n).full:=by
 unfold CT.CH;cases hb:Nat.ble (z.length*n) 16
 ·intro i hi;have h1:=KJ hb;have hz:0<z.length:=Nat.pos_of_ne_zero λh0=>by grind
  have hm:=Nat.mod_lt i hz;refine⟨z[i%z.length],?_⟩;rw[vS,show aO.get (PT.e:aO AV) i=none from aO.fE i];simp[yR]
 trivial
theorem ZO {z:List AV} {t:aO AV} {i:Nat} {xs:List AV} {j:Nat}:JP z (u9 t i xs) j=if i≤j∧j<i+xs.length then xs[j-i]? else JP z t j:=by
 rw[vS,vS,Qk];grind
theorem CT.ou {c c':CT} (hc:c.full) (e:c.write off xs=some c'):c'.full:=by
 cases c with
 |e9 ys=>simp only[CT.write,Option.bind_eq_some_iff]at e;obtain⟨s,_,e⟩:=e;cases e;trivial
 |tree n z tr=>
  simp only[CT.write,jg]at e;obtain⟨_,e⟩:=e;cases e;intro i hi;rw[ZO];by_cases hj:off≤i∧i<off+xs.length
  ·rw[iJ hj];exact⟨_,iW omQ⟩
  ·rw[iQ hj];exact hc i hi
theorem CT.ow {c:CT} (ho:off+xs.length≤c.toList.length):∃c',c.write off xs=some c':=by
 cases c with
 |e9 ys=>exact⟨_,by simp only[CT.write];rw[Ub (show off+xs.length≤ys.length from ho)];rfl⟩
 |tree n z tr=>simp_all[CT.write,iY,CT.toList,cond_true]
theorem CT.sd {c:CT} (hc:c.full) (xs:List AV):(c.iM xs).full:=by
 cases c with
 |e9 ys=>exact CT.bC _
 |tree n z tr=>
  intro i hi;rw[ZO];by_cases hj:n≤i∧i<n+xs.length
  ·rw[iJ hj];exact⟨_,iW omQ⟩
  ·rw[iQ hj];exact hc i omQ
theorem CT.se {c:CT} (hc:c.full) (hn:n≤c.toList.length):∃c',c.pre n=some c'∧c'.toList=c.toList.take n∧c'.full:=by
 have key:∃c',c.pre n=some c'∧c'.full:=by
  cases c with
  |e9 ys=>exact⟨.e9 (ys.take n),by simp only[CT.pre];rw[kQ (show n≤ys.length from hn)];rfl,trivial⟩
  |tree m z tr=>
   have hm:n≤m:=by grind[CT.toList]
   exact⟨.tree n z tr,by simp_all[CT.pre,iY,cond_true],λi hi=>hc i omQ⟩
 obtain⟨c',h1,h2⟩:=key;have h3:=CT.n7 h1;grind[kQ,Option.some.inj]
def JZ (xs:List AV) (off:Nat) (ys:List AV):List AV:=xs.take off++ys++xs.drop (off+ys.length)
theorem Ks (ho:off+ys.length≤xs.length):(JZ xs off ys).length=xs.length:=by grind[JZ]
theorem qzh (ho:off+ys.length≤xs.length) (i:Nat):(JZ xs off ys)[i]? =if off≤i∧i<off+ys.length then ys[i-off]? else xs[i]?:=by
 unfold JZ;by_cases h1:i<off
 ·grind
 grind
theorem K8 {y:AV} (ho:off<xs.length):JZ xs off [y]=xs.set off y:=by
 apply List.ext_getElem?;intro i;rw[qzh (by grind),List.getElem?_set];grind
theorem U4 (A:Row h b xs e o) (ho:off+ys.length≤xs.length) (h1:jY ys=true):∃h',wW h b off ys=some h'∧Row h' b (JZ xs off ys) e o∧Fr (λa=>a=b) h h'∧h'.nx=h.nx:=by obtain⟨c,g1,rfl,g3⟩:=A.bp;obtain⟨c',bE⟩:=CT.ow (c:=c) ho;have h2:=CT.mR bE;rw[Ub ho]at h2;refine⟨h.put b (.cells c' e o),?_,⟨A.lt,c',AH.aV ..,(Option.some.inj h2).symm,CT.ou g3 bE⟩,⟨Nat.le_refl _,λa _ hn=>AH.bw h _ (λe=>hn e.symm)⟩,rfl⟩;simp_all[wW,cond_true,Option.bind_some]
theorem W2 (A:Row h b xs e o) (hn:x.cells.length=n) (ho:off+n≤xs.length) (h1:jY x.cells=true)
  (w:∀h',Row h' b (JZ xs off x.cells) e o→Fr (λa=>a=b) h h'→h'.nx=h.nx→wp (K1 h') Q):wp (zx h (.ptr b off) x n K1) Q:=by
 subst hn;obtain⟨h',g1,g2,g3,g4⟩:=U4 A ho h1;rw[UT];simp only[Nat.beq_refl,cond_true,g1,ob];exact w h' g2 g3 g4
theorem Row.new {c:CT} (hc:c.full):Row (h.new (.cells c e o)) h.nx c.toList e o∧Fr (λ_=>False) h (h.new (.cells c e o)) :=
 ⟨⟨by simp,c,AH.bB ..,rfl,hc⟩,⟨by simp,λb hb _=>AH.bS h _ omQ⟩⟩
theorem jX4 (h1:jY x.cells=true) (w:∀b h',h.nx≤b→Row h' b x.cells e false→Fr (λ_=>False) h h'→wp (K2 (.ptr b 0) h') Q):wp (kF h e x K2) Q:=by unfold kF;rw[h1,cond_true];obtain⟨a1,a2⟩:=Row.new (h:=h) (e:=e) (o:=false) (CT.bC x.cells);rw[CT.aL]at a1;exact w h.nx _ (Nat.le_refl _) a1 a2
theorem qR {z:List AV} {vs:List (Nat×Nat×AV)} (hf:vj z vs=some l) (w:wp (K (.agg l)) Q):wp (vn z vs K) Q:=by unfold vn;rw[hf];exact w
theorem qqS {z:List AV} {vs:List (Nat×Nat×AV)} (hf:vj (gC z n) vs=some l) (h1:jY l=true)
  (w:∀b h',h.nx≤b→Row h' b l e false→Fr (λ_=>False) h h'→wp (K2 (.slice b 0 n n false) h') Q):wp (vG h e z n vs K2) Q:=by
 unfold vG;simp only[hf,ob,h1,cond_true];obtain⟨a1,a2⟩:=Row.new (h:=h) (e:=e) (o:=false) (CT.bC l);rw[CT.aL]at a1;exact w h.nx _ (Nat.le_refl _) a1 a2
theorem W3 (z:AV):∀n,gC [z] n=List.replicate n z:=by
 intro n
 induction n with
 |zero=>rfl
 |succ n ih=>rw[gC,ih,List.replicate_succ];rfl
theorem W5 {z:List AV} {ln cp:Nat} {k1 k2:IntKind} (h1:ln≤cp) (h2:cp≤1073741824)
  (w:∀b h',h.nx≤b→Row h' b (gC z cp) e false→Fr (λ_=>False) h h'→wp (K2 (.slice b 0 ln cp false) h') Q):wp (Ja h e z (.int k1 (ln:Int)) (.int k2 (cp:Int)) K2) Q:=by
 show wp (bif Nat.ble ln cp&&Nat.ble cp 1073741824 then K2 (.slice h.nx 0 ln cp false) (h.new (.cells (CT.CH z cp) e false))else none) Q;rw[iY h1,iY h2];obtain⟨a1,a2⟩:=Row.new (h:=h) (e:=e) (o:=false) (CT.sc z cp);rw[CT.n6]at a1;exact w h.nx _ (Nat.le_refl _) a1 a2
theorem qu {f:Nat} (w:wp (K (.ptr b (off+f))) Q):wp (jG (.ptr b off) f K) Q:=w
theorem Xn {cp i:Nat} (hi:i<n) (w:wp (K (.ptr b (off+i*sz))) Q):wp (gT (.slice b off n cp o) (.int k (i:Int)) sz K) Q:=by rw[Vn];show wp (bif Nat.ble (i+1) n then K (.ptr b (off+i*sz))else none) Q;rw[iY hi,cond_true];exact w
theorem qD {i:Nat} (hx:l[i]? =some x) (w:wp (K x) Q):wp (yY (.bV l) i K) Q:=by rw[YZ];simp only[yR,hx,ob];exact w
def AH.rd (h:AH) (b:Nat):Prop:=match h.get b with
 |some (.cells _ _ _)=>True
 |some (.dq _)=>True
 |_=>False
theorem W6 {fp:Nat→Prop} (F:Fr fp h h') (hb:b<h.nx) (hf:¬fp b) (hr:h.rd b):h'.rd b:=by unfold AH.rd at*;rw[F.get b hb hf];grind
theorem Row.rd (A:Row h b xs e o):h.rd b:=by obtain⟨c,h1,_⟩:=A.bp;grind[AH.rd]
inductive Sl (D:Nat→Prop) (h:AH) (sz:Nat):Nat→AV→List AV→Prop
  |ak:Sl D h sz 0 .ak []
  |ch (a:Addr):Sl D h sz 0 (.ch a) []
  |tail (b off pb i1:Nat):Sl D h sz 0 (.tail b off pb i1) []
  |mk {b off n cp:Nat} {o:Bool} {xs:List AV} (hd:D b) (hb:b<h.nx) (hr:h.rd b) (hl:xs.length=n*sz) (ha:∀i,i<n*sz→h.at b (off+i)=xs[i]?):Sl D h sz n (.slice b off n cp o) xs
theorem Sl.len {D:Nat→Prop} (S:Sl D h sz n v xs):xs.length=n*sz:=by
 cases S with
 |ak=>simp
 |ch a=>simp
 |tail b o o' i=>simp
 |mk hd hb hr hl ha=>grind
theorem Sl.fr {D fp:Nat→Prop} (S:Sl D h sz n v xs) (F:Fr fp h h') (hD:∀b,D b→¬fp b):Sl D h' sz n v xs:=by
 cases S with
 |ak=>exact .ak
 |ch a=>exact .ch a
 |tail b o o' i=>exact .tail b o o' i
 |mk hd hb hr hl ha=>exact .mk hd (Nat.lt_of_lt_of_le hb F.nx) (W6 F hb (hD _ hd) hr) hl λi hi=>by grind[WZ]
theorem Sl.mono {D D':Nat→Prop} (S:Sl D h sz n v xs) (hD:∀b,D b→D' b):Sl D' h sz n v xs:=by
 cases S with
 |ak=>exact .ak
 |ch a=>exact .ch a
 |tail b o o' i=>exact .tail b o o' i
 |mk hd hb hr hl ha=>exact .mk (hD _ hd) hb hr hl ha
theorem Sl.cI {D:Nat→Prop} (S:Sl D h sz n v xs) (F:rb h.nx h h'):Sl D h' sz n v xs:=by
 cases S with
 |ak=>exact .ak
 |ch a=>exact .ch a
 |tail b o o' i=>exact .tail b o o' i
 |mk hd hb hr hl ha=>exact .mk hd (Nat.lt_of_lt_of_le hb F.nx) (W6 F hb omQ hr) hl λi hi=>by rw[WZ F hb omQ];grind
theorem Row.cI {N:Nat} (A:Row h b xs e o) (F:rb N h h') (hb:b<N):Row h' b xs e o:=A.fr F omQ
theorem vQ {D:Nat→Prop} (S:Sl D h sz n v xs) (w:wp (K (.int .i64 (n:Int))) Q):wp (Jx v K) Q:=by
 cases S<;>exact w
theorem PE {D:Nat→Prop} {i:Nat} (S:Sl D h sz n v xs) (hi:i<n) (w:∀b off,b<h.nx→D b→(∀j,j<sz→h.at b (off+j)=xs[i*sz+j]?)→wp (K (.ptr b off)) Q):wp (gT v (.int k (i:Int)) sz K) Q:=by
 cases S with
 |ak=>omega
 |ch a=>omega
 |tail b o o' i=>omega
 |mk hd hb hr hl ha=>
  refine Xn hi (w _ _ hb hd λj hj=>?_)
  rw[Nat.add_assoc,ha _ (by
   have:i*sz+sz≤n*sz:=by rw[← Nat.succ_mul];exact Nat.mul_le_mul_right sz hi
   omega)]
theorem Sl.uk {D:Nat→Prop} {cp:Nat} (A:Row h b xs e o) (hd:D b) (ho:xs.length=n*sz):Sl D h sz n (.slice b 0 n cp o) xs :=
 .mk hd A.lt A.rd ho λi _=>by rw[A.at,Nat.zero_add]
theorem gH {y d i:Nat} (hi:i≤y):vm (some (.int k (i:Int))) y d=some i:=by show(bif Nat.ble i y then some i else none)=some i;rw[iY hi];rfl
theorem PF {el cp lo hi:Nat} {E0 E3:Option AV} (hh:vm E3 cp n=some hi) (hl:vm E0 hi 0=some lo) (w:wp (K (.slice b (bif Nat.beq cp lo then off else off+lo*sz) (hi-lo) (cp-lo) false)) Q):wp (vW h el sz (.slice b off n cp false) E0 E3 K) Q:=by unfold vW;simp only[hh,hl,ob];exact w
theorem PG {i0 lo hi:Nat} {E0 E3:Option AV} (A:Row h b xs e true) (bF:0<sz) (ho:off=i0*sz) (hx:off+n*sz≤xs.length) (hh:vm E3 n n=some hi) (hl:vm E0 hi 0=some lo) (aw:lo<n∨lo=0)
  (w:wp (K (.slice b (off+lo*sz) (hi-lo) (i0+lo) true)) Q):wp (vW h e sz (.slice b off n i0 true) E0 E3 K) Q:=by
 obtain⟨c,g1,g2,g3⟩:=A.bp;unfold vW;have hf:ve h e b off sz i0 n=true:=by unfold ve;rw[g1];simp only[Nat.beq_refl,Bool.true_and,Bool.and_eq_true];refine⟨iY bF,by simp_all,iY ?_⟩;grind[CT.dN]
 simp only[hf,cond_true,hh,hl,ob];by_cases h0:lo=0
 ·subst h0;simpa using w
 ·rw[show Nat.beq lo 0=false from yi h0,cond_false,iY (show lo+1≤n by omega),cond_true];exact w
def shut:AV→Bool
 | .slice _ _ _ _ o=>!o
 | .tail _ _ _ _=>false
 |_=>true
theorem qwc {D:Nat→Prop} (S:Sl D h sz n v xs):Ju v=some n:=by cases S<;>rfl
theorem CT.BF {c:CT} {ys:List AV} (H:∀i,i<ys.length→c.fa i=ys[i]?):∃c',c.pre ys.length=some c'∧c'.toList=ys∧c'.full:=by
 by_cases h0:ys.length=0
 ·have:=iA h0;subst this;cases c with
  |e9 xs=>exact⟨.e9 [],rfl,rfl,trivial⟩
  |tree m z tr=>exact⟨.tree 0 z tr,by rfl,rfl,λi hi=>by omega⟩
 ·have cd:=H (ys.length-1) omQ;rw[iW omQ]at cd;cases c with
  |e9 xs=>simp only[CT.fa,yR]at H cd;have hl:=(List.getElem?_eq_some_iff.1 cd).1;refine⟨.e9 (xs.take ys.length),by simp only[CT.pre];rw[kQ omQ];rfl,?_,trivial⟩;have:=GF (xs:=xs) (l:=ys) (off:=0) (λi hi=>by grind);trivial
  |tree m z tr=>
   simp only[CT.fa]at H cd;have hm:ys.length≤m:=by
    grind[Nat.ble,wX]
   have ht:∀i,i<ys.length→JP z tr i=ys[i]?:=λi hi=>by
    grind
   refine⟨.tree ys.length z tr,by simp_all[CT.pre,iY,cond_true],?_,λi hi=>⟨_,(ht i hi).trans (iW hi)⟩⟩;apply List.ext_getElem?;intro i;simp only[CT.toList,List.getElem?_map];by_cases hi:i<ys.length
   all_goals simp_all[Option.map_some,Y8]
theorem qj5 {D:Nat→Prop} (S:Sl D h sz n v ys):∃nc,Ny h sz n v=some nc∧nc.toList=ys∧nc.full:=by
 cases S with
 |ak=>exact⟨_,rfl,rfl,trivial⟩
 |ch a=>exact⟨_,rfl,rfl,trivial⟩
 |tail b o o' i=>exact⟨_,rfl,rfl,trivial⟩
 |mk hd hb hr hl ha=>
  rename_i b off cp o;have nt:0<ys.length→vq h b off ys.length=some ys:=λh0=>Y5 h0 λi hi=>ha i omQ;unfold Ny;simp only[← hl];unfold AH.rd at hr;unfold AH.at at ha;unfold vq at nt
  split at hr
  ·rename_i c e' o' hg;simp only[hg]at ha nt ⊢;unfold CT.Hv;by_cases h0:off=0
   ·subst h0;rw[Nat.beq_refl,cond_true];obtain⟨c',h1,h2,h3⟩:=CT.BF (c:=c) (ys:=ys) λi hi=>by grind
    grind
   ·rw[show Nat.beq off 0=false from yi h0,cond_false];by_cases hy:0<ys.length
    ·rw[nt hy];exact⟨_,rfl,CT.aL ys,CT.bC ys⟩
    ·have:=iA (show ys.length=0 by omega);subst this;refine⟨CT.ofList [],?_,CT.aL [],CT.bC []⟩;cases c<;>rfl
  ·rename_i t hg;simp only[hg]at nt ⊢;by_cases hy:0<ys.length
   ·rw[nt hy];exact⟨_,rfl,CT.aL ys,CT.bC ys⟩
   ·have:=iA (show ys.length=0 by omega);subst this;exact⟨CT.ofList [],rfl,CT.aL [],CT.bC []⟩
  grind
def Acc (D:Nat→Prop) (h:AH) (e:TypeId) (sz n:Nat) (v:AV) (xs:List AV):Prop :=
 xs.length=n*sz∧(v=.ak∧n=0∨∃b,v=.slice b 0 n 0 true∧D b∧Row h b xs e true)
theorem Acc.ak {D:Nat→Prop}:Acc D h e sz 0 .ak []:=⟨by simp,.inl ⟨rfl,rfl⟩⟩
theorem Acc.sl {D:Nat→Prop} (A:Acc D h e sz n v xs):Sl D h sz n v xs:=by
 obtain⟨h1,⟨rfl,rfl⟩ |⟨b,rfl,h2,h3⟩⟩:=A
 ·obtain rfl:xs=[]:=iA (by grind);exact .ak
 ·exact .uk h3 h2 h1
theorem Acc.fr {D fp:Nat→Prop} (A:Acc D h e sz n v xs) (F:Fr fp h h') (hD:∀b,D b→¬fp b):Acc D h' e sz n v xs:=by
 obtain⟨h1,h2 |⟨b,rfl,h2,h3⟩⟩:=A
 ·exact⟨h1,.inl h2⟩
 ·exact⟨h1,.inr ⟨b,rfl,h2,h3.fr F (hD b h2)⟩⟩
theorem Acc.mono {D D':Nat→Prop} (A:Acc D h e sz n v xs) (hD:∀b,D b→D' b):Acc D' h e sz n v xs:=by
 obtain⟨h1,h2 |⟨b,rfl,h2,h3⟩⟩:=A
 ·exact⟨h1,.inl h2⟩
 ·exact⟨h1,.inr ⟨b,rfl,hD b h2,h3⟩⟩
end Go.Ae
namespace Go.Ae
open Go
variable {h:AH} {n sz:Nat} {xs:List AV}
theorem qK {b o:Nat} {K:AV→R} {Q:AV→AH→Prop} (w:wp (K (.ptr b o)) Q):wp (yF (.ptr b o) K) Q:=w
theorem zj {D:Nat→Prop} {v x:AV} {i:Nat} {k:IntKind} {K:AV→R} {Q:AV→AH→Prop} (S:Sl D h 1 n v xs) (hx:xs[i]? =some x) (w:wp (K x) Q):wp (gT v (.int k (i:Int)) 1 λp=>ja h p K) Q:=by
 have hi:i<n:=by have:=(List.getElem?_eq_some_iff.1 hx).1;have:=S.len;omega
 refine PE S hi λb off _ _ H=>JV ?_ w;grind
theorem vF {D:Nat→Prop} {v x:AV} {i f:Nat} {k:IntKind} {K:AV→R} {Q:AV→AH→Prop} (S:Sl D h sz n v xs) (hf:f<sz) (hi:i<n) (hx:xs[i*sz+f]? =some x) (w:wp (K x) Q):wp (gT v (.int k (i:Int)) sz λp=>jG p f λq=>ja h q K) Q:=by refine PE S hi λb off _ _ H=>qu (JV ?_ w);grind
theorem xV {D:Nat→Prop} {v:AV} {i:Nat} {l:List AV} {k:IntKind} {K:AV→R} {Q:AV→AH→Prop} (S:Sl D h sz n v xs) (hi:i<n) (h0:0<sz) (hl:(xs.drop (i*sz)).take sz=l) (w:wp (K (.agg l)) Q):wp (gT v (.int k (i:Int)) sz λp=>xH h p sz K) Q:=by
 have hle:i*sz+sz≤n*sz:=by rw[← Nat.succ_mul];exact Nat.mul_le_mul_right sz hi
 have tZ:=S.len;refine PE S hi λb off _ _ H=>WY (l:=l) (by grind) h0 (λj hj=>?_) w;grind
theorem qxa (a:Int):mG a a=true:=by simp[M2]
theorem qwA (a:List UInt8):iu a a=true:=by simp[fF]
mutual
theorem Qu:∀v:AV,gE v v=true
 | .bool b=>by simp[gE]
 | .int k n=>by simp[gE,qxa]
 | .str s=>by simp[gE,qwA]
 | .ptr b o=>by simp[gE,Nat.beq_refl]
 | .aU=>rfl
 | .slice b o l c p=>by simp[gE,Nat.beq_refl]
 | .ak=>rfl
 | .fn f a c=>by simp[gE,Nat.beq_refl,Q8 a,Q8 c]
 | .yield l=>by simp[gE,Nat.beq_refl]
 | .dY=>rfl
 | .iface t v=>by simp[gE,Nat.beq_refl,Qu v]
 | .dl=>rfl
 | .agg l=>by simp[gE,Q8 l]
 | .bV l=>by simp[gE,Q8 l]
 | .ch a=>by simp[gE]
 | .dp _=>by simp[gE]
 | .tail b o o' i=>by simp[gE,Nat.beq_refl]
theorem Q8:∀l:List AV,Kb l l=true
 |[]=>rfl
 |a::r=>by simp[Kb,Qu a,Q8 r]
end
theorem W7 {b off:Nat} {x:AV} (hx:h.at b off=some x):xU (.ptr b off) none x h=true:=by
 grind[AH.at,xU,Qu]
theorem W8 {b off n:Nat} {l:List AV} (hl:l.length=n) (h0:0<n) (H:∀i,i<n→h.at b (off+i)=l[i]?):xU (.ptr b off) (some n) (.agg l) h=true:=by
 subst hl;have:=Y5 h0 H;grind[vq,xU,Qu]
theorem PH {hb ha:AH} {b off nx:Nat} {x:AV} {K:R} {Q:AV→AH→Prop} (h1:hb.at b off=some x) (h2:ha.at b off=some x) (aw:b<nx) (w:wp K Q):wp (Kh (.ptr b off) none x hb ha nx K) Q:=by unfold Kh tp;dsimp only;rw[W7 h1,W7 h2,show Lm (.ptr b off) nx=true from iY aw];exact w
theorem qy4 {hb ha:AH} {b off n nx:Nat} {l:List AV} {K:R} {Q:AV→AH→Prop} (hl:l.length=n) (h0:0<n) (h1:∀i,i<n→hb.at b (off+i)=l[i]?) (h2:∀i,i<n→ha.at b (off+i)=l[i]?) (aw:b<nx) (w:wp K Q) :
  wp (Kh (.ptr b off) (some n) (.agg l) hb ha nx K) Q:=by
 unfold Kh tp;dsimp only;rw[W8 hl h0 h1,W8 hl h0 h2,show Lm (.ptr b off) nx=true from iY aw];exact w
def E4 (v:AV) (n:Nat):Prop:=Ju v=some n∧∀s,v≠.str s
theorem Sl.ul {D:Nat→Prop} {v:AV} (S:Sl D h sz n v xs):E4 v n:=by cases S<;>exact⟨rfl,λs hs=>by grind⟩
theorem vX {v:AV} {K:AV→R} {Q:AV→AH→Prop} (H:E4 v n) (w:wp (K (.int .i64 (n:Int))) Q):wp (Jx v K) Q:=by obtain⟨h1,h2⟩:=H;cases v<;>simp only[Ju,reduceCtorEq,Option.some.injEq]at h1<;>subst h1<;>first |exact w |exact absurd rfl (h2 _)
theorem KM {α:Type} (enc:α→List AV) (he:∀a,(enc a).length=sz):∀l:List α,(l.flatMap enc).length=l.length*sz:=by
 intro l
 induction l with
 |nil=>simp
 |cons a l ih=>grind
theorem Yl {α:Type} (enc:α→List AV) (he:∀a,(enc a).length=sz):∀(l:List α) (i:Nat),(l.flatMap enc).drop (i*sz)=(l.drop i).flatMap enc:=by
 intro l
 induction l with
 |nil=>simp
 |cons a l ih=>
  intro i;cases i with
  |zero=>simp
  |succ i=>
   rw[List.flatMap_cons,List.drop_succ_cons,← ih i,Nat.add_mul,Nat.one_mul,Nat.add_comm,← List.drop_drop]
   grind
theorem YN {α:Type} (enc:α→List AV) (he:∀a,(enc a).length=sz) (l:List α) (i j:Nat) (hj:j<sz):(l.flatMap enc)[i*sz+j]? =(l[i]?).bind λa=>(enc a)[j]?:=by
 rw[← List.getElem?_drop,Yl enc he];cases hl:l[i]? with
 |none=>grind[List.drop_eq_nil_of_le,List.getElem?_eq_none_iff]
 |some a=>obtain⟨hi,e⟩:=List.getElem?_eq_some_iff.1 hl;simp_all[List.drop_eq_getElem_cons,List.flatMap_cons,List.getElem?_append_left]
theorem W9 {α:Type} {Pr:α→Prop} (enc:α→List AV):∀{n:Nat} {xs:List AV},xs.length=n*sz→(∀i,i<n→∃a,Pr a∧(xs.drop (i*sz)).take sz=enc a)→
  ∃l:List α,l.length=n∧(∀a∈l,Pr a)∧xs=l.flatMap enc:=by
 intro n
 induction n with
 |zero=>simp
 |succ n ih=>
  intro xs hl H;obtain⟨a,ha,e⟩:=H 0 omQ;rw[Nat.zero_mul,List.drop_zero]at e;rw[Nat.add_mul,Nat.one_mul]at hl
  obtain⟨l,h1,h2,h3⟩:=ih (xs:=xs.drop sz) (by grind) (λi hi=>by
   obtain⟨b,hb,e⟩:=H (i+1) omQ;refine⟨b,hb,?_⟩
   rw[List.drop_drop,← e,Nat.add_mul,Nat.one_mul,Nat.add_comm])
  refine⟨a::l,by grind,λb hb=>?_,?_⟩
  ·grind
  ·rw[List.flatMap_cons,← e,← h3,List.take_append_drop]
theorem qJP {P:Program} {d:Nat} {t e:TypeId} {v:AV} (hu:P.underlying t=some (.slice e)) (hs:P.cellsOf e=sz) (bF:0<sz) (H:WT P h (d+1) t [v]) :
  ∃n xs,Sl (λb=>b<h.nx) h sz n v xs∧n≤maxLen∧∀i,i<n→WT P h d e ((xs.drop (i*sz)).take sz):=by
 unfold WT at H;simp only[hu]at H;rcases H with h1 |⟨a,h1⟩ |h1 |⟨b,off,len,cap,h1,h2,h3,h4,⟨tt,h5⟩,h6⟩
 ·cases h1;exact⟨0,[],.ak,Nat.zero_le _,λi hi=>by omega⟩
 ·cases h1;exact⟨0,[],.ch a,Nat.zero_le _,λi hi=>by omega⟩
 ·omega
 ·cases h1;rw[hs]at h6;have key:∀k,k<len*sz→∃u,h.at b (off+k)=some u:=by
   intro k hk;have hm:=Nat.mod_lt k bF;obtain⟨row,r1,r2,_⟩:=h6 (k/sz) ((Nat.div_lt_iff_lt_mul bF).2 hk);have:=r2 (k%sz) hm;rw[iW omQ,Nat.add_assoc,Nat.mul_comm,Nat.div_add_mod]at this;grind
  refine⟨len,(List.range (len*sz)).map λk=>(h.at b (off+k)).getD .undef,.mk h4 h4 (by grind[AH.rd]) aS ?_,by omega,?_⟩
  ·grind
  ·intro i hi;obtain⟨row,r1,r2,r3⟩:=h6 i hi;have hle:i*sz+sz≤len*sz:=by rw[← Nat.succ_mul];exact Nat.mul_le_mul_right sz hi
   have:(((List.range (len*sz)).map λk=>(h.at b (off+k)).getD .undef).drop (i*sz)).take sz=row:=by
    apply List.ext_getElem?;intro j;by_cases hj:j<sz
    ·rw[List.getElem?_take_of_lt hj,List.getElem?_drop,List.getElem?_map,List.getElem?_range omQ,Option.map_some,← Nat.add_assoc,r2 j hj,iW omQ];rfl
    grind
   grind
theorem qyT {P:Program} {d:Nat} {t e:TypeId} {v:AV} {k:IntKind} (hu:P.underlying t=some (.slice e)) (he:P.underlying e=some (.int k)) (hs:P.cellsOf e=1) (H:WT P h (d+2) t [v]) :
  ∃zs:List Int,Sl (λb=>b<h.nx) h 1 zs.length v (zs.map (.int k))∧∀z∈zs,k.min≤z∧z≤k.max:=by
 obtain⟨n,xs,S,_,H⟩:=qJP hu hs omQ H
 obtain⟨zs,h1,h2,h3⟩:=W9 (α:=Int) (Pr:=λz=>k.min≤z∧z≤k.max) (λz=>[.int k z]) S.len (λi hi=>by
  grind[WT])
 refine⟨zs,?_,h2⟩;rw[h1];have:xs=zs.map (.int k):=by rw[h3];clear h1 h2 h3 S;induction zs with |nil=>rfl |cons a l ih=>grind
 grind
end Go.Ae
namespace Go.Ae
open Go
structure SP where
  p:(Nat→Prop)→AH→Prop
  loc:∀{D:Nat→Prop} {h h':AH},p D h→h.nx≤h'.nx→(∀b,D b→h'.get b=h.get b)→p D h'
def mL:List SP→(Nat→Prop)→AH→Prop
 |[],D,_=>∀b,¬D b
 |P::L,D,h=>∃D1 D2:Nat→Prop,(∀b,D b↔D1 b∨D2 b)∧(∀b,D1 b→¬D2 b)∧P.p D1 h∧mL L D2 h
theorem mL.loc {L:List SP}:∀{D:Nat→Prop} {h h':AH},mL L D h→h.nx≤h'.nx→(∀b,D b→h'.get b=h.get b)→mL L D h':=by
 induction L with
 |nil=>intro D h h' H _ _;exact H
 |cons P L ih=>intro D h h' ⟨D1,D2,e,d,p,r⟩ hn hg;exact⟨D1,D2,e,d,P.loc p hn λb hb=>hg b ((e b).2 (.inl hb)),ih r hn λb hb=>hg b ((e b).2 (.inr hb))⟩
structure HS (g h:AH) (L:List SP):Prop where
  cI:rb g.nx g h
  own:∃D:Nat→Prop,(∀b,D b→g.nx≤b∧b<h.nx)∧mL L D h
variable {g h h':AH} {P P':SP} {L R:List SP}
theorem HS.nx (H:HS g h L):g.nx≤h.nx:=H.cI.nx
theorem HS.act (H:HS g h (P::R)):∃D:Nat→Prop,P.p D h∧(∀b,D b→g.nx≤b∧b<h.nx)∧
  ∀(h':AH) (P':SP) (D':Nat→Prop),Fr D h h'→P'.p D' h'→(∀b,D' b→(D b∨h.nx≤b)∧b<h'.nx)→HS g h' (P'::R):=by
 obtain⟨ho,D0,hb,D1,D2,he,hd,p,r⟩:=H;refine⟨D1,p,λb h1=>hb b ((he b).2 (.inl h1)),λh' P' D' F p' hD'=>?_⟩;have hn:=ho.nx;refine⟨ho.step F λb h1=>(hb b ((he b).2 (.inl h1))).1,λb=>D' b∨D2 b,?_,D',D2,λb=>Iff.rfl,?_,p',?_⟩
 ·rintro b (h1 |h1)
  ·grind
  ·have:=hb b ((he b).2 (.inr h1));have h4:=F.nx;grind
 ·grind
 ·exact r.loc F.nx λb h2=>F.get b (hb b ((he b).2 (.inr h2))).2 λh1=>hd b h1 h2
inductive bi:List SP→SP→List SP→Prop
  |here {P:SP} {R:List SP}:bi (P::R) P R
  |there {Q P:SP} {L R:List SP} (s:bi L P R):bi (Q::L) P (Q::R)
theorem bi.Iz (s:bi L P R):∀{D:Nat→Prop} {h:AH},mL L D h→∃D1 D2:Nat→Prop,(∀b,D b↔D1 b∨D2 b)∧(∀b,D1 b→¬D2 b)∧P.p D1 h∧mL R D2 h:=by
 induction s with
 |here=>exact λH=>H
 |there s ih=>
  rintro D h ⟨D1,D2,e,d,q,r⟩;obtain⟨E1,E2,e',d',p,r'⟩:=ih r;refine⟨E1,λb=>D1 b∨E2 b,λb=>?_,λb h1 h2=>?_,p,D1,E2,λb=>Iff.rfl,λb h1 h2=>d b h1 ((e' b).2 (.inr h2)),q,r'⟩
  all_goals grind
theorem HS.aM (H:HS g h L) (s:bi L P R):HS g h (P::R):=⟨H.cI,H.own.imp λ_ h1=>⟨h1.1,s.Iz h1.2⟩⟩
theorem bi.gib (s:bi L P R):∀{D1 D2:Nat→Prop} {h:AH},(∀b,D1 b→¬D2 b)→P.p D1 h→mL R D2 h→mL L (λb=>D1 b∨D2 b) h:=by
 induction s with
 |here=>exact λ{D1 D2 h} d p r=>⟨D1,D2,λ_=>Iff.rfl,d,p,r⟩
 |there s ih=>
  rintro D1 D2 h d p ⟨E1,E2,e,d',q,r⟩;refine⟨E1,λb=>D1 b∨E2 b,λb=>?_,λb h1 h2=>?_,q,ih (λb h1 h2=>d b h1 ((e b).2 (.inr h2))) p r⟩
  all_goals grind
theorem HS.cF (s:bi L P R) (H:HS g h (P::R)):HS g h L:=by obtain⟨ho,D,hb,D1,D2,e,d,p,r⟩:=H;refine⟨ho,λb=>D1 b∨D2 b,λb h1=>hb b ((e b).2 h1),s.gib d p r⟩
theorem HS.drop (H:HS g h (P::R)):HS g h R:=by obtain⟨ho,D,hb,D1,D2,e,d,p,r⟩:=H;exact⟨ho,D2,λb h2=>hb b ((e b).2 (.inr h2)),r⟩
theorem bi.skip (A:List SP) (s:bi L P R):bi (A++L) P (A++R):=by
 induction A with
 |nil=>grind
 |cons Q A ih=>exact .there ih
theorem HS.back {A:List SP} (H:HS g h (P::(A++R))):HS g h (A++P::R):=HS.cF (bi.skip A .here) H
inductive Sub:List SP→List SP→Prop
  |refl {L:List SP}:Sub L L
  |cons {L L1 L':List SP} {P:SP} (s:bi L P L1) (t:Sub L1 L'):Sub L (P::L')
  |drop {Q:SP} {L L':List SP} (t:Sub L L'):Sub (Q::L) L'
theorem Sub.Iz {L L':List SP} (t:Sub L L'):∀{D:Nat→Prop} {h:AH},mL L D h→∃D':Nat→Prop,(∀b,D' b→D b)∧mL L' D' h:=by
 induction t with
 |refl=>grind
 |cons s t ih=>intro D h H;obtain⟨D1,D2,e,d,p,r⟩:=s.Iz H;obtain⟨D',h1,h2⟩:=ih r;exact⟨λb=>D1 b∨D' b,λb hb=>(e b).2 (hb.imp id (h1 b)),D1,D',λ_=>Iff.rfl,λb hb h3=>d b hb (h1 b h3),p,h2⟩
 |drop t ih=>intro D h ⟨D1,D2,e,d,p,r⟩;grind
theorem HS.sub {L L':List SP} (H:HS g h L) (t:Sub L L'):HS g h L':=by obtain⟨ho,D,hb,r⟩:=H;obtain⟨D',h1,h2⟩:=t.Iz r;exact⟨ho,D',λb h=>hb b (h1 b h),h2⟩
def IA:Nat→List SP→Option (SP×List SP)
 | 0,P::L=>some (P,L)
 |i+1,P::L=>match IA i L with
  |some x=>some (x.1,P::x.2)
  |none=>none
 |_,[]=>none
def C9:Nat→List SP→List SP
 | 0,L=>L
 |k+1,_::L=>C9 k L
 |_+1,[]=>[]
def IB:List Nat→Nat→List SP→List SP
 |[],k,L=>C9 k L
 |i::is,k,L=>match IA i L with
  |some x=>x.1::IB is k x.2
  |none=>L
theorem jKC:∀{i:Nat} {L:List SP} {x:SP×List SP},IA i L=some x→bi L x.1 x.2:=by
 intro i
 induction i with
 |zero=>
  intro L x h;cases L with
  |nil=>cases h
  |cons P L=>cases h;exact .here
 |succ i ih=>
  intro L x h;cases L with
  |nil=>cases h
  |cons P L=>
   unfold IA at h
   split at h
   ·rename_i y hy;cases h;exact .there (ih hy)
   grind
theorem Sub.C9:∀(k:Nat) (L:List SP),Sub L (C9 k L)
 | 0,_=>.refl
 |k+1,_::L=>.drop (Sub.C9 k L)
 |_+1,[]=>.refl
theorem Sub.pk:∀(is:List Nat) (k:Nat) (L:List SP),Sub L (IB is k L)
 |[],k,L=>Sub.C9 k L
 |i::is,k,L=>by
  unfold IB
  split
  ·rename_i x hx;exact .cons (jKC hx) (Sub.pk is k x.2)
  ·exact .refl
theorem HS.pk {L:List SP} (H:HS g h L) (is:List Nat) (k:Nat):HS g h (IB is k L):=H.sub (Sub.pk is k L)
def SP.emp:SP:=⟨λD _=>∀b,¬D b,λH _ _=>H⟩
def SP.ic (φ:Prop):SP:=⟨λD _=>(∀b,¬D b)∧φ,λH _ _=>H⟩
def SP.ex {α:Type} (f:α→SP):SP:=⟨λD h=>∃a,(f a).p D h,λ⟨a,H⟩ h1 h2=>⟨a,(f a).loc H h1 h2⟩⟩
def SP.all (A:List SP):SP:=⟨mL A,λH h1 h2=>H.loc h1 h2⟩
theorem HS.put (H:HS g h R) (hp:P.p (λ_=>False) h):HS g h (P::R):=by obtain⟨ho,D,hb,r⟩:=H;exact⟨ho,D,hb,λ_=>False,D,λb=>⟨.inr,λh=>h.elim False.elim id⟩,λ_ h=>h.elim,hp,r⟩
theorem HS.eU {α:Type} {f:α→SP} (H:HS g h (.ex f::R)):∃a,HS g h (f a::R):=by obtain⟨ho,D,hb,D1,D2,e,d,⟨a,p⟩,r⟩:=H;exact⟨a,ho,D,hb,D1,D2,e,d,p,r⟩
theorem HS.fB {α:Type} {f:α→SP} (a:α) (H:HS g h (f a::R)):HS g h (.ex f::R):=by obtain⟨ho,D,hb,D1,D2,e,d,p,r⟩:=H;exact⟨ho,D,hb,D1,D2,e,d,⟨a,p⟩,r⟩
theorem HS.fi {φ:Prop} (H:HS g h (.ic φ::R)):φ∧HS g h R:=by refine⟨?_,H.drop⟩;obtain⟨ho,D,hb,D1,D2,e,d,p,r⟩:=H;exact p.2
theorem HS.fO {φ:Prop} (hφ:φ) (H:HS g h R):HS g h (.ic φ::R):=H.put ⟨λ_ h=>h,hφ⟩
theorem jXF {A:List SP}:∀{D1 D2:Nat→Prop} {h:AH},(∀b,D1 b→¬D2 b)→mL A D1 h→mL R D2 h→mL (A++R) (λb=>D1 b∨D2 b) h:=by
 induction A with
 |nil=>intro D1 D2 h _ H1 H2;rw[List.nil_append,show(λb=>D1 b∨D2 b)=D2 from funext λb=>propext ⟨λh=>h.elim (λh=>(H1 b h).elim) id,.inr⟩];grind
 |cons P A ih=>
  rintro D1 D2 h hd ⟨E1,E2,e,d,p,r⟩ H2;refine⟨E1,λb=>E2 b∨D2 b,λb=>?_,λb h1 h2=>?_,p,ih (λb h1=>hd b ((e b).2 (.inr h1))) r H2⟩
  all_goals grind
theorem jQR {A:List SP}:∀{D:Nat→Prop} {h:AH},mL (A++R) D h→∃D1 D2:Nat→Prop,(∀b,D b↔D1 b∨D2 b)∧(∀b,D1 b→¬D2 b)∧mL A D1 h∧mL R D2 h:=by
 induction A with
 |nil=>intro D h H;exact⟨λ_=>False,D,λb=>⟨.inr,λh=>h.elim False.elim id⟩,λ_ h=>h.elim,λ_ h=>h,H⟩
 |cons P A ih=>
  rintro D h ⟨E1,E2,e,d,p,r⟩;obtain⟨F1,F2,f,d',r1,r2⟩:=ih r;refine⟨λb=>E1 b∨F1 b,F2,λb=>?_,λb h1 h2=>?_,⟨E1,F1,λb=>Iff.rfl,λb h1 h2=>d b h1 ((f b).2 (.inl h2)),p,r1⟩,r2⟩
  all_goals grind
theorem HS.cG {A:List SP} (H:HS g h (.all A::R)):HS g h (A++R):=by obtain⟨ho,D,hb,D1,D2,e,d,p,r⟩:=H;refine⟨ho,D,hb,?_⟩;rw[show D=(λb=>D1 b∨D2 b)from funext λb=>propext (e b)];exact jXF d p r
theorem HS.allI {A:List SP} (H:HS g h (A++R)):HS g h (.all A::R):=by obtain⟨ho,D,hb,r⟩:=H;exact⟨ho,D,hb,jQR r⟩
theorem HS.nil (g:AH):HS g g []:=⟨rb.refl _ _,λ_=>False,λ_ h=>h.elim,λ_ h=>h⟩
theorem HS.add {D':Nat→Prop} (H:HS g h R) (F:rb h.nx h h') (p:P.p D' h') (hD:∀b,D' b→h.nx≤b∧b<h'.nx):HS g h' (P::R):=by
 obtain⟨D,_,hb,k⟩:=(H.put (P:=.emp) λ_ h=>h).act;obtain⟨ho,D0,oL,r⟩:=H;have hn:=ho.nx;refine⟨⟨Nat.le_trans hn F.nx,λb h1 h2=>(F.get b omQ omQ).trans (ho.get b h1 h2)⟩,λb=>D' b∨D0 b,?_,D',D0,λb=>Iff.rfl,?_,p,r.loc F.nx λb h1=>F.get b (oL b h1).2 (by grind)⟩
 ·have:=F.nx;grind
 grind
theorem HS.keep (H:HS g h R) (F:rb h.nx h h'):HS g h' R:=(H.add (P:=.emp) (D':=λ_=>False) F (λ_ h=>h) λ_ h=>h.elim).drop
theorem Fr.none (F:Fr (λ_=>False) h h'):rb h.nx h h':=F.mono λ_ _ h=>h.elim
variable {b off n m sz:Nat} {xs ys l:List AV} {e:TypeId} {o:Bool} {x v:AV} {k:IntKind} {Q:AV→AH→Prop} {i:Nat}
def Cell (b:Nat) (xs:List AV) (e:TypeId) (o:Bool):SP:=⟨λD h=>(∀a,D a↔a=b)∧Row h b xs e o,λ{D h h'} H h1 h2=>⟨H.1,Nat.lt_of_lt_of_le H.2.lt h1,by rw[h2 b ((H.1 b).2 rfl)];exact H.2.bp⟩⟩
def qw (b:Nat) (xs:List AV):SP:=⟨λD h=>(∀a,D a↔a=b)∧∃e,Row h b xs e false,λ{D h h'} H h1 h2=>⟨H.1,H.2.imp λ_ A=>⟨Nat.lt_of_lt_of_le A.lt h1,by rw[h2 b ((H.1 b).2 rfl)];exact A.bp⟩⟩⟩
def Qd (b:Nat) (x:cV):SP:=⟨λD h=>(∀a,D a↔a=b)∧b<h.nx∧h.get b=some x,λ{D h h'} H h1 h2=>⟨H.1,by grind,by grind⟩⟩
def qB (e:TypeId) (sz n:Nat) (v:AV) (xs:List AV):SP :=
  ⟨λD h=>xs.length=n*sz∧((v=.ak∧n=0∧∀b,¬D b)∨∃b cp o ys,v=.slice b 0 n cp o∧(∀a,D a↔a=b)∧Row h b ys e o∧n*sz≤ys.length∧ys.take (n*sz)=xs∧(if o=true then cp=0 else ys.length=cp*sz∧n≤cp)),
   λ{D h h'} H h1 h2=>⟨H.1,H.2.imp id λ⟨b,cp,o,ys,q1,q2,q3,q4⟩=>⟨b,cp,o,ys,q1,q2,⟨Nat.lt_of_lt_of_le q3.lt h1,by rw[h2 b ((q2 b).2 rfl)];exact q3.bp⟩,q4⟩⟩⟩
theorem HS.p (H:HS g h L) (s:bi L P R):∃D,P.p D h:=by obtain⟨D,p,_⟩:=(H.aM s).act;grind
theorem HS.obj (H:HS g h L) (s:bi L (qw b xs) R):∃e,Row h b xs e false:=by obtain⟨D,_,p⟩:=H.p s;grind
theorem HS.sl (H:HS g h L) (s:bi L (qB e sz n v xs) R):Sl (λ_=>True) h sz n v xs:=by
 obtain⟨D,h1,⟨rfl,rfl,_⟩ |⟨b,cp,o,ys,rfl,_,A,h2,h3,_⟩⟩:=H.p s
 ·obtain rfl:xs=[]:=iA (by grind);exact .ak
 ·exact .mk trivial A.lt A.rd h1 λi hi=>by rw[A.at,Nat.zero_add,← h3,List.getElem?_take_of_lt hi]
theorem HS.dE (H:HS g h L) (s:bi L (qB e sz n v xs) R):xs.length=n*sz:=(H.sl s).len
def One (v:AV):Prop:=v.cells=[v]∧v.one=true
theorem HS.one (H:HS g h L) (s:bi L (qB e sz n v xs) R):One v:=by obtain⟨D,h1,⟨rfl,rfl,_⟩ |⟨b,cp,o,ys,rfl,_⟩⟩:=H.p s<;>exact⟨rfl,rfl⟩
variable {K:AV→Go.Ae.R} {K2:AV→AH→Go.Ae.R} {K1:AH→Go.Ae.R}
theorem qZ (H:HS g h L) (s:bi L (qw b xs) R) (hx:xs[off]? =some x) (w:wp (K x) Q):wp (ja h (.ptr b off) K) Q:=by obtain⟨e,A⟩:=H.obj s;exact JV ((A.at _).trans hx) w
theorem HS.lt (H:HS g h L) (s:bi L (qw b xs) R):b<h.nx:=by obtain⟨e,A⟩:=H.obj s;exact A.lt
theorem qh {g' ha:AH} {L2 R2:List SP} {nx:Nat} {K0:Go.Ae.R} (H:HS g h L) (s:bi L (qw b xs) R) (hx:xs[off]? =some x) (H2:HS g' ha L2) (s2:bi L2 (qw b ys) R2) (rf:ys[off]? =some x) (aw:b<nx) (w:wp K0 Q):wp (Kh (.ptr b off) none x h ha nx K0) Q:=by obtain⟨e,A⟩:=H.obj s;obtain⟨e2,A2⟩:=H2.obj s2;exact PH ((A.at _).trans hx) ((A2.at _).trans rf) aw w
theorem qF (H:HS g h L) (s:bi L (qw b xs) R) (hl:l.length=n) (hn:0<n) (hx:(xs.drop off).take n=l) (w:wp (K (.agg l)) Q):wp (xH h (.ptr b off) n K) Q:=by obtain⟨e,A⟩:=H.obj s;exact WY hl hn (λi hi=>by rw[A.at,← hx,List.getElem?_take_of_lt hi,List.getElem?_drop]) w
theorem qm (H:HS g h L) (s:bi L (qw b xs) R) (hc:x.cells.length=n) (ho:off+n≤xs.length) (h1:jY x.cells=true) (w:∀h',HS g h' (qw b (JZ xs off x.cells)::R)→wp (K1 h') Q):wp (zx h (.ptr b off) x n K1) Q:=by obtain⟨D,⟨hD,e,A⟩,hb,k⟩:=(H.aM s).act;refine W2 A hc ho h1 λh' A' F hx=>w h' (k h' _ D (F.mono λa _ ha=>(hD a).2 ha) ⟨hD,e,A'⟩ λa ha=>⟨.inl ha,?_⟩);grind
theorem qy (H:HS g h L) (s:bi L (qw b xs) R) (h1:One x) (ho:off<xs.length) (w:∀h',HS g h' (qw b (xs.set off x)::R)→wp (K1 h') Q):wp (zx h (.ptr b off) x 1 K1) Q:=by refine qm H s (by rw[h1.1];rfl) omQ (by rw[h1.1];simp[jY,h1.2]) λh' H'=>w h' ?_;rw[h1.1,K8 ho]at H';grind
theorem qQ {f:Nat} (w:wp (K (.ptr b f)) Q):wp (jG (.ptr b 0) f K) Q:=qu (by rw[Nat.zero_add];exact w)
theorem HS.mr (H:HS g h L) (x:cV):HS g (h.new x) (Qd h.nx x::L) :=
 H.add (D':=λa=>a=h.nx) ⟨by simp,λa _ h2=>AH.bS h _ omQ⟩ ⟨λa=>Iff.rfl,by simp,AH.bB ..⟩ (by simp)
theorem HS.lA {x y:cV} (H:HS g h L) (s:bi L (Qd b x) R):HS g (h.put b y) (Qd b y::R):=by obtain⟨D,⟨hD,hb,_⟩,eP,k⟩:=(H.aM s).act;exact k _ _ D ⟨Nat.le_refl _,λa _ hn=>AH.bw h _ λe=>hn ((hD a).2 e.symm)⟩ ⟨hD,hb,AH.aV ..⟩ λa ha=>⟨.inl ha,(eP a ha).2⟩
theorem HS.bp {x:cV} (H:HS g h L) (s:bi L (Qd b x) R):h.get b=some x:=by obtain⟨D,_,_,p⟩:=H.p s;grind
theorem qWS (H:HS g h L) (h1:jY x.cells=true) (w:∀b h',HS g h' (qw b x.cells::L)→wp (K2 (.ptr b 0) h') Q):wp (kF h e x K2) Q:=by refine jX4 h1 λb h' hb A F=>w b h' (H.add (D':=λa=>a=b) F.none ⟨λa=>Iff.rfl,e,A⟩ ?_);rintro a rfl;exact⟨hb,A.lt⟩
theorem qP (H:HS g h L) (h1:jY l=true) (w:∀b h',HS g h' (qw b l::L)→wp (K2 (.ptr b 0) h') Q):wp (kF h e (.agg l) K2) Q:=qWS (x:=.agg l) H h1 w
theorem Y1 (H:HS g h L) (h1:One x) (w:∀b h',HS g h' (qw b [x]::L)→wp (K2 (.ptr b 0) h') Q):wp (kF h e x K2) Q :=
 qWS H (by rw[h1.1];simp[jY,h1.2]) (by rw[h1.1];exact w)
theorem KI {z:List AV} {ln cp:Nat} {k1 k2:IntKind} (H:HS g h L) (hz:z.length=sz) (h1:ln≤cp) (h2:cp≤1073741824)
  (w:∀v h',HS g h' (qB e sz ln v ((gC z cp).take (ln*sz))::L)→wp (K2 v h') Q):wp (Ja h e z (.int k1 (ln:Int)) (.int k2 (cp:Int)) K2) Q:=by
 refine W5 h1 h2 λb h' hb A F=>w _ h' (H.add (D':=λa=>a=b) F.none ⟨?_,.inr ⟨b,cp,false,_,rfl,λa=>Iff.rfl,A,?_,rfl,?_⟩⟩ ?_)
 ·grind[Nat.mul_le_mul_right,List.length_take,QF]
 ·simp_all[QF,Nat.mul_le_mul_right]
 ·simp_all[aS,QF]
 ·rintro a rfl;exact⟨hb,A.lt⟩
theorem Xv {z:AV} {k1 k2:IntKind} (H:HS g h L) (h2:n≤1073741824)
  (w:∀v h',HS g h' (qB e 1 n v (List.replicate n z)::L)→wp (K2 v h') Q):wp (Ja h e [z] (.int k1 (n:Int)) (.int k2 (n:Int)) K2) Q:=by
 refine KI (sz:=1) H rfl (Nat.le_refl _) h2 λv h' H'=>w v h' ?_;simp_all[W3,Nat.mul_one,List.take_of_length_le,aS]
theorem qt {z:List AV} {vs:List (Nat×Nat×AV)} (H:HS g h L) (_:z.length=sz) (hl:l.length=n*sz) (hf:vj (gC z n) vs=some l) (h1:jY l=true)
  (w:∀v h',HS g h' (qB e sz n v l::L)→wp (K2 v h') Q):wp (vG h e z n vs K2) Q:=by
 refine qqS hf h1 λb h' hb A F=>w _ h' (H.add (D':=λa=>a=b) F.none ⟨hl,.inr ⟨b,n,false,_,rfl,λa=>Iff.rfl,A,by omega,by grind,?_⟩⟩ ?_)
 ·grind
 ·rintro a rfl;exact⟨hb,A.lt⟩
theorem HS.ak (H:HS g h L):HS g h (qB e sz 0 .ak []::L):=H.put ⟨by simp,.inl ⟨rfl,rfl,λ_ h=>h⟩⟩
theorem G9 (A:Row h b xs e o) (ho:off+n≤xs.length):vq h b off n=some ((xs.drop off).take n):=by
 by_cases h0:n=0
 ·subst h0;obtain⟨c,c1,c2,c3⟩:=A.bp;unfold vq;rw[c1,List.take_zero];cases c<;>rfl
 ·have hl:((xs.drop off).take n).length=n:=by grind
  have:=Y5 (h:=h) (b:=b) (off:=off) (l:=(xs.drop off).take n) omQ (λi hi=>by rw[A.at,List.getElem?_take_of_lt omQ,List.getElem?_drop])
  grind
theorem qqE (ho:off+ys.length≤xs.length):(JZ xs off ys).take (off+ys.length)=xs.take off++ys:=by
 unfold JZ;have:(xs.take off++ys).length=off+ys.length:=by grind
 grind
theorem zw {D':Nat→Prop} (H:HS g h (qB e sz n v xs::R)) (S:Sl D' h sz m x ys) (bF:0<sz) (E5:n+m≤67108864) (h1:jY ys=true)
  (w:∀v' h',HS g h' (qB e sz (n+m) v' (xs++ys)::R)→wp (K2 v' h') Q):wp (wY h e sz v x K2) Q:=by
 obtain⟨nc,g1,g2,g3⟩:=qj5 S;have lI:=S.len;unfold wY;simp only[qwc S,g1,ob];rw[CT.dN,g2,lI,Nat.beq_refl,cond_true];by_cases h0:m=0
 ·subst h0;obtain rfl:ys=[]:=iA (by grind);have wH:=w v h (by grind);obtain⟨D,⟨hl,⟨rfl,rfl,hD⟩ |⟨b,cp,o,zs,rfl,hD,A,q1,q2,q3⟩⟩,hb,k⟩:=H.act
  ·exact wH
  ·unfold vi;cases o with
   |false=>rw[iQ aS]at q3;simp only;rw[iY (show n+0≤cp from q3.2),cond_true,show Nat.beq 0 0=true from rfl,cond_true];exact wH
   |true=>
    rw[iJ rfl]at q3;subst q3;obtain⟨c,c1,c2,c3⟩:=A.bp;simp only[c1];have fz:c.len=zs.length:=by rw[CT.dN,c2]
    rw[fz];have mW:(Nat.ble 1 sz&&(Nat.beq 0 (0*sz)&&(Nat.beq e e&&Nat.ble (0+n*sz) zs.length)))=true:=by simp;omega
    rw[mW,cond_true,show Nat.beq 0 0=true from rfl,cond_true];exact wH
 ·have PJ:Nat.beq m 0=false:=yi h0;have hmul:(n+m)*sz=n*sz+m*sz:=Nat.add_mul ..;have hmp:0<m*sz:=Nat.mul_pos omQ bF;have hns:h.nx<(h.new (.cells nc e true)).nx:=by simp
  obtain⟨D,⟨hl,⟨rfl,rfl,hD⟩ |⟨b,cp,o,zs,rfl,hD,A,q1,q2,q3⟩⟩,hb,k⟩:=H.act
  ·obtain rfl:xs=[]:=iA (by grind);unfold vi;simp only;rw[PJ,cond_false,iY omQ,cond_true];obtain⟨b1,b2⟩:=Row.new (h:=h) (e:=e) (o:=true) g3;rw[g2]at b1;refine w _ _ (k _ _ (λa=>a=h.nx) (b2.mono λ_ _ hf=>hf.elim) ⟨by grind,.inr ⟨h.nx,0,true,ys,by simp,λ_=>Iff.rfl,b1,by omega,?_,by rfl⟩⟩ ?_)
   all_goals grind
  ·have Ak:=A.lt;have oU:∀AF,(n+m)*sz≤zs.length→(if o=true then AF=0 else zs.length=AF*sz∧n+m≤AF)→
     wp (ob (wW h b (0+n*sz) nc.toList) λh'=>K2 (.slice b 0 (n+m) AF o) h') Q:=by
    intro AF hz BH;obtain⟨h',f1,f2,f3,f4⟩:=U4 (ys:=nc.toList) (off:=0+n*sz) A (by grind) (by grind);simp only[f1,ob];rw[g2,Nat.zero_add]at f2;refine w _ _ (k h' _ D (f3.mono λa _ ha=>(hD a).2 ha) ⟨by grind,.inr ⟨b,AF,o,_,rfl,hD,f2,?_,?_,?_⟩⟩ λa ha=>⟨.inl ha,by grind⟩)
    ·rw[Ks omQ];grind
    ·rw[hmul,← lI,qqE omQ,q2]
    ·rw[Ks omQ];grind
   unfold vi;cases o with
   |false=>
    rw[iQ aS]at q3;simp only;by_cases hc:n+m≤cp
    ·rw[iY hc,cond_true,PJ,cond_false];exact oU cp (by grind[Nat.mul_le_mul_right]) (by grind)
    ·rw[show Nat.ble (n+m) cp=false by
      cases hb:Nat.ble (n+m) cp
      all_goals simp_all[wX],cond_false,iY E5,cond_true]
     rw[G9 A (show 0+n*sz≤zs.length by omega),List.drop_zero,q2];simp only[ob];have key:∀c:CT,c.toList=xs++ys→c.full→wp (K2 (.slice h.nx 0 (n+m) 0 true) (h.new (.cells c e true))) Q:=by
      intro c d1 d2;obtain⟨b1,b2⟩:=Row.new (h:=h) (e:=e) (o:=true) d2;rw[d1]at b1;refine w _ _ (k _ _ (λa=>a=h.nx) (b2.mono λ_ _ hf=>hf.elim) ⟨by grind,.inr ⟨h.nx,0,true,xs++ys,rfl,λ_=>Iff.rfl,b1,by grind,?_,by rfl⟩⟩ ?_)
      ·grind
      simp
     by_cases l5:n=0
     ·subst l5;rw[show Nat.beq 0 0=true from rfl,cond_true];obtain rfl:xs=[]:=iA (by grind);exact key nc (by grind) g3
     ·rw[show Nat.beq n 0=false from yi l5,cond_false];exact key _ (by rw[CT.aL,g2]) (CT.bC _)
   |true=>
    rw[iJ rfl]at q3;subst q3;obtain⟨c,c1,c2,c3⟩:=A.bp;simp only[c1];have fz:c.len=zs.length:=by rw[CT.dN,c2]
    rw[fz];have mW:(Nat.ble 1 sz&&(Nat.beq 0 (0*sz)&&(Nat.beq e e&&Nat.ble (0+n*sz) zs.length)))=true:=by simp;omega
    rw[mW,cond_true,PJ,cond_false];by_cases hc:0+(n+m)*sz≤zs.length
    ·rw[iY hc,cond_true];exact oU 0 omQ (by rfl)
    ·rw[show Nat.ble (0+(n+m)*sz) zs.length=false by
      grind[Nat.ble,absurd,wX],cond_false]
     have rN:(Nat.beq 0 0&&(Nat.ble (n+m) 67108864&&jY nc.toList))=true:=by simp_all
     rw[rN,cond_true];obtain⟨c',p1,p2,p3⟩:=CT.se (c:=c) c3 (n:=n*sz) (by grind);simp only[p1];have PK:(c'.iM nc.toList).toList=xs++ys:=by grind[CT.rD]
     refine w _ _ (k _ _ (λa=>a=h.nx) ⟨by simp,λa ha hn=>?_⟩ ⟨by grind,.inr ⟨(h.put b .dead).nx,0,true,xs++ys,rfl,λ_=>Iff.rfl,⟨by simp,c'.iM nc.toList,AH.bB (h.put b .dead) _,PK,CT.sd p3 _⟩,by grind,?_,by rfl⟩⟩ ?_)
     ·rw[AH.bS _ _ (by simp;omega),AH.bw h _ (λnu:b=a=>hn ((hD a).2 nu.symm))]
     ·grind
     simp
theorem HS.E6 (H:HS g h (qB e sz n v xs::R)) (hn:0<n):∃b cp o ys,v=.slice b 0 n cp o∧HS g h (Cell b ys e o::R)∧n*sz≤ys.length∧ys.take (n*sz)=xs∧(if o=true then cp=0 else ys.length=cp*sz∧n≤cp):=by
 obtain⟨D,⟨hl,⟨rfl,rfl,hD⟩ |⟨b,cp,o,zs,rfl,hD,A,q1,q2,q3⟩⟩,hb,k⟩:=H.act
 ·omega
 ·exact⟨b,cp,o,zs,rfl,k h _ D (Fr.refl _ _) ⟨hD,A⟩ λa ha=>⟨.inl ha,(hb a ha).2⟩,q1,q2,q3⟩
theorem HS.E7 {cp:Nat} (H:HS g h (Cell b ys e o::R)) (h1:n*sz≤ys.length) (h2:if o=true then cp=0 else ys.length=cp*sz∧n≤cp):HS g h (qB e sz n (.slice b 0 n cp o) (ys.take (n*sz))::R):=by obtain⟨D,⟨hD,A⟩,hb,k⟩:=H.act;exact k h _ D (Fr.refl _ _) ⟨by grind,.inr ⟨b,cp,o,ys,rfl,hD,A,h1,rfl,h2⟩⟩ λa ha=>⟨.inl ha,(hb a ha).2⟩
theorem qvE (H:HS g h (Cell b xs e o::R)) (hc:x.cells.length=n) (ho:off+n≤xs.length) (h1:jY x.cells=true) (w:∀h',HS g h' (Cell b (JZ xs off x.cells) e o::R)→wp (K1 h') Q):wp (zx h (.ptr b off) x n K1) Q:=by obtain⟨D,⟨hD,A⟩,hb,k⟩:=H.act;refine W2 A hc ho h1 λh' A' F hx=>w h' (k h' _ D (F.mono λa _ ha=>(hD a).2 ha) ⟨hD,A'⟩ λa ha=>⟨.inl ha,?_⟩);grind
theorem BI {j:Nat} (H:HS g h (qB e sz n v xs::R)) (hi:i<n) (hj:j+m≤sz) (hc:x.cells.length=m) (h1:jY x.cells=true) (w:∀h',HS g h' (qB e sz n v (JZ xs (i*sz+j) x.cells)::R)→wp (K1 h') Q) :
  ∃b cp o,v=.slice b 0 n cp o∧wp (zx h (.ptr b (0+i*sz+j)) x m K1) Q:=by
 obtain⟨b,cp,o,ys,rfl,H',q1,q2,q3⟩:=H.E6 omQ;have hle:i*sz+sz≤n*sz:=by rw[← Nat.succ_mul];exact Nat.mul_le_mul_right sz hi
 refine⟨b,cp,o,rfl,qvE H' hc omQ h1 λh' H''=>w h' ?_⟩;have:=H''.E7 (n:=n) (sz:=sz) (cp:=cp) (by rw[Ks omQ];grind) (by rw[Ks omQ];grind);have e1:(JZ ys (0+i*sz+j) x.cells).take (n*sz)=JZ xs (i*sz+j) x.cells:=by
  rw[← q2,Nat.zero_add];unfold JZ;rw[List.take_append,List.take_append,List.take_take,List.take_take,List.drop_take];have t1:min (n*sz) (i*sz+j)=min (i*sz+j) (n*sz):=Nat.min_comm ..;rw[t1,show(List.take (i*sz+j) ys).length=i*sz+j by grind];rw[List.take_of_length_le (show x.cells.length≤n*sz-(i*sz+j) by omega)];grind
 grind
theorem jVH {f:Nat} (H:HS g h (qB e sz n v xs::R)) (hi:i<n) (hf:f<sz) (h1:One x) (w:∀h',HS g h' (qB e sz n v (xs.set (i*sz+f) x)::R)→wp (K1 h') Q) :
  wp (gT v (.int k (i:Int)) sz λp=>jG p f λq=>zx h q x 1 K1) Q:=by
 have hl:=H.dE .here;have hle:i*sz+sz≤n*sz:=by rw[← Nat.succ_mul];exact Nat.mul_le_mul_right sz hi
 obtain⟨b,cp,o,rfl,w'⟩:=BI (x:=x) (m:=1) (j:=f) H hi omQ (by rw[h1.1];rfl) (by rw[h1.1];simp[jY,h1.2]) (λh' H'=>w h' (by rw[h1.1,K8 omQ]at H';grind));exact Xn hi (qu w')
theorem XL (H:HS g h (qB e 1 n v xs::R)) (hi:i<n) (h1:One x) (w:∀h',HS g h' (qB e 1 n v (xs.set i x)::R)→wp (K1 h') Q) :
  wp (gT v (.int k (i:Int)) 1 λp=>zx h p x 1 K1) Q:=by
 have hl:=H.dE .here;obtain⟨b,cp,o,rfl,w'⟩:=BI (x:=x) (m:=1) (j:=0) H hi omQ (by rw[h1.1];rfl) (by rw[h1.1];simp[jY,h1.2]) (λh' H'=>w h' (by rw[h1.1,K8 omQ,Nat.mul_one,Nat.add_zero]at H';grind));exact Xn hi w'
theorem PL (H:HS g h (qB e sz n v xs::R)) (hi:i<n) (hl:l.length=sz) (h1:jY l=true) (w:∀h',HS g h' (qB e sz n v (JZ xs (i*sz) l)::R)→wp (K1 h') Q) :
  wp (gT v (.int k (i:Int)) sz λp=>zx h p (.agg l) sz K1) Q:=by
 obtain⟨b,cp,o,rfl,w'⟩:=BI (x:=.agg l) (m:=sz) (j:=0) H hi omQ hl h1 (λh' H'=>w h' H');exact Xn hi w'
theorem Vg {hi:Nat} (H:HS g h (qB e sz n v xs::R)) (bF:0<sz) (hle:hi≤n) (w:∀v',HS g h (qB e sz hi v' (xs.take (hi*sz))::R)→wp (K v') Q):wp (vW h e sz v none (some (.int k (hi:Int))) K) Q:=by
  by_cases hn:n=0
  · subst hn;obtain rfl:hi=0:=by omega
    have hH:=H;obtain⟨D,⟨hl,⟨rfl,_,hD⟩ |⟨b,cp,o,zs,rfl,hD,A,q1,q2,q3⟩⟩,hb,k⟩:=H.act
    · exact w .ak (by grind)
    · cases o with
      |false=>
        rw[iQ aS]at q3;refine PF (hi:=0) (lo:=0) (gH (Nat.zero_le _)) rfl ?_
        have := w (.slice b 0 0 cp false) (by grind)
        have e0:(bif Nat.beq cp 0 then 0 else 0+0*sz)=0:=by simp
        rw[e0];exact this
      |true=>
        rw[iJ rfl]at q3;subst q3;refine PG (i0:=0) (hi:=0) (lo:=0) A bF omQ omQ (gH (Nat.zero_le _)) rfl (.inr rfl) ?_
        have := w (.slice b 0 0 0 true) (by grind)
        simpa using this
  · obtain⟨b,cp,o,zs,rfl,H',q1,q2,q3⟩:=H.E6 omQ;have PM:=Nat.mul_le_mul_right sz hle;have e1:zs.take (hi*sz)=xs.take (hi*sz):=by grind
    cases o with
    |false=>
      rw[iQ aS]at q3;refine PF (hi:=hi) (lo:=0) (gH omQ) rfl ?_;have:=w (.slice b 0 hi cp false) (by rw[← e1];exact H'.E7 omQ (by grind));have e0:(bif Nat.beq cp 0 then 0 else 0+0*sz)=0:=by simp
      rw[e0];exact this
    |true=>rw[iJ rfl]at q3;subst q3;obtain⟨D,_,A⟩:=H'.p .here;refine PG (i0:=0) (hi:=hi) (lo:=0) A bF omQ omQ (gH hle) rfl (.inr rfl) ?_;have:=w (.slice b 0 hi 0 true) (by rw[← e1];exact H'.E7 omQ (by rfl));simpa using this
theorem XP (H:HS g h L) (s:bi L (qB e sz n v xs) R) (h1:v=.ak→n=0→wp (K (.bool true)) Q) (h2:wp (K (.bool false)) Q):wp (nY .DE false v .ak K) Q:=by
 obtain⟨D,hl,⟨rfl,rfl,hD⟩ |⟨b,cp,o,zs,rfl,_⟩⟩:=H.p s
 ·exact h1 rfl rfl
 ·exact h2
theorem jQ (H:HS g h L) (s:bi L (qB e sz n v xs) R) (w:wp (K (.int .i64 (n:Int))) Q):wp (Jx v K) Q:=vQ (H.sl s) w
def Rd (g:AH) (R:List SP) (sz n:Nat) (v:AV) (xs:List AV):Prop:=∀h,HS g h R→Sl (λ_=>True) h sz n v xs
theorem Rd.sl (S:Rd g L sz n v xs) (H:HS g h L):Sl (λ_=>True) h sz n v xs:=S h H
theorem Rd.more (S:Rd g R sz n v xs):Rd g (P::R) sz n v xs:=λh H=>S h H.drop
theorem Rd.own (s:bi L (qB e sz n v xs) R):Rd g L sz n v xs:=λ_ H=>H.sl s
theorem HS.rd (_:HS g h L) (s:bi L (qB e sz n v xs) R):Rd g L sz n v xs:=.own s
theorem Rd.len (S:Rd g L sz n v xs) (H:HS g h L):xs.length=n*sz:=(S h H).len
variable {c d:Int}
theorem qk (hc:c=d) (w:wp (K (.bool true)) Q):wp (zB .eql (.int k c) (.int k d) K) Q:=YO (by rw[iG hc];exact w)
theorem qj (hc:¬c=d) (w:wp (K (.bool false)) Q):wp (zB .eql (.int k c) (.int k d) K) Q:=YO (by rw[iV hc];exact w)
theorem jH (hc:¬c=d) (w:wp (K (.bool true)) Q):wp (zB .neq (.int k c) (.int k d) K) Q:=Nz (by rw[iG hc];exact w)
theorem jI (hc:c=d) (w:wp (K (.bool false)) Q):wp (zB .neq (.int k c) (.int k d) K) Q:=Nz (by rw[iV (not_not_intro hc)];exact w)
theorem jt (hc:c<d) (w:wp (K (.bool true)) Q):wp (zB .lss (.int k c) (.int k d) K) Q:=XI (by rw[iG hc];exact w)
theorem jP (hc:¬c<d) (w:wp (K (.bool false)) Q):wp (zB .lss (.int k c) (.int k d) K) Q:=XI (by rw[iV hc];exact w)
theorem Jh (hc:c≤d) (w:wp (K (.bool true)) Q):wp (zB .leq (.int k c) (.int k d) K) Q:=ZT (by rw[iG hc];exact w)
theorem XR (hc:¬c≤d) (w:wp (K (.bool false)) Q):wp (zB .leq (.int k c) (.int k d) K) Q:=ZT (by rw[iV hc];exact w)
theorem vr (hc:d<c) (w:wp (K (.bool true)) Q):wp (zB .gtr (.int k c) (.int k d) K) Q:=Ix (by rw[iG hc];exact w)
theorem vE (hc:¬d<c) (w:wp (K (.bool false)) Q):wp (zB .gtr (.int k c) (.int k d) K) Q:=Ix (by rw[iV hc];exact w)
theorem z7 (hc:d≤c) (w:wp (K (.bool true)) Q):wp (zB .geq (.int k c) (.int k d) K) Q:=PB (by rw[iG hc];exact w)
theorem zn (hc:¬d≤c) (w:wp (K (.bool false)) Q):wp (zB .geq (.int k c) (.int k d) K) Q:=PB (by rw[iV hc];exact w)
theorem qZ7 {tab:BT} {rt:List RT} {N l:Nat} {as:List AV} {cj:Option AX} {f:Nat} {pos Ls:List Nat} {vs:List AV} {d:Nat} {w:VF} (hb:h.get l=some (.loop .ready cj f pos Ls vs d)) (hr:Gm rt f pos Ls=some w) (hn:1≤N)
  (W:∀k,N=k+1→wp (w (callT tab rt k) l vs as h) Q):wp (callT tab rt N (.yield l) as h) Q:=by
 obtain⟨k,rfl⟩:∃k,N=k+1:=⟨N-1,by omega⟩
 show wp (match h.get l with
   |some (.loop .ready _ f pos L vs _)=>(match Gm rt f pos L with |some g=>g (callT tab rt k) l vs as h |none=>none)
   |_=>none) Q
 rw[hb];simp only[hr];exact W k rfl
theorem qZT {l:Nat} {cj:Option AX} {f:Nat} {pos Ls:List Nat} {vs:List AV} {d:Nat} (H:HS g h L) (s:bi L (Qd l (.loop .ready cj f pos Ls vs d)) R) (w:∀h',HS g h' (Qd l (.loop .busy cj f pos Ls vs d)::R)→wp (K1 h') Q):wp (YD h l K1) Q:=by unfold YD;rw[H.bp s];exact w _ (H.lA s)
theorem qWn {l:Nat} {st:LoopState} {cj:Option AX} {f:Nat} {pos Ls:List Nat} {vs:List AV} {d:Nat} (H:HS g h L) (s:bi L (Qd l (.loop st cj f pos Ls vs d)) R) (w:∀h',HS g h' (Qd l (.loop .ready none f pos Ls vs d)::R)→Q (.bool true) h'):wp (yI h l none) Q:=by unfold yI;rw[H.bp s];exact⟨_,_,rfl,w _ (H.lA s)⟩
theorem jZc {l:Nat} {j:AX} {st:LoopState} {cj:Option AX} {f:Nat} {pos Ls:List Nat} {vs:List AV} {d:Nat} (H:HS g h L) (s:bi L (Qd l (.loop st cj f pos Ls vs d)) R) (w:∀h',HS g h' (Qd l (.loop .done (some j) f pos Ls vs d)::R)→Q (.bool false) h'):wp (yI h l (some j)) Q:=by unfold yI;rw[H.bp s];exact⟨_,_,rfl,w _ (H.lA s)⟩
theorem PN {l:Nat} {K':Option AX→AH→Go.Ae.R} {st:LoopState} {cj:Option AX} {f:Nat} {pos Ls:List Nat} {vs:List AV} {d:Nat} (H:HS g h L) (s:bi L (Qd l (.loop st cj f pos Ls vs d)) R) (bZ:st≠.busy) (w:∀h',HS g h' (Qd l (.loop .exhausted cj f pos Ls vs d)::R)→wp (K' cj h') Q):wp (wQ h l K') Q:=by
 unfold wQ;rw[H.bp s];cases st with
 |busy=>exact absurd rfl bZ
 |_=>exact w _ (H.lA s)
theorem Uy {d:Nat} (H:HS g h L) (s:bi L (Qd d .lH) R) (w:∀h',HS g h' (Qd d .pd::R)→wp (K1 h') Q):wp (xL [d] h K1) Q:=by unfold xL;rw[H.bp s];unfold xL;exact w _ (H.lA s)
theorem qZP {a b:Go.Ae.R} (w:wp a Q):wp (GN none a b) Q:=w
theorem qg9 {p:AX} {a b:Go.Ae.R} (w:wp b Q):wp (GN (some p) a b) Q:=w
theorem jK3 {x:AX} {a b:Go.Ae.R} (hx:CK x x=true) (w:wp a Q):wp (CM (some x) x a b) Q:=by show wp (bif CK x x then a else b) Q;rw[hx];exact w
theorem qXE {c:CV} {f:FuncId} {a1 a2 as:List AV} {Q':AV→AH→Prop} (w:wp (c (.fn f a1 a2) as h) Q') (hk:∀v h',Q' v h'→wp (K2 v h') Q):wp (YT c (.fn f a1 a2) as h K2) Q:=qG w hk
theorem HS.fits (H:HS g h L) (s:bi L (qB e sz n v xs) R) (bF:0<sz) (h1:sz<65536) {N:Nat} (hN:N=e*65536+sz) {u:AV}:xU v (some N) u h=true:=by
 obtain⟨D,hl,⟨rfl,rfl,hD⟩ |⟨b,cp,o,zs,rfl,hD,A,q1,q2,q3⟩⟩:=H.p s
 ·rfl
 ·cases o with
  |false=>rfl
  |true=>
   rw[iJ rfl]at q3;subst q3;obtain⟨c,c1,c2,c3⟩:=A.bp;show ve h (N/65536) b 0 (N%65536) 0 n=true;rw[hN,(Zo e sz h1).1,(Zo e sz h1).2];unfold ve;rw[c1];simp only[Bool.and_eq_true];have fz:c.len=zs.length:=by rw[CT.dN,c2]
   simp;omega
end Go.Ae
namespace Go.Ae
theorem e_1 {a0 P:SP} {R:List SP}:bi (a0::P::R) P (a0::R):=.there .here
theorem e_2 {a0 a1 P:SP} {R:List SP}:bi (a0::a1::P::R) P (a0::a1::R):=.there e_1
theorem e_3 {a0 a1 a2 P:SP} {R:List SP}:bi (a0::a1::a2::P::R) P (a0::a1::a2::R):=.there e_2
theorem e_4 {a0 a1 a2 a3 P:SP} {R:List SP}:bi (a0::a1::a2::a3::P::R) P (a0::a1::a2::a3::R):=.there e_3
theorem e_5 {a0 a1 a2 a3 a4 P:SP} {R:List SP}:bi (a0::a1::a2::a3::a4::P::R) P (a0::a1::a2::a3::a4::R):=.there e_4
theorem e_6 {a0 a1 a2 a3 a4 a5 P:SP} {R:List SP}:bi (a0::a1::a2::a3::a4::a5::P::R) P (a0::a1::a2::a3::a4::a5::R):=.there e_5
theorem e_7 {a0 a1 a2 a3 a4 a5 a6 P:SP} {R:List SP}:bi (a0::a1::a2::a3::a4::a5::a6::P::R) P (a0::a1::a2::a3::a4::a5::a6::R):=.there e_6
theorem e_8 {a0 a1 a2 a3 a4 a5 a6 a7 P:SP} {R:List SP}:bi (a0::a1::a2::a3::a4::a5::a6::a7::P::R) P (a0::a1::a2::a3::a4::a5::a6::a7::R):=.there e_7
theorem e_9 {a0 a1 a2 a3 a4 a5 a6 a7 a8 P:SP} {R:List SP}:bi (a0::a1::a2::a3::a4::a5::a6::a7::a8::P::R) P (a0::a1::a2::a3::a4::a5::a6::a7::a8::R):=.there e_8
theorem e_10 {a0 a1 a2 a3 a4 a5 a6 a7 a8 a9 P:SP} {R:List SP}:bi (a0::a1::a2::a3::a4::a5::a6::a7::a8::a9::P::R) P (a0::a1::a2::a3::a4::a5::a6::a7::a8::a9::R):=.there e_9
theorem e_11 {a0 a1 a2 a3 a4 a5 a6 a7 a8 a9 dW P:SP} {R:List SP}:bi (a0::a1::a2::a3::a4::a5::a6::a7::a8::a9::dW::P::R) P (a0::a1::a2::a3::a4::a5::a6::a7::a8::a9::dW::R):=.there e_10
theorem e_12 {a0 a1 a2 a3 a4 a5 a6 a7 a8 a9 dW eo P:SP} {R:List SP}:bi (a0::a1::a2::a3::a4::a5::a6::a7::a8::a9::dW::eo::P::R) P (a0::a1::a2::a3::a4::a5::a6::a7::a8::a9::dW::eo::R):=.there e_11
theorem e_13 {a0 a1 a2 a3 a4 a5 a6 a7 a8 a9 dW eo a12 P:SP} {R:List SP}:bi (a0::a1::a2::a3::a4::a5::a6::a7::a8::a9::dW::eo::a12::P::R) P (a0::a1::a2::a3::a4::a5::a6::a7::a8::a9::dW::eo::a12::R):=.there e_12
theorem e_14 {a0 a1 a2 a3 a4 a5 a6 a7 a8 a9 dW eo a12 fP P:SP} {R:List SP}:bi (a0::a1::a2::a3::a4::a5::a6::a7::a8::a9::dW::eo::a12::fP::P::R) P (a0::a1::a2::a3::a4::a5::a6::a7::a8::a9::dW::eo::a12::fP::R):=.there e_13
theorem e_15 {a0 a1 a2 a3 a4 a5 a6 a7 a8 a9 dW eo a12 fP ie P:SP} {R:List SP}:bi (a0::a1::a2::a3::a4::a5::a6::a7::a8::a9::dW::eo::a12::fP::ie::P::R) P (a0::a1::a2::a3::a4::a5::a6::a7::a8::a9::dW::eo::a12::fP::ie::R):=.there e_14
theorem e_16 {a0 a1 a2 a3 a4 a5 a6 a7 a8 a9 dW eo a12 fP ie lB P:SP} {R:List SP}:bi (a0::a1::a2::a3::a4::a5::a6::a7::a8::a9::dW::eo::a12::fP::ie::lB::P::R) P (a0::a1::a2::a3::a4::a5::a6::a7::a8::a9::dW::eo::a12::fP::ie::lB::R):=.there e_15
theorem e_17 {a0 a1 a2 a3 a4 a5 a6 a7 a8 a9 dW eo a12 fP ie lB l8 P:SP} {R:List SP}:bi (a0::a1::a2::a3::a4::a5::a6::a7::a8::a9::dW::eo::a12::fP::ie::lB::l8::P::R) P (a0::a1::a2::a3::a4::a5::a6::a7::a8::a9::dW::eo::a12::fP::ie::lB::l8::R):=.there e_16
theorem e_18 {a0 a1 a2 a3 a4 a5 a6 a7 a8 a9 dW eo a12 fP ie lB l8 ny P:SP} {R:List SP}:bi (a0::a1::a2::a3::a4::a5::a6::a7::a8::a9::dW::eo::a12::fP::ie::lB::l8::ny::P::R) P (a0::a1::a2::a3::a4::a5::a6::a7::a8::a9::dW::eo::a12::fP::ie::lB::l8::ny::R):=.there e_17
theorem e_19 {a0 a1 a2 a3 a4 a5 a6 a7 a8 a9 dW eo a12 fP ie lB l8 ny oV P:SP} {R:List SP}:bi (a0::a1::a2::a3::a4::a5::a6::a7::a8::a9::dW::eo::a12::fP::ie::lB::l8::ny::oV::P::R) P (a0::a1::a2::a3::a4::a5::a6::a7::a8::a9::dW::eo::a12::fP::ie::lB::l8::ny::oV::R):=.there e_18
theorem e_20 {a0 a1 a2 a3 a4 a5 a6 a7 a8 a9 dW eo a12 fP ie lB l8 ny oV sf P:SP} {R:List SP}:bi (a0::a1::a2::a3::a4::a5::a6::a7::a8::a9::dW::eo::a12::fP::ie::lB::l8::ny::oV::sf::P::R) P (a0::a1::a2::a3::a4::a5::a6::a7::a8::a9::dW::eo::a12::fP::ie::lB::l8::ny::oV::sf::R):=.there e_19
theorem e_21 {a0 a1 a2 a3 a4 a5 a6 a7 a8 a9 dW eo a12 fP ie lB l8 ny oV sf a20 P:SP} {R:List SP}:bi (a0::a1::a2::a3::a4::a5::a6::a7::a8::a9::dW::eo::a12::fP::ie::lB::l8::ny::oV::sf::a20::P::R) P (a0::a1::a2::a3::a4::a5::a6::a7::a8::a9::dW::eo::a12::fP::ie::lB::l8::ny::oV::sf::a20::R):=.there e_20
theorem e_22 {a0 a1 a2 a3 a4 a5 a6 a7 a8 a9 dW eo a12 fP ie lB l8 ny oV sf a20 a21 P:SP} {R:List SP}:bi (a0::a1::a2::a3::a4::a5::a6::a7::a8::a9::dW::eo::a12::fP::ie::lB::l8::ny::oV::sf::a20::a21::P::R) P (a0::a1::a2::a3::a4::a5::a6::a7::a8::a9::dW::eo::a12::fP::ie::lB::l8::ny::oV::sf::a20::a21::R):=.there e_21
theorem e_23 {a0 a1 a2 a3 a4 a5 a6 a7 a8 a9 dW eo a12 fP ie lB l8 ny oV sf a20 a21 a22 P:SP} {R:List SP}:bi (a0::a1::a2::a3::a4::a5::a6::a7::a8::a9::dW::eo::a12::fP::ie::lB::l8::ny::oV::sf::a20::a21::a22::P::R) P (a0::a1::a2::a3::a4::a5::a6::a7::a8::a9::dW::eo::a12::fP::ie::lB::l8::ny::oV::sf::a20::a21::a22::R):=.there e_22
end Go.Ae
namespace Go.Ae
open Go
theorem BJ {tab:BT} {rt:List RT} {n:Nat} {f:FuncId} {P:Program} {pl:Pl} {S:CO P pl f}  {h:AH} {Q:AV→AH→Prop} (hg:tab.get f=some (CP S)) (hn:1≤n) (w:∀k,n=k+1→wp (S (callT tab rt k)  h).1 Q):wp (callT tab rt n (.fn f [] []) [] h) Q:=qA hg hn w
theorem aF {tab:BT} {rt:List RT} {n:Nat} {f:FuncId} {P:Program} {pl:Pl} {S:aY P pl f} {a0:AV} {h:AH} {Q:AV→AH→Prop} (hg:tab.get f=some (aZ S)) (hn:1≤n) (w:∀k,n=k+1→wp (S (callT tab rt k) a0 h).1 Q):wp (callT tab rt n (.fn f [] []) [a0] h) Q:=qA hg hn w
theorem bj {tab:BT} {rt:List RT} {n:Nat} {f:FuncId} {P:Program} {pl:Pl} {S:bN P pl f} {a0 a1:AV} {h:AH} {Q:AV→AH→Prop} (hg:tab.get f=some (bM S)) (hn:1≤n) (w:∀k,n=k+1→wp (S (callT tab rt k) a0 a1 h).1 Q):wp (callT tab rt n (.fn f [] []) [a0,a1] h) Q:=qA hg hn w
theorem cX {tab:BT} {rt:List RT} {n:Nat} {f:FuncId} {P:Program} {pl:Pl} {S:dh P pl f} {a0 a1 a2:AV} {h:AH} {Q:AV→AH→Prop} (hg:tab.get f=some (da S)) (hn:1≤n) (w:∀k,n=k+1→wp (S (callT tab rt k) a0 a1 a2 h).1 Q):wp (callT tab rt n (.fn f [] []) [a0,a1,a2] h) Q:=qA hg hn w
theorem sh {tab:BT} {rt:List RT} {n:Nat} {f:FuncId} {P:Program} {pl:Pl} {S:lN P pl f} {a0 a1 a2 a3:AV} {h:AH} {Q:AV→AH→Prop} (hg:tab.get f=some (lf S)) (hn:1≤n) (w:∀k,n=k+1→wp (S (callT tab rt k) a0 a1 a2 a3 h).1 Q):wp (callT tab rt n (.fn f [] []) [a0,a1,a2,a3] h) Q:=qA hg hn w
theorem PO {tab:BT} {rt:List RT} {n:Nat} {f:FuncId} {P:Program} {pl:Pl} {S:rz P pl f} {a0 a1 a2 a3 a4:AV} {h:AH} {Q:AV→AH→Prop} (hg:tab.get f=some (rA S)) (hn:1≤n) (w:∀k,n=k+1→wp (S (callT tab rt k) a0 a1 a2 a3 a4 h).1 Q):wp (callT tab rt n (.fn f [] []) [a0,a1,a2,a3,a4] h) Q:=qA hg hn w
theorem PP {tab:BT} {rt:List RT} {n:Nat} {f:FuncId} {P:Program} {pl:Pl} {S:HQ P pl f} {a0 a1 a2 a3 a4 a5 a6:AV} {h:AH} {Q:AV→AH→Prop} (hg:tab.get f=some (HR S)) (hn:1≤n) (w:∀k,n=k+1→wp (S (callT tab rt k) a0 a1 a2 a3 a4 a5 a6 h).1 Q):wp (callT tab rt n (.fn f [] []) [a0,a1,a2,a3,a4,a5,a6] h) Q:=qA hg hn w
end Go.Ae
