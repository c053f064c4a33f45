/- Lemmas for 'quietus/quietuslaw26.AttemptFresh': The memory: by the program;Patience, a fetch: by the program;The memorys operations: by the program;Stripes of cells: rows of numbers sorted, made thin, ... No condition. -/
import Derived.Test.YtbiljkdgeekpbabGreatDoorAttemptFreshM2
import Derived.Test.YtbiljkdgeekpbabGreatDoorAttemptFreshX
import Derived.Lib.SlicesCompact
namespace Go.Proofs.YtbiljkdgeekpbabGreatDoor
open Go Go.Ae
set_option maxRecDepth 100000
section
variable {g h:AH} {L R:List SP}
def jw (l:LkM):List AV:=[.int .u64 l.1,.bool l.2.1,.int .i64 l.2.2]
def xI (o:OpM):List AV:=[.int .i64 o.kind,.int .i64 o.at_,.int .u64 o.old,.int .u64 o.word,.int .u64 o.was.1,.bool o.was.2.1,.int .i64 o.was.2.2,.int .u64 o.lk.1,.bool o.lk.2.1,.int .i64 o.lk.2.2]
def zq (a:AnM):List AV:=[.int .u64 a.word,.int .u64 a.lk.1,.bool a.lk.2.1,.int .i64 a.lk.2.2,.bool a.done,.int .i64 a.err]
theorem qG4 {l:List LkM} {k:Nat} (hk:k<l.length):l[k]? =some (jN l (k:Int)):=by unfold jN;rw[Int.toNat_natCast,iW hk];rfl
theorem XF {l:List LkM} {k:Nat} (hk:k<l.length):((l.flatMap jw).drop (k*3)).take 3=jw (jN l (k:Int)):=gP (sz:=3) (enc:=jw) (λ_=>rfl) (qG4 hk)
section
variable {n b m:Nat} {v:AV} {a:Int} {e:TypeId} {xs:List AV} {R2:List SP}
theorem Ux {w o:Int}:XY (w,true,o)↔w<4611686018427387904∧0≤o∧o<4:=by unfold XY;simp
theorem Uu {w o:Int}:XY (w,false,o)↔w<4611686018427387904∧o=0:=by unfold XY;simp
theorem qG3 {o:Int} (hn:1≤n):t_w n 158 [.int .i64 o] h λr h'=>r=.bool (decide (0≤o∧o<4))∧h'=h:=by
 refine t_e1 (S:=S158) rfl omQ λk hk=>?_;unfold S158;try simp only[iZ]
 refine xS (λc2=>?_) (λc2=>?_)
 ·refine qG ?_;(try dsimp only);refine qU ?_;(try dsimp only)
  refine zo (λc3=>?_) (λc3=>?_)
  ·refine qE ?_;exact qW ⟨by rw[iG omQ],rfl⟩
  ·refine qE ?_;exact qW ⟨by rw[iV omQ],rfl⟩
 ·refine qG ?_;(try dsimp only);refine qT ?_;(try dsimp only);refine qI ?_
  exact qW ⟨by rw[iV omQ],rfl⟩
theorem qqu (hn:2≤n) {l:LkM} (H:HS g h R):t_w n 136 [.agg (jw l)] h λr h'=>r=.bool (decide (XY l))∧HS g h' R:=by
 refine t_e1 (S:=S136) rfl omQ λk hk=>?_;unfold S136;try simp only[iZ]
 obtain⟨w,d,o⟩:=l;refine qH H rfl λb h1 H1=>?_;have H1:HS g h1 (qw b [.int .u64 w,.bool d,.int .i64 o]::R):=H1;refine qQ (qV ‹_› .here rfl ?_);cases d with
 |true=>
  refine qX (qQ (qV ‹_› .here rfl ?_));refine zo (λc1=>?_) (λc1=>?_)
  ·refine qG ?_;(try dsimp only);refine qU ?_;(try dsimp only);refine qQ (qV ‹_› .here rfl ?_)
   refine qY (qG3 omQ) ?_;rintro _ _ ⟨rfl,rfl⟩;refine qE (qW ⟨?_,H1.drop⟩);by_cases hc:0≤o∧o<4
   ·rw[iG hc,iG (Ux.2 ⟨by omega,hc⟩)]
   ·rw[iV hc,iV (λh=>hc (Ux.1 h).2)]
  ·refine qG ?_;(try dsimp only);refine qT ?_;(try dsimp only);refine qI ?_
   exact qW ⟨by rw[iV (λh=>by have:=(Ux.1 h).1;omega)],H1.drop⟩
 |false=>
  refine qJ (qQ (qV ‹_› .here rfl ?_));refine zo (λc1=>?_) (λc1=>?_)
  ·refine qG ?_;(try dsimp only);refine qU ?_;(try dsimp only);refine qQ (qV ‹_› .here rfl ?_)
   refine xp (λc2=>?_) (λc2=>?_)
   ·refine qE ?_;exact qW ⟨by rw[iG (Uu.2 omQ)],H1.drop⟩
   ·refine qE ?_;exact qW ⟨by rw[iV (λh=>by have:=(Uu.1 h).2;omega)],H1.drop⟩
  ·refine qG ?_;(try dsimp only);refine qT ?_;(try dsimp only);refine qI ?_
   exact qW ⟨by rw[iV (λh=>by have:=(Uu.1 h).1;omega)],H1.drop⟩
theorem qZ6 (hn:1≤n) (H:HS g h L) (s:Sel L (qw b [v]) R) (s2:Sel L (qL e 1 m v xs) R2) :
  t_w n 103 [.ptr b 0,.int .i64 a] h λr h'=>r=.bool (decide (1≤a∧a<m))∧h'=h:=by
 refine t_e2 (S:=S103) rfl omQ λk hk=>?_;unfold S103;try simp only[iZ]
 refine xS (λh1=>?_) (λh1=>?_)
 ·refine qG ?_;(try dsimp only);refine qU ?_;(try dsimp only);refine qK (qQ ?_)
  refine qV H s rfl ?_;refine qs H s2 ?_;refine zo (λh2=>?_) (λh2=>?_)
  ·refine qE ?_;exact qW ⟨by rw[iG omQ],rfl⟩
  ·refine qE ?_;exact qW ⟨by rw[iV omQ],rfl⟩
 ·refine qG ?_;(try dsimp only);refine qT ?_;(try dsimp only);refine qI ?_
  exact qW ⟨by rw[iV omQ],rfl⟩
theorem qXp (hn:1≤n) (H:HS g h L) (s:Sel L (qw b [v]) R) (s2:Sel L (qL e 1 m v xs) R2) :
  t_w n 106 [.ptr b 0,.int .i64 a] h λr h'=>r=.bool (decide (0≤a∧a<m))∧h'=h:=by
 refine t_e2 (S:=S106) rfl omQ λk hk=>?_;unfold S106;try simp only[iZ]
 refine xS (λh1=>?_) (λh1=>?_)
 ·refine qG ?_;(try dsimp only);refine qU ?_;(try dsimp only);refine qK (qQ ?_)
  refine qV H s rfl ?_;refine qs H s2 ?_;refine zo (λh2=>?_) (λh2=>?_)
  ·refine qE ?_;exact qW ⟨by rw[iG omQ],rfl⟩
  ·refine qE ?_;exact qW ⟨by rw[iV omQ],rfl⟩
 ·refine qG ?_;(try dsimp only);refine qT ?_;(try dsimp only);refine qI ?_
  exact qW ⟨by rw[iV omQ],rfl⟩
theorem qKf (hn:1≤n) {wd:AV} (H:HS g h L) (s:Sel L (qw b [v,wd]) R) (s2:Sel L (qL e 3 m v xs) R2) :
  t_w n 104 [.ptr b 0,.int .i64 a] h λr h'=>r=.bool (decide (0≤a∧a<m))∧h'=h:=by
 refine t_e2 (S:=S104) rfl omQ λk hk=>?_;unfold S104;try simp only[iZ]
 refine xS (λh1=>?_) (λh1=>?_)
 ·refine qG ?_;(try dsimp only);refine qU ?_;(try dsimp only);refine qK (qQ ?_)
  refine qV H s rfl ?_;refine qs H s2 ?_;refine zo (λh2=>?_) (λh2=>?_)
  ·refine qE ?_;exact qW ⟨by rw[iG omQ],rfl⟩
  ·refine qE ?_;exact qW ⟨by rw[iV omQ],rfl⟩
 ·refine qG ?_;(try dsimp only);refine qT ?_;(try dsimp only);refine qI ?_
  exact qW ⟨by rw[iV omQ],rfl⟩
theorem qX6 {ws:List Int} (hn:2≤n) (H:HS g h L) (s:Sel L (qw b [v]) R) (s2:Sel L (qL e 1 ws.length v (ws.map (.int .u64))) R2) :
  t_w n 65 [.ptr b 0,.int .i64 a] h λr h'=>r=.tup [.int .u64 (if 1≤a∧a<ws.length then qD ws a else 0),.int .i64 (if 1≤a∧a<ws.length then 0 else 2)]∧h'=h:=by
 refine t_e2 (S:=S65) rfl omQ λk hk=>?_;unfold S65;try simp only[iZ]
 refine qY (qZ6 omQ H s s2) ?_;rintro _ _ ⟨rfl,rfl⟩;by_cases hc:1≤a∧a<ws.length
 ·rw[iG hc,iJ hc,iJ hc];obtain⟨k,rfl⟩:∃k:Nat,a=k:=⟨a.toNat,by omega⟩;refine jV (qJ (qK (qQ (qV H s rfl ?_))));refine jf (H.sl s2) (x:=.int .u64 (qD ws k)) (by rw[List.getElem?_map,ye omQ];rfl) ?_;exact qW ⟨rfl,rfl⟩
 ·rw[iV hc,iQ hc,iQ hc];refine jq (qX ?_);exact qW ⟨rfl,rfl⟩
theorem qKr {ws:List Int} (hn:2≤n) (H:HS g h L) (s:Sel L (qw b [v]) R) (s2:Sel L (qL e 1 ws.length v (ws.map (.int .u64))) R2) :
  t_w n 71 [.ptr b 0,.int .i64 a] h λr h'=>r=.tup [.int .u64 (if 0≤a∧a<ws.length then qD ws a else 0),.int .i64 (if 0≤a∧a<ws.length then 0 else 2)]∧h'=h:=by
 refine t_e2 (S:=S71) rfl omQ λk hk=>?_;unfold S71;try simp only[iZ]
 refine qY (qXp omQ H s s2) ?_;rintro _ _ ⟨rfl,rfl⟩;by_cases hc:0≤a∧a<ws.length
 ·rw[iG hc,iJ hc,iJ hc];obtain⟨k,rfl⟩:∃k:Nat,a=k:=⟨a.toNat,by omega⟩;refine jV (qJ (qK (qQ (qV H s rfl ?_))));refine jf (H.sl s2) (x:=.int .u64 (qD ws k)) (by rw[List.getElem?_map,ye omQ];rfl) ?_;exact qW ⟨rfl,rfl⟩
 ·rw[iV hc,iQ hc,iQ hc];refine jq (qX ?_);exact qW ⟨rfl,rfl⟩
theorem ZS {ws:List Int} {w:Int} (hn:2≤n) (H:HS g h (qw b [v]::qL e 1 ws.length v (ws.map (.int .u64))::R)) :
  t_w n 66 [.ptr b 0,.int .i64 a,.int .u64 w] h λr h'=>r=.int .i64 (if 1≤a∧a<ws.length then 0 else 2)∧
   HS g h' (qw b [v]::qL e 1 (if 1≤a∧a<ws.length then ws.set a.toNat w else ws).length v ((if 1≤a∧a<ws.length then ws.set a.toNat w else ws).map (.int .u64))::R):=by
 refine t_e3 (S:=S66) rfl omQ λk hk=>?_;unfold S66;try simp only[iZ]
 refine qY (qZ6 omQ H .here e_1) ?_;rintro _ _ ⟨rfl,rfl⟩;by_cases hc:1≤a∧a<ws.length
 ·rw[iG hc];simp only[iJ hc];obtain⟨k,rfl⟩:∃k:Nat,a=k:=⟨a.toNat,by omega⟩;refine jV (qJ (qK (qQ (qV ‹_› .here rfl ?_))));refine XA (H.sel e_1) omQ ⟨rfl,rfl⟩ λh2 H2=>?_;rw[← List.map_set]at H2;exact qW ⟨rfl,by rw[List.length_set];exact H2.sub (.cons e_1 (.cons .here .refl))⟩
 ·rw[iV hc];simp only[iQ hc];refine jq (qX ?_);exact qW ⟨rfl,H⟩
theorem Zv {ws:List Int} {w:Int} (hn:2≤n) (H:HS g h (qw b [v]::qL e 1 ws.length v (ws.map (.int .u64))::R)) :
  t_w n 72 [.ptr b 0,.int .i64 a,.int .u64 w] h λr h'=>r=.int .i64 (if 0≤a∧a<ws.length then 0 else 2)∧
   HS g h' (qw b [v]::qL e 1 (if 0≤a∧a<ws.length then ws.set a.toNat w else ws).length v ((if 0≤a∧a<ws.length then ws.set a.toNat w else ws).map (.int .u64))::R):=by
 refine t_e3 (S:=S72) rfl omQ λk hk=>?_;unfold S72;try simp only[iZ]
 refine qY (qXp omQ H .here e_1) ?_;rintro _ _ ⟨rfl,rfl⟩;by_cases hc:0≤a∧a<ws.length
 ·rw[iG hc];simp only[iJ hc];obtain⟨k,rfl⟩:∃k:Nat,a=k:=⟨a.toNat,by omega⟩;refine jV (qJ (qK (qQ (qV ‹_› .here rfl ?_))));refine XA (H.sel e_1) omQ ⟨rfl,rfl⟩ λh2 H2=>?_;rw[← List.map_set]at H2;exact qW ⟨rfl,by rw[List.length_set];exact H2.sub (.cons e_1 (.cons .here .refl))⟩
 ·rw[iV hc];simp only[iQ hc];refine jq (qX ?_);exact qW ⟨rfl,H⟩
variable {ls:List LkM} {wd:AV}
theorem qX8 (hn:2≤n) (H:HS g h L) (s:Sel L (qw b [v,wd]) R) (s2:Sel L (qL e 3 ls.length v (ls.flatMap jw)) R2) :
  t_w n 67 [.ptr b 0,.int .i64 a] h λr h'=>r=.tup [.agg (jw (if 0≤a∧a<ls.length then jN ls a else lk0)),.int .i64 (if 0≤a∧a<ls.length then 0 else 2)]∧HS g h' L:=by
 refine t_e2 (S:=S67) rfl omQ λk hk=>?_;unfold S67;try simp only[iZ]
 refine qH H rfl λb0 h1 H1=>?_;refine qY (qKf omQ H1 (.there s) (.there s2)) ?_;rintro _ _ ⟨rfl,rfl⟩;by_cases hc:0≤a∧a<ls.length
 ·rw[iG hc,iJ hc,iJ hc];obtain⟨k,rfl⟩:∃k:Nat,a=k:=⟨a.toNat,by omega⟩;refine jV (qJ (qK (qQ (qV H1 (.there s) rfl ?_))));refine xK (l:=jw (jN ls k)) (H1.sl (.there s2)) omQ omQ (XF omQ) ?_;refine qe H1 (b:=b0) .here rfl (by show 0+3≤3;omega) rfl λh2 H2=>?_;refine qA H2 (b:=b0) (off:=0) .here rfl omQ (l:=jw (jN ls k)) rfl ?_;exact qW ⟨rfl,H2.drop⟩
 ·rw[iV hc,iQ hc,iQ hc];refine jq (qX (qF rfl ?_));refine qe H1 (b:=b0) .here rfl (by show 0+3≤3;omega) rfl λh2 H2=>?_;refine qA H2 (b:=b0) (off:=0) .here rfl omQ (l:=jw lk0) rfl ?_;exact qW ⟨rfl,H2.drop⟩
def wQ (n:Nat) (a:Int) (l:LkM):Int:=if 0≤a∧a<n then(if XY l then 0 else 1)else 2
theorem Oq {l:LkM} (hn:3≤n) (H:HS g h L) (s:Sel L (qw b [v,wd]) R) (s2:Sel L (qL e 3 m v xs) R2) :
  t_w n 105 [.ptr b 0,.int .i64 a,.agg (jw l)] h λr h'=>r=.int .i64 (wQ m a l)∧HS g h' L:=by
 refine t_e3 (S:=S105) rfl omQ λk hk=>?_;unfold S105;try simp only[iZ]
 unfold wQ;refine qH H rfl λb0 h1 H1=>?_;refine qY (qKf omQ H1 (.there s) (.there s2)) ?_;rintro _ _ ⟨rfl,rfl⟩;by_cases hc:0≤a∧a<m
 ·rw[iG hc,iJ hc];refine jV (qJ (qA H1 (b:=b0) (off:=0) .here rfl omQ (l:=jw l) rfl ?_));refine qY (qqu omQ H1) ?_;rintro _ h2 ⟨rfl,H2⟩;by_cases hl:XY l
  ·rw[iG hl,iJ hl];refine jV (qJ ?_);exact qW ⟨rfl,H2.drop⟩
  ·rw[iV hl,iQ hl];refine jq (qX ?_);exact qW ⟨rfl,H2.drop⟩
 ·rw[iV hc,iQ hc];refine jq (qX ?_);exact qW ⟨rfl,H1.drop⟩
theorem qYS (x y:LkM):zf [.bas .int 0,.bas .bool 1,.bas .int 2] (jw x) (jw y)=some (decide (x=y)):=by obtain⟨a,b,c⟩:=x;obtain⟨a',b',c'⟩:=y;show(bif ieq a a' then(bif b==b' then(bif ieq c c' then some true else some false)else some false)else some false)=_;rw[Qp,Qp];by_cases h1:a=a'<;>by_cases h3:c=c'<;>cases b<;>cases b'<;>simp[h1,h3]
theorem qWu {was l:LkM} (hn:4≤n) (H:HS g h (qw b [v,wd]::qL e 3 ls.length v (ls.flatMap jw)::R)) :
  t_w n 68 [.ptr b 0,.int .i64 a,.agg (jw was),.agg (jw l)] h λr h'=>r=.tup [.bool (decide (wQ ls.length a l=0∧jN ls a=was)),.int .i64 (wQ ls.length a l)]∧
   HS g h' (qw b [v,wd]::qL e 3 (if wQ ls.length a l=0∧jN ls a=was then ls.set a.toNat l else ls).length v ((if wQ ls.length a l=0∧jN ls a=was then ls.set a.toNat l else ls).flatMap jw)::R):=by
 (refine qC (g:=W68) rfl omQ λk hk=>?_;show wp (S68 (callT tab qx k) _ _ _ _ _) _;unfold S68;try simp only[iI,uU,iZ])
 refine qH H rfl λb0 h1 H1=>?_;refine qH H1 rfl λb1 h2 H2=>?_;refine qA H2 (b:=b1) (off:=0) .here rfl omQ (l:=jw l) rfl ?_;refine qY (Oq (l:=l) omQ H2 e_2 e_3) ?_;rintro _ h3 ⟨rfl,H3⟩;by_cases c0:wQ ls.length a l=0
 rotate_left
 ·refine jX c0 ?_;refine qX ?_;rw[iV (λh=>c0 h.1)];simp only[iQ (show¬(wQ ls.length a l=0∧jN ls a=was)from λh=>c0 h.1)];exact qW ⟨rfl,H3.drop.drop⟩
 have hc:0≤a∧a<ls.length:=by
  unfold wQ at c0
  split at c0
  ·assumption
  ·cases c0
 obtain⟨k,rfl⟩:∃k:Nat,a=k:=⟨a.toNat,by omega⟩;refine jK c0 ?_;refine qJ (qK (qQ (qV ‹_› e_2 rfl ?_)));refine xK (l:=jw (jN ls k)) (H3.sl e_3) omQ omQ (XF omQ) ?_;refine qA H3 (b:=b0) (off:=0) e_1 rfl omQ (l:=jw was) rfl ?_;refine Oo (p:=jN ls k=was) (qYS _ _) (λc1=>?_) (λc1=>?_)
 ·rw[iG ⟨c0,c1⟩];simp only[iJ (show wQ ls.length k l=0∧jN ls k=was from⟨c0,c1⟩)];rw[c0];refine qJ (qK (qQ (qV ‹_› e_2 rfl ?_)));refine qA H3 (b:=b1) (off:=0) .here rfl omQ (l:=jw l) rfl ?_;refine NU (l:=jw l) (i:=k) (H3.sel e_3) omQ rfl rfl λh4 H4=>?_;rw[UD (sz:=3) (enc:=jw) (l:=ls) (i:=k) (a:=l) (λ_=>rfl) omQ]at H4;exact qW ⟨rfl,by rw[List.length_set];exact H4.sub (.cons e_3 (.cons .here (.drop (.drop .refl))))⟩
 ·rw[iV (λh=>c1 h.2)];simp only[iQ (show¬(wQ ls.length k l=0∧jN ls k=was)from λh=>c1 h.2)];rw[c0];refine qX ?_;exact qW ⟨rfl,H3.drop.drop⟩
theorem qQ1 {l:LkM} (hn:4≤n) (H:HS g h (qw b [v,wd]::qL e 3 ls.length v (ls.flatMap jw)::R)) :
  t_w n 69 [.ptr b 0,.int .i64 a,.agg (jw l)] h λr h'=>r=.int .i64 (wQ ls.length a l)∧
   HS g h' (qw b [v,wd]::qL e 3 (if wQ ls.length a l=0 then ls.set a.toNat l else ls).length v ((if wQ ls.length a l=0 then ls.set a.toNat l else ls).flatMap jw)::R):=by
 refine t_e3 (S:=S69) rfl omQ λk hk=>?_;unfold S69;try simp only[iZ]
 refine qH H rfl λb0 h1 H1=>?_;refine qA H1 (b:=b0) (off:=0) .here rfl omQ (l:=jw l) rfl ?_;refine qY (Oq (l:=l) omQ H1 e_1 e_2) ?_;rintro _ h3 ⟨rfl,H3⟩;refine qG ?_
 try dsimp only
 by_cases c0:wQ ls.length a l=0
 rotate_left
 ·refine qq c0 ?_;refine qJ (qv ?_);simp only[iQ c0];exact qW ⟨rfl,H3.drop⟩
 have hc:0≤a∧a<ls.length:=by
  unfold wQ at c0
  split at c0
  ·assumption
  ·cases c0
 obtain⟨k,rfl⟩:∃k:Nat,a=k:=⟨a.toNat,by omega⟩;refine qj c0 ?_;simp only[iJ c0];refine qX (qK (qQ (qV ‹_› e_1 rfl ?_)));refine qA H3 (b:=b0) (off:=0) .here rfl omQ (l:=jw l) rfl ?_;refine NU (l:=jw l) (i:=k) (H3.sel e_2) omQ rfl rfl λh4 H4=>?_;rw[UD (sz:=3) (enc:=jw) (l:=ls) (i:=k) (a:=l) (λ_=>rfl) omQ]at H4;refine qv ?_;exact qW ⟨rfl,by rw[List.length_set];exact H4.sub (.cons e_2 (.cons .here (.drop .refl)))⟩
end
def Na (p hb tb cb sb:Nat) (wv lv sv:AV) (S:zi) (M:jT) (R:List SP):List SP :=
 qw p [.int .i64 S.words,.int .i64 S.stripes,.int .i64 S.wide,.int .i64 S.threads,.int .u64 S.start,.ptr hb 0,.ptr tb 0,.ptr cb 0,.ptr sb 0,.int .i64 M.cnt]::qw hb [wv]::qL 24 1 M.w.length wv (M.w.map (.int .u64))::
 qw tb [lv,.int .i64 S.wide]::qL 40 3 M.l.length lv (M.l.flatMap jw)::qw cb [.int .u64 M.n]::qw sb [sv]::qL 24 1 M.s.length sv (M.s.map (.int .u64))::R
def MemC (p:Nat) (S:zi) (M:jT):SP:=.ex λq:(Nat×Nat×Nat×Nat)×AV×AV×AV=>.all (Na p q.1.1 q.1.2.1 q.1.2.2.1 q.1.2.2.2 q.2.1 q.2.2.1 q.2.2.2 S M [])
section
variable {p hb tb cb sb:Nat} {wv lv sv:AV} {S:zi} {M:jT}
theorem MemC.E (H:HS g h (MemC p S M::R)):∃hb tb cb sb wv lv sv,HS g h (qw p [.int .i64 S.words,.int .i64 S.stripes,.int .i64 S.wide,.int .i64 S.threads,.int .u64 S.start,.ptr hb 0,.ptr tb 0,.ptr cb 0,.ptr sb 0,.int .i64 M.cnt]::qw hb [wv]::qL 24 1 M.w.length wv (M.w.map (.int .u64))::
  qw tb [lv,.int .i64 S.wide]::qL 40 3 M.l.length lv (M.l.flatMap jw)::qw cb [.int .u64 M.n]::qw sb [sv]::qL 24 1 M.s.length sv (M.s.map (.int .u64))::R):=by
 obtain⟨⟨⟨hb,tb,cb,sb⟩,wv,lv,sv⟩,H⟩:=H.exE;exact⟨hb,tb,cb,sb,wv,lv,sv,H.allE⟩
theorem MemC.I (H:HS g h (Na p hb tb cb sb wv lv sv S M R)):HS g h (MemC p S M::R):=HS.exI ((hb,tb,cb,sb),wv,lv,sv) (HS.allI (A:=Na p hb tb cb sb wv lv sv S M []) H)
end
end
section
variable {g h:AH} {L R:List SP}
def xL (p:gj) (xs:List AV):List AV:=.int .i64 p.me:: .int .i64 p.spins:: .int .i64 p.fin:: .int .i64 p.by_:: .int .i64 p.err::xs
def opV (o:Option OpM):AV:=.tup [.agg (xI (o.getD (op0 0 0 0))),.bool o.isSome]
def X7 (p:gj):Prop:=p.fin=0→0≤p.spins∧p.spins≤4
section
variable {n b:Nat} {p:gj} {xs:List AV}
theorem Uo {me sp:Int} (hn:1≤n) (H:HS g h R):t_w n 95 [.int .i64 me,.int .i64 sp] h λr h'=>r=.agg (xL (Q3 me sp) [])∧HS g h' R:=by
 refine t_e2 (S:=S95) rfl omQ λk hk=>?_;unfold S95;try simp only[iZ]
 refine qH H rfl λb h1 H1=>?_;refine zB (zP (qF rfl ?_));refine qe H1 (b:=b) .here rfl (by show 0+5≤5;omega) rfl λh2 H2=>?_;refine qA H2 (b:=b) (off:=0) .here rfl omQ (l:=xL (Q3 me sp) []) rfl ?_;exact qW ⟨rfl,H2.drop⟩
theorem QL (hn:1≤n) (H:HS g h L) (s:Sel L (qw b (xL p xs)) R):t_w n 80 [.ptr b 0] h λr h'=>r=.int .i64 p.fin∧h'=h:=by
 refine t_e1 (S:=S80) rfl omQ λk hk=>?_;unfold S80;try simp only[iZ]
 refine qK (qQ ?_);exact qV H s rfl (qW ⟨rfl,rfl⟩)
theorem qVS (hn:1≤n) (H:HS g h L) (s:Sel L (qw b (xL p xs)) R):t_w n 135 [.ptr b 0] h λr h'=>r=.int .i64 p.err∧h'=h:=by
 refine t_e1 (S:=S135) rfl omQ λk hk=>?_;unfold S135;try simp only[iZ]
 refine qK (qQ ?_);exact qV H s rfl (qW ⟨rfl,rfl⟩)
theorem N5 (hn:1≤n) (H:HS g h L) (s:Sel L (qw b (xL p xs)) R):t_w n 317 [.ptr b 0] h λr h'=>r=.int .i64 p.by_∧h'=h:=by
 refine t_e1 (S:=S317) rfl omQ λk hk=>?_;unfold S317;try simp only[iZ]
 refine qK (qQ ?_);exact qV H s rfl (qW ⟨rfl,rfl⟩)
theorem vk {f e y:Int} (hn:1≤n) (H:HS g h (qw b (xL p xs)::R)):t_w n 319 [.ptr b 0,.int .i64 f,.int .i64 e,.int .i64 y] h λ_ h'=>HS g h' (qw b (xL (q9 p f e y) xs)::R):=by
 refine t_e4 (S:=S319) rfl omQ λk hk=>?_;unfold S319;try simp only[iZ]
 unfold xL at H;refine qK (qQ (qk H (b:=b) .here ⟨rfl,rfl⟩ osQ λh1 H1=>?_));refine qK (qQ (qk H1 (b:=b) .here ⟨rfl,rfl⟩ osQ λh2 H2=>?_));refine qK (qQ (qk H2 (b:=b) .here ⟨rfl,rfl⟩ osQ λh3 H3=>?_));exact qW H3
theorem XL {l:LkM} (hn:1≤n) (hp:0≤p.spins∧p.spins≤4) (H:HS g h (qw b (xL p xs)::R)):t_w n 321 [.ptr b 0,.agg (jw l)] h λr h'=>r=.bool (qc p l).1∧HS g h' (qw b (xL (qc p l).2 xs)::R):=by
 refine t_e2 (S:=S321) rfl omQ λk hk=>?_;unfold S321;try simp only[iZ]
 refine qH H rfl λb0 h1 H1=>?_;have H1:HS g h1 (qw b0 (jw l)::qw b (.int .i64 p.me:: .int .i64 p.spins:: .int .i64 p.fin:: .int .i64 p.by_:: .int .i64 p.err::xs)::R):=H1;unfold jw at H1;refine qQ (qV ‹_› .here rfl ?_);refine qK (qQ (qV ‹_› e_1 rfl ?_));unfold qc;by_cases c:p.me<l.2.2
 ·refine xT c ?_;rw[iJ c];refine qX ?_;exact qW ⟨rfl,H1.drop⟩
 ·refine xH c ?_;rw[iQ c];refine qJ (qK (qQ (qV ‹_› e_1 rfl ?_)));refine zZ omQ ?_;refine qK (qQ (qk H1 (b:=b) e_1 ⟨rfl,rfl⟩ osQ λh2 H2=>?_));have H2:HS g h2 (qw b (.int .i64 p.me:: .int .i64 (p.spins-1):: .int .i64 p.fin:: .int .i64 p.by_:: .int .i64 p.err::xs)::qw b0 (jw l)::R):=H2;refine qK (qQ (qV ‹_› .here rfl ?_));refine xS (λc2=>?_) (λc2=>?_)
  ·exact qW ⟨by rw[iG omQ],H2.sub (.cons .here (.drop .refl))⟩
  ·exact qW ⟨by rw[iV omQ],H2.sub (.cons .here (.drop .refl))⟩
theorem kl {a:AnM} (hn:2≤n) (H:HS g h (qw b (xL p xs)::R)):t_w n 318 [.ptr b 0,.agg (zq a)] h λr h'=>r=.bool (qS p a).1∧HS g h' (qw b (xL (qS p a).2 xs)::R):=by
 refine t_e2 (S:=S318) rfl omQ λk hk=>?_;unfold S318;try simp only[iZ]
 refine qH H rfl λb0 h1 H1=>?_;have H1:HS g h1 (qw b0 (zq a)::qw b (.int .i64 p.me:: .int .i64 p.spins:: .int .i64 p.fin:: .int .i64 p.by_:: .int .i64 p.err::xs)::R):=H1;unfold zq at H1;refine jR [] (λs h'=>s=(.ptr b 0,())∧HS g h' (qw b (xL (if p.fin=0∧a.err≠0 then q9 p 4 a.err (-1)else p) xs)::R)) ?_ ?_
 rotate_left
 ·rintro s h2 ⟨rfl,H2⟩;unfold xL at H2;refine qK (qQ (qV ‹_› .here rfl ?_));by_cases c:p.fin=0∧a.err≠0
  ·rw[iJ c]at H2;rw[show qS p a=(true,q9 p 4 a.err (-1))from iJ c];rw[iJ c];refine jX (by show(4:Int)≠0;decide) ?_;refine qv ?_;exact qW ⟨rfl,H2⟩
  ·rw[iQ c]at H2;rw[show qS p a=(decide (p.fin≠0),p)from iQ c];rw[iQ c];refine yW (λc2=>?_) (λc2=>?_)
   ·refine qv ?_;exact qW ⟨congrArg AV.bool (iG (p:=p.fin≠0) c2).symm,H2⟩
   ·refine qv ?_;exact qW ⟨congrArg AV.bool (iV (p:=p.fin≠0) (λh=>h c2)).symm,H2⟩
 intro j hj;refine qK (qQ (qV ‹_› e_1 rfl ?_));by_cases c:p.fin=0
 ·refine qj c ?_;refine qG ?_;(try dsimp only);refine qU ?_;(try dsimp only);refine qQ (qV ‹_› .here rfl ?_)
  by_cases c2:a.err=0
  ·refine jK c2 ?_;refine qE (qJ ?_);exact hj _ _ ⟨rfl,by rw[iQ (λh=>h.2 c2)];exact H1.drop⟩
  ·refine jX c2 ?_;refine qE (qX (qQ (qV ‹_› .here rfl ?_)));refine qY (vk (p:=p) omQ (H1.sel e_1)) λ_ h2 H2=>?_;exact hj _ _ ⟨rfl,by rw[iJ ⟨c,c2⟩];exact H2.sub (.cons .here (.drop .refl))⟩
 ·refine qq c ?_;refine qG ?_;(try dsimp only);refine qT ?_;(try dsimp only);refine qI (qJ ?_)
  exact hj _ _ ⟨rfl,by rw[iQ (λh=>c h.1)];exact H1.drop⟩
end
def vN (f:wJ):List AV:=xL f.p [.int .i64 f.at_,.int .i64 f.stripe,.int .u64 f.stamp,.int .i64 f.state,.int .u64 f.lk.1,.bool f.lk.2.1,.int .i64 f.lk.2.2,.int .u64 f.word]
section
variable {n b:Nat} {f:wJ}
theorem qGh {me at_ st sp t:Int} (hn:2≤n) (H:HS g h R):t_w n 91 [.int .i64 me,.int .i64 at_,.int .i64 st,.int .i64 sp,.int .u64 t] h λr h'=>∃b,r=.ptr b 0∧HS g h' (qw b (vN (Zh me at_ st sp t))::R):=by
 refine t_e5 (S:=S91) rfl omQ λk hk=>?_;unfold S91;try simp only[iZ]
 refine qY (Uo omQ H) ?_;rintro _ h1 ⟨rfl,H1⟩;unfold xL;refine qF rfl ?_;refine qH H1 rfl λb h2 H2=>qW ⟨b,rfl,H2⟩
theorem qJh (hn:2≤n) (H:HS g h (qw b (vN f)::R)):t_w n 315 [.ptr b 0] h λr h'=>r=opV (kA f)∧HS g h' (qw b (vN f)::R):=by
 refine t_e1 (S:=S315) rfl omQ λk hk=>?_;unfold S315;try simp only[iZ]
 refine qH H rfl λb0 h1 H1=>?_;refine qK (qQ (qY (QL omQ H1 e_1) ?_));rintro _ _ ⟨rfl,rfl⟩;unfold kA;have H2:=H1;unfold vN xL at H2;by_cases c:f.p.fin=0
 ·refine jK c ?_;rw[iQ (λh=>h c)];refine qJ (qK (qQ (qV ‹_› e_1 rfl ?_)));by_cases c2:f.state=1
  ·refine qj c2 ?_;rw[iJ c2];refine qX (qK (qQ (qV ‹_› e_1 rfl ?_)));refine qF rfl ?_;refine qe H1 (b:=b0) .here rfl (by show 0+10≤10;omega) rfl λh3 H3=>?_;refine qA H3 (b:=b0) (off:=0) .here rfl omQ (l:=xI (op0 1 f.at_ 0)) rfl ?_;exact qW ⟨rfl,H3.drop⟩
  ·refine qq c2 ?_;rw[iQ c2];refine qJ (qK (qQ (qV ‹_› e_1 rfl ?_)));refine qF rfl ?_;refine qe H1 (b:=b0) .here rfl (by show 0+10≤10;omega) rfl λh3 H3=>?_;refine qA H3 (b:=b0) (off:=0) .here rfl omQ (l:=xI (op0 3 f.stripe 0)) rfl ?_;exact qW ⟨rfl,H3.drop⟩
 ·refine jX c ?_;rw[iJ c];refine qX (qF rfl ?_);refine qe H1 (b:=b0) .here rfl (by show 0+10≤10;omega) rfl λh3 H3=>?_;refine qA H3 (b:=b0) (off:=0) .here rfl omQ (l:=xI (op0 0 0 0)) rfl ?_;exact qW ⟨rfl,H3.drop⟩
theorem KM {l:LkM} (hn:2≤n) (hp:0≤f.p.spins∧f.p.spins≤4) (H:HS g h (qw b (vN f)::R)):t_w n 320 [.ptr b 0,.agg (jw l)] h λ_ h'=>HS g h' (qw b (vN (w9 f l))::R):=by
 refine t_e2 (S:=S320) rfl omQ λk hk=>?_;unfold S320;try simp only[iZ]
 refine qH H rfl λb0 h1 H1=>?_;unfold vN xL jw at H1;refine qK (qQ (qk H1 (b:=b) e_1 ⟨rfl,rfl⟩ osQ λh2 H2=>?_));have H2:HS g h2 (qw b (vN { f with state:=0 })::qw b0 (jw l)::R):=H2;have H3:=H2;unfold vN xL jw at H3;refine qG ?_;(try dsimp only);refine qQ (qV ‹_› e_1 rfl ?_)
 unfold w9;obtain⟨w,d,o⟩:=l;cases d with
 |true=>
  rw[iJ rfl];refine qX (qK (qQ (qA H2 (b:=b0) (off:=0) e_1 rfl omQ (l:=jw (w,true,o)) rfl ?_)));refine qY (XL (l:=(w,true,o)) omQ hp H2) ?_;rintro _ h4 ⟨rfl,H4⟩;cases hw:(qc f.p (w,true,o)).1 with
  |true=>rw[iJ rfl];refine jV (qJ (qv ?_));exact qW (H4.sub (.cons .here (.drop .refl)))
  |false=>rw[iQ osQ];have H5:=H4;unfold jw at H5;refine jq (qX (qK (qQ (qQ (qV ‹_› e_1 rfl ?_)))));refine qY (vk omQ H4) λ_ h5 H5=>?_;refine qv ?_;exact qW (H5.sub (.cons .here (.drop .refl)))
 |false=>
  rw[iQ osQ];refine qJ (qQ (qV ‹_› e_1 rfl ?_));refine qK (qQ (qV ‹_› .here rfl ?_));by_cases c:f.stamp<w
  ·refine xT c ?_;rw[iJ c];refine qX (qK (qQ (qY (vk omQ H2) λ_ h5 H5=>?_)));refine qv ?_;exact qW (H5.sub (.cons .here (.drop .refl)))
  ·refine xH c ?_;rw[iQ c];refine qJ (qA H3 (b:=b0) (off:=0) e_1 rfl omQ (l:=jw (w,false,o)) rfl ?_);refine qK (qQ (qe H3 (b:=b) .here rfl (by show 9+3≤13;omega) rfl λh5 H5=>?_));refine qK (qQ (qk H5 (b:=b) .here ⟨rfl,rfl⟩ (by simp[wm]) λh6 H6=>?_));refine qv ?_;exact qW (H6.sub (.cons .here (.drop .refl)))
theorem qZN {a:AnM} (hn:3≤n) (hp:X7 f.p) (H:HS g h (qw b (vN f)::R)):t_w n 316 [.ptr b 0,.agg (zq a)] h λ_ h'=>HS g h' (qw b (vN (xO f a))::R):=by
 (refine qC (g:=W316) rfl omQ λk hk=>?_;show wp (S316 (callT tab qx k) _ _ _) _;unfold S316;try simp only[iI,uU,iZ])
 generalize hF:xO f a=F;refine qH H rfl λb0 h1 H1=>?_;refine jR [] (λ_ h'=>HS g h' (qw b (vN F)::R)) (λj hj=>?_) λ_ h' H'=>?_
 rotate_left
 ·refine qv ?_;exact qW H'
 refine qK (qQ (qA H1 (b:=b0) (off:=0) .here rfl omQ (l:=zq a) rfl ?_));refine qY (kl omQ (H1.sel e_1)) ?_;rintro _ h2 ⟨rfl,H2⟩;unfold xO at hF;cases hs:(qS f.p a).1 with
 |true=>rw[iJ hs]at hF;refine qX ?_;exact hj _ _ (by rw[← hF];exact H2.sub (.cons .here (.drop .refl)))
 |false=>
  rw[iQ (by rw[hs];simp)]at hF;have hsp:(qS f.p a).2=f.p∧f.p.fin=0:=by
   unfold qS at hs ⊢
   split at hs
   ·cases hs
   ·rename_i c;rw[iQ c];exact⟨rfl,by simpa using hs⟩
  rw[hsp.1]at H2;have H3:HS g h2 (qw b (vN f)::qw b0 (zq a)::R):=H2;have H4:=H3;unfold vN xL zq at H4;refine qJ (qK (qQ (qV ‹_› .here rfl ?_)));by_cases c1:f.state=1
  ·refine qj c1 ?_;rw[iJ c1]at hF;refine qX (qQ (qV ‹_› e_1 rfl ?_));refine qK (qQ (qk H4 (b:=b) .here ⟨rfl,rfl⟩ osQ λh5 H5=>?_));refine qK (qQ (qk H5 (b:=b) .here ⟨rfl,rfl⟩ osQ λh6 H6=>?_));exact hj _ _ (by rw[← hF];exact H6.sub (.cons .here (.drop .refl)))
  refine qq c1 ?_;rw[iQ c1]at hF;refine qJ (qK (qQ (qV ‹_› .here rfl ?_)));by_cases c2:f.state=2
  ·refine qj c2 ?_;refine qG ?_;(try dsimp only);refine qU ?_;(try dsimp only);refine qQ ?_
   refine qA H4 (b:=b0) (off:=1) e_1 rfl omQ (l:=jw a.lk) rfl ?_;refine qK (qQ (qA H4 (b:=b) (off:=9) .here rfl omQ (l:=jw f.lk) rfl ?_));refine Oo (p:=a.lk=f.lk) (qYS _ _) (λc3=>?_) (λc3=>?_)
   ·rw[iJ ⟨c2,c3⟩]at hF;show wp (xh (.bool true) (.bool true) (.bool false) _) _;refine qE (qX (qK (qQ (qY (vk omQ H3) λ_ h5 H5=>?_))));exact hj _ _ (by rw[← hF];exact H5.sub (.cons .here (.drop .refl)))
   ·rw[iQ (λh=>c3 h.2)]at hF;refine qE (qJ (qQ (qA H4 (b:=b0) (off:=1) e_1 rfl omQ (l:=jw a.lk) rfl ?_)));refine qY (KM omQ (hp hsp.2) H3) λ_ h5 H5=>?_;exact hj _ _ (by rw[← hF];exact H5.sub (.cons .here (.drop .refl)))
  ·refine qq c2 ?_;rw[iQ (λh=>c2 h.1)]at hF;refine qG ?_;(try dsimp only);refine qT ?_;(try dsimp only);refine qI (qJ (qQ ?_))
   refine qA H4 (b:=b0) (off:=1) e_1 rfl omQ (l:=jw a.lk) rfl ?_;refine qY (KM omQ (hp hsp.2) H3) λ_ h5 H5=>?_;exact hj _ _ (by rw[← hF];exact H5.sub (.cons .here (.drop .refl)))
theorem YY (hn:2≤n) (H:HS g h L) (s:Sel L (qw b (vN f)) R):t_w n 129 [.ptr b 0] h λr h'=>r=.int .i64 f.p.fin∧h'=h:=by
 refine t_e1 (S:=S129) rfl omQ λk hk=>?_;unfold S129;try simp only[iZ]
 refine qK (qQ (qY (QL omQ H s) ?_));rintro _ _ ⟨rfl,rfl⟩;exact qW ⟨rfl,rfl⟩
theorem qqH (hn:2≤n) (H:HS g h L) (s:Sel L (qw b (vN f)) R):t_w n 314 [.ptr b 0] h λr h'=>r=.int .i64 f.p.by_∧h'=h:=by
 refine t_e1 (S:=S314) rfl omQ λk hk=>?_;unfold S314;try simp only[iZ]
 refine qK (qQ (qY (N5 omQ H s) ?_));rintro _ _ ⟨rfl,rfl⟩;exact qW ⟨rfl,rfl⟩
theorem qZu (hn:3≤n) (H:HS g h L) (s:Sel L (qw b (vN f)) R):t_w n 133 [.ptr b 0] h λr h'=>r=.int .u64 (xP f)∧h'=h:=by
 refine t_e1 (S:=S133) rfl omQ λk hk=>?_;unfold S133;try simp only[iZ]
 refine qY (YY omQ H s) ?_;rintro _ _ ⟨rfl,rfl⟩;unfold xP;by_cases c:f.p.fin=2
 ·refine jK c ?_;rw[iQ (λh=>h c)];refine qJ (qK (qQ ?_));exact qV H s rfl (qW ⟨rfl,rfl⟩)
 ·refine jX c ?_;rw[iJ c];refine qX ?_;exact qW ⟨rfl,rfl⟩
def yM (x:z6):List AV:=[.int .i64 x.1,.int .u64 x.2]
theorem qJ6 (hn:3≤n) (H:HS g h L) (s:Sel L (qw b (vN f)) R):t_w n 131 [.ptr b 0] h λr h'=>r=.agg (yM (yq f))∧HS g h' L:=by
 refine t_e1 (S:=S131) rfl omQ λk hk=>?_;unfold S131;try simp only[iZ]
 refine qH H rfl λb0 h1 H1=>?_;refine qY (YY omQ H1 (.there s)) ?_;rintro _ _ ⟨rfl,rfl⟩;unfold yq;by_cases c:f.p.fin=2
 ·refine jK c ?_;rw[iQ (λh=>h c)];refine qJ (qK (qQ (qV H1 (.there s) rfl ?_)));refine qK (qQ (qV H1 (.there s) rfl ?_));refine qF rfl ?_;refine qe H1 (b:=b0) .here rfl (by show 0+2≤2;omega) rfl λh3 H3=>?_;refine qA H3 (b:=b0) (off:=0) .here rfl omQ (l:=yM (f.stripe,f.lk.1)) rfl ?_;exact qW ⟨rfl,H3.drop⟩
 ·refine jX c ?_;rw[iJ c];refine qX (qF rfl ?_);refine qe H1 (b:=b0) .here rfl (by show 0+2≤2;omega) rfl λh3 H3=>?_;refine qA H3 (b:=b0) (off:=0) .here rfl omQ (l:=yM (0,0)) rfl ?_;exact qW ⟨rfl,H3.drop⟩
end
end
section
variable {g h:AH} {L R:List SP}
section
variable {n m:Nat} {v:AV} {xs:List AV}
theorem Ja (hn:1≤n) (H:HS g h L) (s:Sel L (qL 98 2 m v xs) R) (ha:jG xs=true) (hm:m≤1000000) :
  t_w n 96 [v] h λr h'=>HS g h' (qL 98 2 m r xs::L):=by
 refine t_e1 (S:=S96) rfl omQ λk hk=>?_;unfold S96;try simp only[iZ]
 refine UB H s (λh1 h2=>?_) (qJ ?_)
 ·subst h1 h2;obtain rfl:xs=[]:=iA (by simpa using H.sl_len s);exact qX (qW H.nils)
 ·refine jY (n:=0) (l:=[]) (sz:=2) H rfl rfl rfl rfl λv2 h2 H2=>?_;refine zn H2 (H2.sl (.there s)) omQ omQ ha λv3 h3 H3=>?_;rw[Nat.zero_add,List.nil_append]at H3;exact qW H3
end
theorem QV {α:Type} {f:α→List AV} (hf:∀x,jG (f x)=true):∀l:List α,jG (l.flatMap f)=true:=by
 intro l
 induction l with
 |nil=>rfl
 |cons x l ih=>rw[List.flatMap_cons];unfold jG at*;rw[List.all_append,hf,ih];rfl
section
variable {n b m:Nat} {v wd:AV} {e:TypeId} {xs:List AV} {R2:List SP}
end
section
variable {n p hb tb cb sb:Nat} {wv lv sv:AV} {S:zi} {M:jT} {o:OpM}
theorem MemC.I1 {X:SP} (H:HS g h (X::Na p hb tb cb sb wv lv sv S M R)):HS g h (X::MemC p S M::R):=HS.unsel e_1 (MemC.I (HS.back (A:=Na p hb tb cb sb wv lv sv S M []) H))
theorem Ms {b:Nat} {x:Int} (hn:1≤n) (H:HS g h L) (s:Sel L (qw b [.int .u64 x]) R):t_w n 35 [.ptr b 0] h λr h'=>r=.int .u64 x∧h'=h:=by
 refine t_e1 (S:=S35) rfl omQ λk hk=>?_;unfold S35;try simp only[iZ]
 refine qK (qQ ?_);exact qV H s rfl (qW ⟨rfl,rfl⟩)
theorem qYM (hn:2≤n) (H:HS g h (MemC p S M::R)):t_w n 11 [.ptr p 0] h λr h'=>r=.int .u64 M.n∧h'=h:=by
 refine t_e1 (S:=S11) rfl omQ λk hk=>?_;unfold S11;try simp only[iZ]
 obtain⟨hb,tb,cb,sb,wv,lv,sv,H⟩:=MemC.E H;refine qK (qQ (qV ‹_› .here rfl ?_));refine qY (Ms omQ H e_5) ?_;rintro _ _ ⟨rfl,rfl⟩;exact qW ⟨rfl,rfl⟩
theorem qWE {b:Nat} (hn:1≤n) (H:HS g h (qw b [.int .u64 M.n]::R)):t_w n 70 [.ptr b 0,.int .u64 o.old,.int .u64 o.word] h λr h'=>
  r=.tup [.bool (Q2 M { o with kind:=7 }).1.done,.int .i64 (Q2 M { o with kind:=7 }).1.err]∧HS g h' (qw b [.int .u64 (Q2 M { o with kind:=7 }).2.n]::R):=by
 refine t_e3 (S:=S70) rfl omQ λk hk=>?_;unfold S70;try simp only[iZ]
 unfold Q2;rw[iQ (show¬(7:Int)=6 by decide)];refine gJ (λc1=>?_) (λc1=>?_)
 ·rw[iJ c1];refine qX ?_;exact qW ⟨rfl,H⟩
 rw[iQ c1];refine qJ (xS (λc2=>?_) (λc2=>?_))
 ·rw[iJ (by dsimp only;omega)];refine qX ?_;exact qW ⟨rfl,H⟩
 rw[iQ (by dsimp only;omega)];refine qJ (qK (qQ (qV ‹_› .here rfl ?_)));refine yW (λc3=>?_) (λc3=>?_)
 ·rw[iJ c3];refine qX ?_;exact qW ⟨rfl,H⟩
 ·rw[iQ (λh=>h c3)];refine qJ (qK (qQ (qk H (b:=b) .here ⟨rfl,rfl⟩ osQ λh2 H2=>?_)));exact qW ⟨rfl,H2⟩
def yc (M:jT) (o:OpM):AnM×jT:=if o.kind=1∨o.kind=2 then kU M o else if o.kind=3∨o.kind=4∨o.kind=5 then wn M o else if o.kind=6∨o.kind=7 then Q2 M o else if o.kind=8∨o.kind=9 then NF M o else(anE 1,M)
theorem wu:zz M o=if(yc M o).1.err=0 then((yc M o).1,{ (yc M o).2 with cnt:=(yc M o).2.cnt+1 })else yc M o:=rfl
theorem MC:(yc M o).2.cnt=M.cnt:=by
 unfold yc kU wn Q2 NF
 repeat' split
 all_goals rfl
theorem qq3 (hn:6≤n) (H:HS g h (MemC p S M::R)) :
  t_w n 32 [.ptr p 0,.agg (xI o)] h λr h'=>r=.agg (zq (yc M o).1)∧HS g h' (MemC p S (yc M o).2::R):=by
 refine t_e2 (S:=S32) rfl omQ λk hk=>?_;unfold S32;try simp only[iZ]
 generalize hr:yc M o=r;obtain⟨hb,tb,cb,sb,wv,lv,sv,H⟩:=MemC.E H;refine qH H rfl λb0 h1 H1=>?_;refine qH H1 rfl λb1 h2 H2=>?_;refine qH H2 rfl λb2 h3 H3=>?_;clear H1 H2;unfold xI at H3;refine qQ (qV H3 (b:=b0) e_2 rfl ?_);refine jR [] (λs h'=>s=(.ptr b2 0,.ptr b1 0,())∧HS g h' (qw b2 (zq r.1)::qw b1 (zq an0)::Na p hb tb cb sb wv lv sv S r.2 R)) ?_ ?_
 rotate_left
 ·rintro s h4 ⟨rfl,H4⟩;dsimp only;refine qA H4 (b:=b2) (off:=0) .here rfl omQ (l:=zq r.1) rfl ?_;refine qe H4 (b:=b1) e_1 rfl (by show 0+6≤6;omega) rfl λh5 H5=>?_;refine qv (qA H5 (b:=b1) (off:=0) .here rfl omQ (l:=zq r.1) rfl ?_);exact qW ⟨rfl,MemC.I (H5.drop.drop)⟩
 intro j hj;by_cases k1:o.kind=1
 ·refine qj k1 ?_;refine qX (qK (qQ (qV ‹_› e_3 rfl ?_)));refine qQ (qV ‹_› e_2 rfl ?_);have e:r=(⟨(if 1≤o.at_∧o.at_<M.w.length then qD M.w o.at_ else 0),lk0,false,(if 1≤o.at_∧o.at_<M.w.length then 0 else 2)⟩,M):=by
   rw[← hr];unfold yc kU anE;rw[iJ (.inl k1)];by_cases c:1≤o.at_∧o.at_<M.w.length
   ·rw[iQ omQ,iJ k1,iJ c,iJ c]
   ·rw[iJ omQ,iQ c,iQ c]
  subst e;refine qY (qX6 omQ H3 e_4 e_5) ?_;rintro _ _ ⟨rfl,rfl⟩;refine qB rfl ?_;refine qB rfl ?_;refine qQ (qk H3 (b:=b2) .here ⟨rfl,rfl⟩ (by show 0<6;omega) λh4 H4=>?_);refine qQ (qk H4 (b:=b2) .here ⟨rfl,rfl⟩ (by show 5<6;omega) λh5 H5=>?_);exact hj _ _ ⟨rfl,H5.sub (.cons .here (.cons .here (.drop .refl)))⟩
 refine qq k1 ?_;refine qJ ?_;by_cases k2:o.kind=2
 ·refine qj k2 ?_;refine qX (qK (qQ (qV ‹_› e_3 rfl ?_)));refine qQ (qV ‹_› e_2 rfl ?_);refine qQ (qV ‹_› e_2 rfl ?_);have e:r=(⟨0,lk0,false,(if 1≤o.at_∧o.at_<M.w.length then 0 else 2)⟩,{ M with w:=(if 1≤o.at_∧o.at_<M.w.length then M.w.set o.at_.toNat o.word else M.w) }):=by
   rw[← hr];unfold yc kU anE;rw[iJ (.inr k2)];by_cases c:1≤o.at_∧o.at_<M.w.length
   ·rw[iQ omQ,iQ k1,iJ c,iJ c];rfl
   ·rw[iJ omQ,iQ c,iQ c]
  subst e;refine qY (ZS omQ (H3.sub (.cons e_4 (.cons e_4 .refl)))) ?_;rintro _ h4 ⟨rfl,H4⟩;refine qQ (qk H4 (b:=b2) e_2 ⟨rfl,rfl⟩ (by show 5<6;omega) λh5 H5=>?_);exact hj _ _ ⟨rfl,H5.sub (.cons .here (.cons e_2 (.cons e_3 (.cons .here (.cons .here (.drop .refl))))))⟩
 refine qq k2 ?_;refine qJ ?_;by_cases k3:o.kind=3
 ·refine qj k3 ?_;refine qX (qK (qQ (qV ‹_› e_3 rfl ?_)));refine qQ (qV ‹_› e_2 rfl ?_);have e:r=(⟨0,(if 0≤o.at_∧o.at_<M.l.length then jN M.l o.at_ else lk0),false,(if 0≤o.at_∧o.at_<M.l.length then 0 else 2)⟩,M):=by
   rw[← hr];unfold yc wn anE;rw[iQ omQ,iJ (.inl k3)];by_cases c:0≤o.at_∧o.at_<M.l.length
   ·rw[iQ omQ,iJ k3,iJ c,iJ c]
   ·rw[iJ omQ,iQ c,iQ c]
  subst e;refine qY (qX8 omQ H3 e_6 e_7) ?_;rintro _ h4 ⟨rfl,H4⟩;refine qB rfl ?_;refine qB rfl ?_;refine qQ (qe H4 (b:=b2) .here rfl (by show 1+3≤6;omega) rfl λh5 H5=>?_);refine qQ (qk H5 (b:=b2) .here ⟨rfl,rfl⟩ (by show 5<6;omega) λh6 H6=>?_);exact hj _ _ ⟨rfl,H6.sub (.cons .here (.cons .here (.drop .refl)))⟩
 refine qq k3 ?_;refine qJ ?_;by_cases k4:o.kind=4
 ·refine qj k4 ?_;refine qX (qK (qQ (qV ‹_› e_3 rfl ?_)));refine qQ (qV ‹_› e_2 rfl ?_);refine qQ ?_;have e:r=(⟨0,lk0,decide (wQ M.l.length o.at_ o.lk=0∧jN M.l o.at_=o.was),wQ M.l.length o.at_ o.lk⟩,{ M with l:=if wQ M.l.length o.at_ o.lk=0∧jN M.l o.at_=o.was then M.l.set o.at_.toNat o.lk else M.l }):=by
   rw[← hr];unfold yc wn wQ anE an0;rw[iQ omQ,iJ (.inr (.inl k4))];by_cases c:0≤o.at_∧o.at_<M.l.length
   ·rw[iQ omQ,iQ k3,iJ c];by_cases c2:XY o.lk
    ·rw[iQ (λh=>h c2),iQ omQ,iJ c2];by_cases c3:jN M.l o.at_=o.was
     ·rw[iQ (λh=>h c3),iG ⟨rfl,c3⟩,iJ ⟨rfl,c3⟩]
     ·rw[iJ c3,iV (λh=>c3 h.2),iQ (λh=>c3 h.2)]
    ·rw[iJ c2,iQ c2,iV osQ,iQ osQ]
   ·rw[iJ omQ,iQ c,iV osQ,iQ osQ]
  subst e;refine qA H3 (b:=b0) (off:=4) e_2 rfl omQ (l:=jw o.was) rfl ?_;refine qQ (qA H3 (b:=b0) (off:=7) e_2 rfl omQ (l:=jw o.lk) rfl ?_);refine qY (qWu omQ (H3.sub (.cons e_6 (.cons e_6 .refl)))) ?_;rintro _ h4 ⟨rfl,H4⟩;refine qB rfl ?_;refine qB rfl ?_;refine qQ (qk H4 (b:=b2) e_2 ⟨rfl,rfl⟩ (by show 4<6;omega) λh5 H5=>?_);refine qQ (qk H5 (b:=b2) .here ⟨rfl,rfl⟩ (by show 5<6;omega) λh6 H6=>?_);exact hj _ _ ⟨rfl,H6.sub (.cons .here (.cons e_2 (.cons e_3 (.cons e_3 (.cons e_3 (.cons .here (.cons .here (.drop .refl))))))))⟩
 refine qq k4 ?_;refine qJ ?_;by_cases k5:o.kind=5
 ·refine qj k5 ?_;refine qX (qK (qQ (qV ‹_› e_3 rfl ?_)));refine qQ (qV ‹_› e_2 rfl ?_);refine qQ ?_;have e:r=(⟨0,lk0,false,wQ M.l.length o.at_ o.lk⟩,{ M with l:=if wQ M.l.length o.at_ o.lk=0 then M.l.set o.at_.toNat o.lk else M.l }):=by
   rw[← hr];unfold yc wn wQ anE an0;rw[iQ omQ,iJ (.inr (.inr k5))];by_cases c:0≤o.at_∧o.at_<M.l.length
   ·rw[iQ omQ,iQ k3,iJ c];by_cases c2:XY o.lk
    ·rw[iQ (λh=>h c2),iJ k5,iJ c2,iJ rfl]
    ·rw[iJ c2,iQ c2,iQ od]
   ·rw[iJ omQ,iQ c,iQ od]
  subst e;refine qA H3 (b:=b0) (off:=7) e_2 rfl omQ (l:=jw o.lk) rfl ?_;refine qY (qQ1 omQ (H3.sub (.cons e_6 (.cons e_6 .refl)))) ?_;rintro _ h4 ⟨rfl,H4⟩;refine qQ (qk H4 (b:=b2) e_2 ⟨rfl,rfl⟩ (by show 5<6;omega) λh5 H5=>?_);exact hj _ _ ⟨rfl,H5.sub (.cons .here (.cons e_2 (.cons e_3 (.cons e_3 (.cons e_3 (.cons .here (.cons .here (.drop .refl))))))))⟩
 refine qq k5 ?_;refine qJ ?_;by_cases k6:o.kind=6
 ·refine qj k6 ?_;refine qX (qK (qQ (qV ‹_› e_3 rfl ?_)));have e:r=(⟨M.n,lk0,false,0⟩,M):=by
   rw[← hr];unfold yc Q2;rw[iQ omQ,iQ omQ,iJ (.inl k6),iJ k6]
  subst e;refine qY (Ms omQ H3 e_8) ?_;rintro _ _ ⟨rfl,rfl⟩;refine qQ (qk H3 (b:=b2) .here ⟨rfl,rfl⟩ (by show 0<6;omega) λh4 H4=>?_);exact hj _ _ ⟨rfl,H4.sub (.cons .here (.cons .here (.drop .refl)))⟩
 refine qq k6 ?_;refine qJ ?_;by_cases k7:o.kind=7
 ·refine qj k7 ?_;refine qX (qK (qQ (qV ‹_› e_3 rfl ?_)));refine qQ (qV ‹_› e_2 rfl ?_);refine qQ (qV ‹_› e_2 rfl ?_);have e:r=(⟨0,lk0,(Q2 M { o with kind:=7 }).1.done,(Q2 M { o with kind:=7 }).1.err⟩,{ M with n:=(Q2 M { o with kind:=7 }).2.n }):=by
   rw[← hr];unfold yc Q2 anE an0;rw[iQ omQ,iQ omQ,iJ (.inr k7),iQ k6,iQ (show¬(7:Int)=6 by decide)];dsimp only
   repeat' split
   all_goals rfl
  subst e;refine qY (qWE (o:=o) omQ (H3.sub (.cons e_8 .refl))) ?_;rintro _ h4 ⟨rfl,H4⟩;refine qB rfl ?_;refine qB rfl ?_;refine qQ (qk H4 (b:=b2) e_1 ⟨rfl,rfl⟩ (by show 4<6;omega) λh5 H5=>?_);refine qQ (qk H5 (b:=b2) .here ⟨rfl,rfl⟩ (by show 5<6;omega) λh6 H6=>?_);exact hj _ _ ⟨rfl,H6.sub (.cons .here (.cons e_1 (.cons e_2 (.cons e_2 (.cons e_2 (.cons e_2 (.cons e_2 (.cons .here (.drop .refl)))))))))⟩
 refine qq k7 ?_;refine qJ ?_;by_cases k8:o.kind=8
 ·refine qj k8 ?_;refine qX (qK (qQ (qV ‹_› e_3 rfl ?_)));refine qQ (qV ‹_› e_2 rfl ?_);have e:r=(⟨(if 0≤o.at_∧o.at_<M.s.length then qD M.s o.at_ else 0),lk0,false,(if 0≤o.at_∧o.at_<M.s.length then 0 else 2)⟩,M):=by
   rw[← hr];unfold yc NF anE;rw[iQ omQ,iQ omQ,iQ omQ,iJ (.inl k8)];by_cases c:0≤o.at_∧o.at_<M.s.length
   ·rw[iQ omQ,iJ k8,iJ c,iJ c]
   ·rw[iJ omQ,iQ c,iQ c]
  subst e;refine qY (qKr omQ H3 e_9 e_10) ?_;rintro _ _ ⟨rfl,rfl⟩;refine qB rfl ?_;refine qB rfl ?_;refine qQ (qk H3 (b:=b2) .here ⟨rfl,rfl⟩ (by show 0<6;omega) λh4 H4=>?_);refine qQ (qk H4 (b:=b2) .here ⟨rfl,rfl⟩ (by show 5<6;omega) λh5 H5=>?_);exact hj _ _ ⟨rfl,H5.sub (.cons .here (.cons .here (.drop .refl)))⟩
 refine qq k8 ?_;refine qJ ?_;by_cases k9:o.kind=9
 ·refine qj k9 ?_;refine qX (qK (qQ (qV ‹_› e_3 rfl ?_)));refine qQ (qV ‹_› e_2 rfl ?_);refine qQ (qV ‹_› e_2 rfl ?_);have e:r=(⟨0,lk0,false,(if 0≤o.at_∧o.at_<M.s.length then 0 else 2)⟩,{ M with s:=(if 0≤o.at_∧o.at_<M.s.length then M.s.set o.at_.toNat o.word else M.s) }):=by
   rw[← hr];unfold yc NF anE;rw[iQ omQ,iQ omQ,iQ omQ,iJ (.inr k9)];by_cases c:0≤o.at_∧o.at_<M.s.length
   ·rw[iQ omQ,iQ k8,iJ c,iJ c];rfl
   ·rw[iJ omQ,iQ c,iQ c]
  subst e;refine qY (Zv omQ (H3.sub (.cons e_9 (.cons e_9 .refl)))) ?_;rintro _ h4 ⟨rfl,H4⟩;refine qQ (qk H4 (b:=b2) e_2 ⟨rfl,rfl⟩ (by show 5<6;omega) λh5 H5=>?_);exact hj _ _ ⟨rfl,H5.sub (.cons .here (.cons e_2 (.cons e_3 (.cons e_3 (.cons e_3 (.cons e_3 (.cons e_3 (.cons e_3 (.cons .here (.cons .here (.drop .refl)))))))))))⟩
 refine qq k9 ?_;refine qJ (qQ ?_);have e:r=(anE 1,M):=by rw[← hr];unfold yc;rw[iQ omQ,iQ omQ,iQ omQ,iQ omQ]
 subst e;refine qk H3 (b:=b2) .here ⟨rfl,rfl⟩ (by show 5<6;omega) λh4 H4=>?_;exact hj _ _ ⟨rfl,H4.sub (.cons .here (.cons .here (.drop .refl)))⟩
theorem qKe (hn:7≤n) (hc:0≤M.cnt∧M.cnt<1000000000) (H:HS g h (MemC p S M::R)) :
  t_w n 9 [.ptr p 0,.agg (xI o)] h λr h'=>r=.agg (zq (zz M o).1)∧HS g h' (MemC p S (zz M o).2::R):=by
 refine t_e2 (S:=S9) rfl omQ λk hk=>?_;unfold S9;try simp only[iZ]
 refine qH H rfl λb0 h1 H1=>?_;refine qH H1 rfl λb1 h2 H2=>?_;refine qA H2 (b:=b0) (off:=0) e_1 rfl omQ (l:=xI o) rfl ?_;refine qY (qq3 (o:=o) omQ (H2.sel e_2)) ?_;rintro _ h3 ⟨rfl,H3⟩;have ec:(yc M o).2.cnt=M.cnt:=MC;rw[wu];generalize yc M o=r at*;obtain⟨r,M'⟩:=r;dsimp only at ec H3 ⊢;refine qH H3 rfl λb2 h4 H4=>?_;refine qe H4 (b:=b2) .here rfl (by show 0+6≤6;omega) rfl λh5 H5=>?_;have H5:HS g h5 (qw b2 (zq r)::MemC p S M'::qw b1 (zq an0)::qw b0 (xI o)::R):=H5;clear H3 H4;have H6:=H5;unfold zq at H6;refine jR [] (λs h'=>s=(.ptr b2 0,.ptr b1 0,())∧HS g h' (qw b2 (zq r)::qw b1 (zq an0)::MemC p S (if r.err=0 then(r,{ M' with cnt:=M'.cnt+1 })else(r,M')).2::R)) ?_ ?_
 rotate_left
 ·rintro s h4 ⟨rfl,H4⟩;dsimp only;refine qA H4 (b:=b2) (off:=0) .here rfl omQ (l:=zq r) rfl ?_;refine qe H4 (b:=b1) e_1 rfl (by show 0+6≤6;omega) rfl λh5 H5=>?_;refine qv (qA H5 (b:=b1) (off:=0) .here rfl omQ (l:=zq r) rfl ?_);refine qW ⟨by split<;>rfl,?_⟩;exact H5.drop.drop
 intro j hj;refine qQ (qV ‹_› .here rfl ?_);by_cases c:r.err=0
 ·refine qj c ?_;rw[iJ c]at hj ⊢;refine qX (qK (qQ ?_));obtain⟨hb,tb,cb,sb,wv,lv,sv,H7⟩:=MemC.E (H5.sel e_1);refine qV ‹_› .here rfl ?_;refine qf omQ ?_;refine qK (qQ (qk H7 (b:=p) .here ⟨rfl,rfl⟩ (by show 9<10;omega) λh8 H8=>?_));have H9:HS g h8 (MemC p S { M' with cnt:=M'.cnt+1 }::_):=MemC.I (hb:=hb) (tb:=tb) (cb:=cb) (sb:=sb) (wv:=wv) (lv:=lv) (sv:=sv) H8;exact hj _ _ ⟨rfl,H9.sub (.cons e_1 (.cons e_1 (.cons .here (.drop .refl))))⟩
 ·refine qq c ?_;rw[iQ c]at hj ⊢;refine qJ ?_;exact hj _ _ ⟨rfl,H5.sub (.cons .here (.cons e_1 (.cons .here (.drop .refl))))⟩
end
end
section
variable {g h:AH} {L R:List SP}
theorem qXA:∀{a b:List Int},a.Pairwise (· < ·)→b.Pairwise (· < ·)→(∀x,x∈a↔x∈b)→a=b:=by
 intro a
 induction a with
 |nil=>
  intro b _ _ h;cases b with
  |nil=>rfl
  |cons y b=>have:=(h y).2 (iK ..);cases this
 |cons x a ih=>
  intro b ha hb h;cases b with
  |nil=>have:=(h x).1 (iK ..);cases this
  |cons y b=>
   have ha':=List.pairwise_cons.1 ha;have hb':=List.pairwise_cons.1 hb;have e:x=y:=by
    rcases List.mem_cons.1 ((h x).1 (iK ..))with e |e
    ·exact e
    ·rcases List.mem_cons.1 ((h y).2 (iK ..))with e2 |e2
     ·exact e2.symm
     ·have h1:=hb'.1 x e;have h2:=ha'.1 y e2;omega
   subst e
   congr 1
   refine ih ha'.2 hb'.2 λz=>⟨λhz=>?_,λhz=>?_⟩
   ·rcases List.mem_cons.1 ((h z).1 (iX _ hz))with e |e
    ·have:=ha'.1 z hz;omega
    ·exact e
   ·rcases List.mem_cons.1 ((h z).2 (iX _ hz))with e |e
    ·have:=hb'.1 z hz;omega
    ·exact e
theorem ZQ {d:Array Int} (hs:∀i j,i≤j→j<d.size→d[i]! ≤d[j]!):∀m,m≤d.size→(Lib.compactUpTo d m).Pairwise (· < ·)∧∀x,x∈Lib.compactUpTo d m↔∃j,j<m∧d[j]! =x:=by
 intro m
 induction m with
 |zero=>intro _;exact⟨List.Pairwise.nil,λx=>⟨(λh=>by cases h),λ⟨j,h,_⟩=>by omega⟩⟩
 |succ m ih=>
  intro hm;obtain⟨p,q⟩:=ih omQ;rw[Lib.compactUpTo_succ];by_cases hk:Lib.keeps d m=true
  ·rw[iJ hk];refine⟨?_,λx=>?_⟩
   ·rw[List.pairwise_append];refine⟨p,List.pairwise_singleton ..,λa ha b hb=>?_⟩;rw[List.mem_singleton]at hb;subst hb;obtain⟨j,hj,rfl⟩:=(q a).1 ha;have h1:=hs j (m-1) omQ omQ;have h2:=hs (m-1) m omQ omQ;have h3:d[m]! ≠d[m-1]!:=by
     intro e;rw[Lib.keeps_neg omQ e]at hk;cases hk
    omega
   ·rw[List.mem_append,q x,List.mem_singleton];refine⟨λh=>?_,λ⟨j,hj,e⟩=>?_⟩
    ·rcases h with⟨j,hj,e⟩ |e
     ·exact⟨j,by omega,e⟩
     ·exact⟨m,by omega,e.symm⟩
    ·by_cases hjm:j=m
     ·subst hjm;exact .inr e.symm
     ·exact .inl ⟨j,by omega,e⟩
  ·rw[iQ hk,List.append_nil];refine⟨p,λx=>?_⟩;rw[q x];refine⟨λ⟨j,hj,e⟩=>⟨j,by omega,e⟩,λ⟨j,hj,e⟩=>?_⟩;by_cases hjm:j=m
   ·subst hjm;have h0:0<j:=by
     rcases Nat.eq_zero_or_pos j with h |h
     ·subst h;exact absurd (Lib.keeps_lt_one d 0 omQ) hk
     ·exact h
    refine⟨j-1,by omega,?_⟩;refine Decidable.byContradiction λhne=>hk (Lib.keeps_pos λh=>hne ?_);rw[← h,e]
   ·exact⟨j,by omega,e⟩
theorem qWR {zs:List Int} (h:zs.Pairwise (· ≤ ·)):(Lib.compact zs).Pairwise (· < ·)∧∀x,x∈Lib.compact zs↔x∈zs:=by
 have hg:∀i:Nat,i<zs.length→zs.toArray[i]! =zs[i]!:=λi hi=>by simp
 obtain⟨p,q⟩:=ZQ (d:=zs.toArray) (λi j hij hj=>by
  have hj:j<zs.length:=by simpa using hj
  rw[hg i omQ,hg j hj,getElem!_pos zs i omQ,getElem!_pos zs j hj];by_cases e:i=j
  ·subst e;exact Int.le_refl _
  ·exact List.pairwise_iff_getElem.1 h i j omQ hj omQ) zs.length osQ
 refine⟨p,λx=>?_⟩;refine(q x).trans ⟨λ⟨j,hj,e⟩=>?_,λhx=>?_⟩
 ·rw[hg j hj,getElem!_pos zs j hj]at e;rw[← e];exact List.getElem_mem hj
 ·obtain⟨j,hj,e⟩:=List.mem_iff_getElem.1 hx;exact⟨j,hj,by rw[hg j hj,getElem!_pos zs j hj];exact e⟩
theorem GL {p n w:Int} (h:0≤p):0≤ofM p n w∧ofM p n w<16:=by unfold ofM;rw[iQ omQ];have h1:=Int.emod_nonneg (p/max 1 (min w 16)) (show max 1 (min n 16)≠0 by omega);have h2:=Int.emod_lt_of_pos (p/max 1 (min w 16)) (show 0<max 1 (min n 16) by omega);omega
theorem kx {cs:List Cl} {n w:Int}:(jS cs n w).Pairwise (· < ·):=by unfold jS;refine List.Pairwise.filter _ ?_;rw[List.pairwise_map];exact List.pairwise_lt_range.imp λh=>by omega
theorem Qg {cs:List Cl} {n w:Int} (h:∀c∈cs,0≤c.1) {x:Int}:x∈jS cs n w↔x∈cs.map λc=>ofM c.1 n w:=by unfold jS;rw[List.mem_filter,List.any_eq_true,List.mem_map,List.mem_map];refine⟨λ⟨_,c,hc,e⟩=>⟨c,hc,by simpa using e⟩,λ⟨c,hc,e⟩=>⟨?_,c,hc,by simpa using e⟩⟩;have:=GL (n:=n) (w:=w) (h c hc);exact⟨x.toNat,List.mem_range.2 omQ,by omega⟩
theorem NV {cs:List Cl} {n w:Int} (h:∀c∈cs,0≤c.1):Lib.compact (wY (cs.map λc=>ofM c.1 n w))=jS cs n w:=by obtain⟨p,q⟩:=qWR (JX (cs.map λc=>ofM c.1 n w));exact qXA p kx λx=>by rw[q,(ks _).mem_iff,Qg h]
section
variable {n m:Nat} {v:AV} {zs:List Int}
theorem qKi {e:TypeId} (hn:1≤n) (H:HS g h (qL e 1 m v (zs.map (.int .i64))::R)) (h0:0<m) (hm:m≤1000000) :
  t_w n 127 [v] h λ_ h'=>HS g h' (qL e 1 m v ((wY zs).map (.int .i64))::R):=by
 have hl:zs.length=m:=by have:=H.sl_len .here;simpa using this
 obtain⟨b,cp,o,ys,rfl,HC,q1,q2,q3⟩:=H.slE h0;rw[Nat.mul_one]at q1 q2;refine qC (g:=W127) rfl omQ λk hk=>?_;show wp (MA _ [.slice b 0 m cp o] h) _;obtain⟨D,⟨hD,A⟩,hb2,kk⟩:=HC.act;obtain⟨c,c1,c2,c3⟩:=A.blk;unfold MA;simp only[c1,c2];rw[q2,UI];simp only[];rw[show Nat.beq zs.length m=true from by rw[hl];exact Nat.beq_refl _,iY hm];simp only[Bool.and_self,cond_true];refine⟨_,_,rfl,?_⟩;have HC':=kk _ (Cell b ((wY zs).map (.int .i64)++ys.drop m) e o) D ⟨by simp,λa ha hn=>AH.get_put_ne h _ λe=>hn ((hD a).2 e.symm)⟩ ⟨hD,by simpa using A.lt,CT.ofList _,AH.get_put_same ..,CT.ofList_ok _,CT.full_ofList _⟩ λa ha=>⟨.inl ha,by have:=(hb2 a ha).2;simpa using this⟩;have hlen:((wY zs).map (AV.int .i64)).length=m:=by rw[List.length_map,Gu,hl]
 have:=HS.slI (n:=m) (sz:=1) (cp:=cp) HC' (by rw[List.length_append,hlen];omega) (by
  rw[List.length_append,hlen,List.length_drop,show m+(ys.length-m)=ys.length by omega];exact q3)
 rw[Nat.mul_one,List.take_append_of_le_length omQ,List.take_of_length_le omQ]at this;exact this
theorem qXb (hn:1≤n) (H:HS g h (qL 3 1 m v (zs.map (.int .i64))::R)) (h0:0<m) (hm:m≤1000000) :
  t_w n 128 [v] h λr h'=>HS g h' (qL 3 1 (Lib.compact zs).length r ((Lib.compact zs).map (.int .i64))::R):=by
 have hl:zs.length=m:=by have:=H.sl_len .here;simpa using this
 obtain⟨b,cp,o,ys,rfl,HC,q1,q2,q3⟩:=H.slE h0;rw[Nat.mul_one]at q1 q2;refine qC (g:=W128) rfl omQ λk hk=>?_;show wp (Vy 3 _ [.slice b 0 m cp o] h) _;obtain⟨D,⟨hD,A⟩,hb2,kk⟩:=HC.act;obtain⟨c,c1,c2,c3⟩:=A.blk;have hle:=Oz zs;unfold Vy;simp only[c1,c2];rw[q2,UI];simp only[];have hc:(Nat.beq zs.length m&&(Nat.ble m 1000000&&(bif o then Nat.beq cp 0&&(o&&Nat.beq 3 3)else Nat.ble m cp)))=true:=by
  rw[show Nat.beq zs.length m=true from by rw[hl];exact Nat.beq_refl _,iY hm];cases o with
  |true=>rw[iJ rfl]at q3;subst q3;rfl
  |false=>rw[iQ osQ]at q3;simp only[Bool.true_and,cond_false];exact iY q3.2
 rw[hc];simp only[cond_true];refine⟨_,_,rfl,?_⟩;have HC':=kk _ (Cell b ((Lib.compact zs++List.replicate (zs.length-(Lib.compact zs).length) 0).map (.int .i64)++ys.drop m) 3 o) D ⟨by simp,λa ha hn=>AH.get_put_ne h _ λe=>hn ((hD a).2 e.symm)⟩ ⟨hD,by simpa using A.lt,CT.ofList _,AH.get_put_same ..,CT.ofList_ok _,CT.full_ofList _⟩ λa ha=>⟨.inl ha,by have:=(hb2 a ha).2;simpa using this⟩;have hlen:((Lib.compact zs++List.replicate (zs.length-(Lib.compact zs).length) 0).map (AV.int .i64)).length=m:=by simp;omega
 have:=HS.slI (n:=(Lib.compact zs).length) (sz:=1) (cp:=cp) HC' (by rw[List.length_append,hlen];omega) (by
  rw[List.length_append,hlen,List.length_drop,show m+(ys.length-m)=ys.length by omega];cases o with
  |true=>exact q3
  |false=>rw[iQ osQ]at q3 ⊢;exact⟨q3.1,by omega⟩)
 have tk:((Lib.compact zs++List.replicate (zs.length-(Lib.compact zs).length) 0).map (AV.int .i64)++ys.drop m).take (Lib.compact zs).length=(Lib.compact zs).map (AV.int .i64):=by rw[List.take_append_of_le_length omQ,List.map_append,List.take_append_of_le_length osQ,List.take_of_length_le osQ]
 rw[Nat.mul_one,tk]at this;exact this
theorem qKn:∀{l:List Int},l.Pairwise (· ≤ ·)→Gj l=true:=by
 intro l
 induction l with
 |nil=>intro _;rfl
 |cons x r ih=>
  intro h;cases r with
  |nil=>rfl
  |cons y r=>have h1:=List.pairwise_cons.1 h;unfold Gj;rw[ih h1.2,iG (h1.1 y (iK ..))];rfl
theorem qVB {e:TypeId} {x:Int} (hn:1≤n) (H:HS g h L) (s:Sel L (qL e 1 m v (zs.map (.int .i64))) R) (h0:0<m) (hm:m≤1000000) (hs:zs.Pairwise (· ≤ ·)) :
  t_w n 338 [v,.int .i64 x] h λr h'=>r=.tup [.int .i64 (zs.countP (· <x):Nat),.bool (zs.contains x)]∧h'=h:=by
 have hl:zs.length=m:=by have:=H.sl_len s;simpa using this
 obtain⟨b,cp,o,ys,rfl,HC,q1,q2,q3⟩:=(H.sel s).slE h0;rw[Nat.mul_one]at q1 q2;refine qC (g:=W338) rfl omQ λk hk=>?_;show wp (Vw _ [.slice b 0 m cp o,.int .i64 x] h) _;obtain⟨D,⟨hD,A⟩,hb2,kk⟩:=HC.act;obtain⟨c,c1,c2,c3⟩:=A.blk;unfold Vw;simp only[c1,c2];rw[q2,UI];simp only[];rw[show Nat.beq zs.length m=true from by rw[hl];exact Nat.beq_refl _,iY hm,qKn hs];exact⟨_,_,rfl,rfl,rfl⟩
end
theorem YB {n:Nat} {a b:Int} (hn:1≤n):t_w n 48 [.int .i64 a,.int .i64 b] h λr h'=>r=.int .i64 (max 1 (min a b))∧h'=h:=by
 refine t_e2 (S:=S48) rfl omQ λk hk=>?_;unfold S48;try simp only[iZ]
 refine zB (zP ?_);exact qW ⟨rfl,rfl⟩
theorem qJi {n:Nat} {p a w:Int} (hn:2≤n) (hp:p<4611686018427387904):t_w n 92 [.int .i64 p,.int .i64 a,.int .i64 w] h λr h'=>r=.int .i64 (ofM p a w)∧h'=h:=by
 refine t_e3 (S:=S92) rfl omQ λk hk=>?_;unfold S92;try simp only[iZ]
 unfold ofM;by_cases c:p<0
 ·refine zJ c ?_;rw[iJ c];refine qX ?_;exact qW ⟨rfl,rfl⟩
 ·refine jb c ?_;rw[iQ c];refine qJ (qY (YB omQ) ?_);rintro _ _ ⟨rfl,rfl⟩;refine qKo omQ ?_;have h1:p.tdiv (max 1 (min w ((16:Nat):Int)))=p/max 1 (min w 16):=Int.tdiv_eq_ediv_of_nonneg omQ;have h2:0≤p/max 1 (min w 16):=Int.ediv_nonneg omQ omQ;have h3:p/max 1 (min w 16)≤p:=Int.ediv_le_self _ omQ;rw[h1,V5 omQ];refine qY (YB omQ) ?_;rintro _ _ ⟨rfl,rfl⟩;refine Jz omQ ?_;rw[Int.tmod_eq_emod_of_nonneg h2];exact qW ⟨rfl,rfl⟩
theorem OX {n:Nat} {cv:AV} {cs:List Cl} {a w:Int} (hn:4≤n) (H:HS g h R) (S:Rd g R 2 cs.length cv (cs.flatMap jU)) (h0:0<cs.length) (hl:cs.length≤1000) (hc:∀c∈cs,0≤c.1∧c.1<100000) :
  t_w n 98 [cv,.int .i64 a,.int .i64 w] h λr h'=>HS g h' (qL 3 1 (jS cs a w).length r ((jS cs a w).map (.int .i64))::R):=by
 refine t_e3 (S:=S98) rfl omQ λk hk=>?_;unfold S98;try simp only[iZ]
 have hLV:=(S.sl H).lenV;refine xR ‹_› ?_
 refine zG (λm s h'=>∃(i:Nat) (v:AV),s=(.int .i64 (i:Int),.int .i64 (cs.length:Int),cv,v,.int .i64 w,.int .i64 a,())∧i≤cs.length∧m=cs.length-i∧
  HS g h' (qL 3 1 i v (((cs.take i).map λc=>ofM c.1 a w).map (.int .i64))::R))
  ?_ (m:=cs.length) (by show _<1000000000;omega) ⟨0,.nils,rfl,by omega,by omega,H.nils⟩
 clear H hLV;rintro m ih s h2 hih ⟨i,v,rfl,hi,rfl,H⟩;dsimp only;by_cases hlt:i<cs.length
 ·refine zJ omQ (qX ?_);have hci:=hc _ (List.getElem_mem hlt);have hr:=GL (n:=a) (w:=w) hci.1;refine qG ?_
  try dsimp only
  refine xK (l:=jU cs[i]) (S.sl H.drop) hlt omQ (gP (sz:=2) (enc:=jU) (λ_=>rfl) (iW hlt)) ?_;refine qH H rfl λb h3 H3=>?_;refine qe H3 (b:=b) .here rfl (by show 0+2≤2;omega) rfl λh4 H4=>?_;have H4:HS g h4 (qw b [.int .i64 cs[i].1,.int .u64 cs[i].2]::qL 3 1 i v (((cs.take i).map λc=>ofM c.1 a w).map (.int .i64))::R):=H4;refine qQ (qV ‹_› .here rfl ?_);refine qY (qJi omQ omQ) ?_;rintro _ _ ⟨rfl,rfl⟩;refine jh omQ (qX ?_);refine jY (n:=1) (l:=[.int .i64 (ofM cs[i].1 a w)]) (sz:=1) H4 rfl rfl rfl rfl λv2 h5 H5=>?_;refine zn (H5.sel e_2) (H5.sl .here) omQ omQ rfl λv3 h6 H6=>?_;refine qf omQ ?_;refine hih (cs.length-(i+1)) _ _ omQ ⟨i+1,v3,rfl,by omega,rfl,?_⟩;have e:(cs.take (i+1)).map (λc=>ofM c.1 a w)=(cs.take i).map (λc=>ofM c.1 a w)++[ofM cs[i].1 a w]:=by rw[List.take_add_one,iW hlt,List.map_append];rfl
  rw[e,List.map_append];exact H6.sub (.cons .here (.drop (.drop .refl)))
 ·obtain rfl:i=cs.length:=by omega
  refine jb omQ (qJ ?_);rw[List.take_of_length_le (Nat.le_refl _)]at H;refine qY (qKi omQ H h0 omQ) λ_ h3 H3=>?_;refine qY (qXb omQ H3 h0 omQ) λr h4 H4=>?_;rw[NV λc hc'=>(hc c hc').1]at H4;refine qv ?_;exact qW H4
end
section
variable {g h:AH} {L R:List SP}
theorem VW {l:List z6} {k:Nat} (hk:k<l.length):((l.flatMap yM).drop (k*2)).take 2=yM (jr l (k:Int)):=gP (sz:=2) (enc:=yM) (λ_=>rfl) (by unfold jr;rw[Int.toNat_natCast,iW hk];rfl)
theorem yd {l:List z6} {k:Nat} (hk:k<l.length):(l.flatMap yM)[k*2+0]? =some (.int .i64 (jr l (k:Int)).1)∧(l.flatMap yM)[k*2+1]? =some (.int .u64 (jr l (k:Int)).2):=by
 have e:=VW hk;have hl:(l.flatMap yM).length=l.length*2:=Js (sz:=2) yM (λ_=>rfl) (l:=l);constructor
 ·have:=congrArg (·[0]?) e;simp only[List.getElem?_take_of_lt (show 0<2 by omega),List.getElem?_drop]at this;exact this
 ·have:=congrArg (·[1]?) e;simp only[List.getElem?_take_of_lt (show 1<2 by omega),List.getElem?_drop]at this;exact this
def RdsC (b:Nat) (r:List z6):SP:=.ex λsv=>.all [qw b [.int .i64 16,sv],qL 98 2 r.length sv (r.flatMap yM)]
section
variable {n b:Nat} {r:List z6} {x:z6}
theorem RdsC.E (H:HS g h (RdsC b r::R)):∃sv,HS g h (qw b [.int .i64 16,sv]::qL 98 2 r.length sv (r.flatMap yM)::R):=by obtain⟨sv,H⟩:=H.exE;exact⟨sv,H.allE⟩
theorem RdsC.I {sv:AV} (H:HS g h (qw b [.int .i64 16,sv]::qL 98 2 r.length sv (r.flatMap yM)::R)):HS g h (RdsC b r::R):=HS.exI sv H.allI
theorem qGt (hn:1≤n) (H:HS g h R):t_w n 51 [.int .i64 ((16:Nat):Int)] h λv h'=>∃b,v=.ptr b 0∧HS g h' (RdsC b []::R):=by
 refine t_e1 (S:=S51) rfl omQ λk hk=>?_;unfold S51;try simp only[iZ]
 refine zB (zP (qF rfl ?_));refine qH H rfl λb h1 H1=>qW ⟨b,rfl,RdsC.I (sv:=.nils) ?_⟩;have:=(H1.nils (e:=98) (sz:=2));exact this.sub (.cons e_1 (.cons .here .refl))
theorem qWD {r:List z6} {i:Nat} {st:Int} {y:z6} (hb:∀z∈r.take i,z.1≠st) (hi:r[i]? =some y) (hy:y.1=st):r.find? (λz=>decide (z.1=st))=some y:=by
 obtain⟨hlt,e⟩:=List.getElem?_eq_some_iff.1 hi;have h1:(r.take i).find? (λz=>decide (z.1=st))=none:=List.find?_eq_none.2 λz hz=>by simpa using hb z hz
 have h2:r=r.take i++y::r.drop (i+1):=by rw[← e,← List.drop_eq_getElem_cons hlt,List.take_append_drop]
 rw[h2,List.find?_append,h1,List.find?_cons,iG hy];rfl
theorem qGm {st:Int} (hn:1≤n) (hr:r.length≤1000) (H:HS g h (RdsC b r::R)) :
  t_w n 157 [.ptr b 0,.int .i64 st] h λv h'=>v=.tup [.int .u64 ((r.find? λz=>decide (z.1=st)).getD (0,0)).2,.bool (r.find? λz=>decide (z.1=st)).isSome]∧HS g h' (RdsC b r::R):=by
 refine t_e2 (S:=S157) rfl omQ λk hk=>?_;unfold S157;try simp only[iZ]
 obtain⟨sv,H⟩:=RdsC.E H;refine qK (qQ (qV ‹_› .here rfl ?_));refine qs ‹_› e_1 ?_;refine zG (λm s h'=>∃i:Nat,s=(.int .i64 (i:Int),.int .i64 (r.length:Int),sv,.int .i64 st,())∧i≤r.length∧m=r.length-i∧(∀z∈r.take i,z.1≠st)∧HS g h' (qw b [.int .i64 16,sv]::qL 98 2 r.length sv (r.flatMap yM)::R))
  ?_ (m:=r.length) (by show _<1000000000;omega) ⟨0,rfl,by omega,by omega,by simp,H⟩
 clear H;rintro m ih s h2 hih ⟨i,rfl,hi,rfl,hb,H⟩;dsimp only;by_cases hlt:i<r.length
 ·refine zJ omQ (qX ?_);refine xK (l:=yM (jr r i)) (H.sl e_1) hlt omQ (VW hlt) ?_;refine qH H rfl λc h3 H3=>?_;refine qe H3 (b:=c) .here rfl (by show 0+2≤2;omega) rfl λh4 H4=>?_;have H4:HS g h4 (qw c [.int .i64 (jr r i).1,.int .u64 (jr r i).2]::qw b [.int .i64 16,sv]::qL 98 2 r.length sv (r.flatMap yM)::R):=H4;have hg:r[i]? =some (jr r i):=by unfold jr;rw[Int.toNat_natCast,iW hlt];rfl
  refine qQ (qV ‹_› .here rfl ?_);by_cases hy:(jr r i).1=st
  ·refine qj hy ?_;refine qX (qQ (qV ‹_› .here rfl ?_));refine qv ?_;rw[qWD hb hg hy];exact qW ⟨rfl,RdsC.I H4.drop⟩
  ·refine qq hy ?_;refine qJ (qf omQ ?_);refine hih (r.length-(i+1)) _ _ omQ ⟨i+1,rfl,by omega,rfl,?_,H4.drop⟩;intro z hz;rw[List.take_add_one,hg]at hz;rcases List.mem_append.1 hz with hz |hz
   ·exact hb z hz
   ·simp only[Option.toList_some,List.mem_singleton]at hz;subst hz;exact hy
 ·obtain rfl:i=r.length:=by omega
  refine jb omQ (qJ ?_);rw[List.take_of_length_le (Nat.le_refl _)]at hb;rw[List.find?_eq_none.2 λz hz=>by simpa using hb z hz];refine qv ?_;exact qW ⟨rfl,RdsC.I H⟩
theorem qG8 (hn:2≤n) (hr:r.length≤16) (H:HS g h (RdsC b r::R)) :
  t_w n 130 [.ptr b 0,.agg (yM x)] h λv h'=>v=.int .i64 (ga r x).1∧HS g h' (RdsC b (ga r x).2::R):=by
 refine t_e2 (S:=S130) rfl omQ λk hk=>?_;unfold S130;try simp only[iZ]
 generalize hA:ga r x=A;refine qH H rfl λb0 h1 H1=>?_;have H1:HS g h1 (qw b0 [.int .i64 x.1,.int .u64 x.2]::RdsC b r::R):=H1;unfold ga at hA;refine qQ (qV ‹_› .here rfl ?_);by_cases c1:x.1<0
 ·refine zJ c1 ?_;refine qG ?_;(try dsimp only);refine qr ?_;(try dsimp only);refine qE (qG ?_);(try dsimp only);refine qr ?_;(try dsimp only);refine qE (qX ?_)
  rw[iJ (.inl c1)]at hA;subst hA;exact qW ⟨rfl,H1.drop⟩
 refine jb c1 ?_;refine qG ?_;(try dsimp only);refine qd ?_;(try dsimp only);refine qQ (qV ‹_› .here rfl ?_)
 by_cases c2:16≤x.1
 ·refine jh omQ ?_;refine qI (qG ?_);(try dsimp only);refine qr ?_;(try dsimp only);refine qE (qX ?_)
  rw[iJ (.inr (.inl c2))]at hA;subst hA;exact qW ⟨rfl,H1.drop⟩
 refine ju omQ ?_;refine qI (qG ?_);(try dsimp only);refine qd ?_;(try dsimp only);refine qQ (qV ‹_› .here rfl ?_)
 by_cases c3:4611686018427387904≤x.2
 ·refine jh omQ ?_;refine qI (qX ?_);rw[iJ (.inr (.inr c3))]at hA;subst hA;exact qW ⟨rfl,H1.drop⟩
 refine ju omQ ?_;refine qI (qJ (qQ (qV ‹_› .here rfl ?_)));rw[iQ omQ]at hA;refine qY (qGm omQ omQ (H1.sel e_1)) ?_;rintro _ h2 ⟨rfl,H2⟩;have H3:=H2.sel e_1;refine qB rfl ?_;refine qB rfl ?_;cases hf:r.find? λz=>decide (z.1=x.1)with
 |some y=>
  rw[hf]at hA;dsimp only at hA;refine qX (qQ (qV ‹_› .here rfl ?_));by_cases c4:y.2=x.2
  ·refine jK c4 ?_;rw[iQ (λh=>h c4)]at hA;subst hA;refine qJ ?_;exact qW ⟨rfl,H3.drop⟩
  ·refine jX c4 ?_;rw[iJ c4]at hA;subst hA;refine qX ?_;exact qW ⟨rfl,H3.drop⟩
 |none=>
  rw[hf]at hA;dsimp only at hA;refine qJ ?_;obtain⟨sv,H4⟩:=RdsC.E H2;refine qK (qQ (qV ‹_› .here rfl ?_));refine qs ‹_› e_1 ?_;refine qK (qQ (qV ‹_› .here rfl ?_));by_cases c4:r.length=16
  ·refine qj omQ ?_;rw[iJ c4]at hA;subst hA;refine qX ?_;exact qW ⟨rfl,H3.drop⟩
  ·refine qq omQ ?_;rw[iQ c4]at hA;subst hA;refine qJ (qK (qQ (qV ‹_› .here rfl ?_)));refine qA H4 (b:=b0) (off:=0) e_2 rfl omQ (l:=yM x) rfl ?_;refine jY (n:=1) (l:=yM x) (sz:=2) H4 rfl rfl rfl rfl λv2 h5 H5=>?_;refine zn (H5.sel e_2) (H5.sl .here) omQ omQ rfl λv3 h6 H6=>?_;have o6:=H6.one .here;refine qK (qQ (qk H6 (b:=b) e_2 o6 osQ λh7 H7=>?_));refine qW ⟨rfl,RdsC.I (sv:=v3) ?_⟩;rw[List.length_append,List.flatMap_append];exact H7.sub (.cons .here (.cons .here (.drop (.drop .refl))))
theorem Ou (hn:2≤n) (hr:r.length≤1000) (H:HS g h (RdsC b r::R)):t_w n 61 [.ptr b 0] h λv h'=>HS g h' (qL 98 2 r.length v (r.flatMap yM)::RdsC b r::R):=by
 refine t_e1 (S:=S61) rfl omQ λk hk=>?_;unfold S61;try simp only[iZ]
 obtain⟨sv,H⟩:=RdsC.E H;refine qK (qQ (qV ‹_› .here rfl ?_));refine qY (Ja omQ H e_1 (QV (λ_=>rfl) _) omQ) λv h1 H1=>qW ?_;exact HS.unsel e_1 (RdsC.I (sv:=sv) (H1.sub (.cons e_1 (.cons e_1 (.cons .here .refl)))))
end
def Yr (x:wD) (sv:AV):List AV:=xL x.p [sv,.bool x.loaded,.int .i64 x.at_,.int .u64 x.stamp]
def ExtC (b:Nat) (x:wD):SP:=.ex λsv=>.all [qw b (Yr x sv),qL 98 2 x.seen.length sv (x.seen.flatMap yM)]
structure YH (x:wD):Prop where
  p:X7 x.p
  lo:0≤x.at_
  hi:x.at_≤1000
  len:x.seen.length≤16
  le:x.at_≤x.seen.length
  in_:x.p.fin=0→x.loaded=true→x.at_<x.seen.length
section
variable {n b:Nat} {x:wD}
theorem ExtC.E (H:HS g h (ExtC b x::R)):∃sv,HS g h (qw b (Yr x sv)::qL 98 2 x.seen.length sv (x.seen.flatMap yM)::R):=by obtain⟨sv,H⟩:=H.exE;exact⟨sv,H.allE⟩
theorem ExtC.I {sv:AV} (H:HS g h (qw b (Yr x sv)::qL 98 2 x.seen.length sv (x.seen.flatMap yM)::R)):HS g h (ExtC b x::R):=HS.exI sv H.allI
theorem qVf {me sp:Int} {v:AV} {r:List z6} (hn:2≤n) (hr:r.length≤1000) (H:HS g h (qL 98 2 r.length v (r.flatMap yM)::R)) :
  t_w n 93 [.int .i64 me,.int .i64 sp,v] h λv h'=>∃b,v=.ptr b 0∧HS g h' (ExtC b (Mg me sp r)::R):=by
 refine t_e3 (S:=S93) rfl omQ λk hk=>?_;unfold S93;try simp only[iZ]
 refine qY (Uo omQ H) ?_;rintro _ h1 ⟨rfl,H1⟩;refine qY (Ja omQ H1 .here (QV (λ_=>rfl) _) omQ) λv h2 H2=>?_;unfold xL;have o2:=H2.one .here;refine qF (l:=Yr (Mg me sp r) v) (by simp only[vK,o2.1];rfl) ?_;refine qH H2 (by show jG [_,_,_,_,_,v,_,_,_]=true;simp only[jG,List.all_cons,o2.2];rfl) λb h3 H3=>qW ⟨b,rfl,?_⟩;exact ExtC.I (sv:=v) (H3.sub (.cons .here (.cons .here (.drop .refl))))
theorem OF (hn:2≤n) {sv:AV} (H:HS g h L) (s:Sel L (qw b (Yr x sv)) R):t_w n 134 [.ptr b 0] h λr h'=>r=.int .i64 x.p.fin∧h'=h:=by
 refine t_e1 (S:=S134) rfl omQ λk hk=>?_;unfold S134;try simp only[iZ]
 refine qK (qQ (qY (QL omQ H s) ?_));rintro _ _ ⟨rfl,rfl⟩;exact qW ⟨rfl,rfl⟩
theorem qqi (hn:2≤n) {sv:AV} (H:HS g h L) (s:Sel L (qw b (Yr x sv)) R):t_w n 322 [.ptr b 0] h λr h'=>r=.int .i64 x.p.by_∧h'=h:=by
 refine t_e1 (S:=S322) rfl omQ λk hk=>?_;unfold S322;try simp only[iZ]
 refine qK (qQ (qY (N5 omQ H s) ?_));rintro _ _ ⟨rfl,rfl⟩;exact qW ⟨rfl,rfl⟩
theorem KV (hn:3≤n) {sv:AV} (H:HS g h L) (s:Sel L (qw b (Yr x sv)) R):t_w n 101 [.ptr b 0] h λr h'=>r=.int .u64 (yl x)∧h'=h:=by
 refine t_e1 (S:=S101) rfl omQ λk hk=>?_;unfold S101;try simp only[iZ]
 refine qY (OF omQ H s) ?_;rintro _ _ ⟨rfl,rfl⟩;unfold yl;by_cases c:x.p.fin=2
 ·refine jK c ?_;rw[iQ (λh=>h c)];refine qJ (qK (qQ ?_));exact qV H s rfl (qW ⟨rfl,rfl⟩)
 ·refine jX c ?_;rw[iJ c];refine qX ?_;exact qW ⟨rfl,rfl⟩
theorem qJs (hn:2≤n) (O:YH x) (H:HS g h (ExtC b x::R)):t_w n 323 [.ptr b 0] h λr h'=>r=opV (kE x)∧HS g h' (ExtC b x::R):=by
 refine t_e1 (S:=S323) rfl omQ λk hk=>?_;unfold S323;try simp only[iZ]
 obtain⟨sv,H⟩:=ExtC.E H;refine qH H rfl λb0 h1 H1=>?_;refine qK (qQ (qY (QL omQ H1 e_1) ?_));rintro _ _ ⟨rfl,rfl⟩;unfold kE;have H2:=H1;unfold Yr xL at H2;by_cases c:x.p.fin=0
 ·refine jK c ?_;rw[iQ (λh=>h c)];refine qJ (qK (qQ (qV ‹_› e_1 rfl ?_)));cases hl:x.loaded with
  |false=>rw[iJ rfl];refine jq (qX (qF rfl ?_));refine qe H1 (b:=b0) .here rfl (by show 0+10≤10;omega) rfl λh3 H3=>?_;refine qA H3 (b:=b0) (off:=0) .here rfl omQ (l:=xI (op0 6 0 0)) rfl ?_;exact qW ⟨rfl,ExtC.I H3.drop⟩
  |true=>rw[iQ osQ];refine jV (qJ (qK (qQ (qV ‹_› e_1 rfl ?_))));refine qK (qQ (qV ‹_› e_1 rfl ?_));have hin:=O.in_ c hl;have hlo:=O.lo;obtain⟨k,hk⟩:∃k:Nat,x.at_=k:=⟨x.at_.toNat,by omega⟩;rw[hk]at hin ⊢;refine zH (H1.sl e_2) omQ omQ (yd omQ).1 ?_;refine qF rfl ?_;refine qe H1 (b:=b0) .here rfl (by show 0+10≤10;omega) rfl λh3 H3=>?_;refine qA H3 (b:=b0) (off:=0) .here rfl omQ (l:=xI (op0 3 (jr x.seen k).1 0)) rfl ?_;exact qW ⟨rfl,ExtC.I H3.drop⟩
 ·refine jX c ?_;rw[iJ c];refine qX (qF rfl ?_);refine qe H1 (b:=b0) .here rfl (by show 0+10≤10;omega) rfl λh3 H3=>?_;refine qA H3 (b:=b0) (off:=0) .here rfl omQ (l:=xI (op0 0 0 0)) rfl ?_;exact qW ⟨rfl,ExtC.I H3.drop⟩
theorem Qj {p:gj} {a:AnM} (hs:(qS p a).1=false):(qS p a).2=p∧p.fin=0:=by
 unfold qS at hs ⊢
 split at hs
 ·cases hs
 ·rename_i c;rw[iQ c];exact⟨rfl,by simpa using hs⟩
theorem qZb {a:AnM} (hn:3≤n) (O:YH x) (H:HS g h (ExtC b x::R)):t_w n 324 [.ptr b 0,.agg (zq a)] h λ_ h'=>HS g h' (ExtC b (yg x a)::R):=by
 refine t_e2 (S:=S324) rfl omQ λk hk=>?_;unfold S324;try simp only[iZ]
 generalize hF:yg x a=F;obtain⟨sv,H⟩:=ExtC.E H;refine qH H rfl λb0 h1 H1=>?_;refine jR [] (λs h'=>s=(.ptr b 0,())∧∃y,F=GM y∧y.seen.length≤16∧HS g h' (ExtC b y::R)) (λj hj=>?_) ?_
 rotate_left
 ·rintro s h2 ⟨rfl,y,rfl,hy,H2⟩;obtain⟨sv,H2⟩:=ExtC.E H2;have H3:=H2;unfold Yr xL at H3;unfold GM;refine qK (qQ (qV ‹_› .here rfl ?_));refine qK (qQ (qV ‹_› .here rfl ?_));refine qs ‹_› e_1 ?_;by_cases c:y.at_=(y.seen.length:Int)
  ·refine qj c ?_;rw[iJ c];refine qX (qK (qQ (qY (vk omQ H2) λ_ h4 H4=>?_)));refine qv ?_;exact qW (ExtC.I H4)
  ·refine qq c ?_;rw[iQ c];refine qJ (qv ?_);exact qW (ExtC.I H2)
 refine qK (qQ (qA H1 (b:=b0) (off:=0) .here rfl omQ (l:=zq a) rfl ?_));refine qY (kl omQ (H1.sel e_1)) ?_;rintro _ h2 ⟨rfl,H2⟩;unfold yg at hF;cases hs:(qS x.p a).1 with
 |true=>rw[iJ hs]at hF;subst hF;refine qX ?_;exact qW (ExtC.I (x:={ x with p:=(qS x.p a).2 }) (sv:=sv) (H2.sub (.cons .here (.cons e_1 (.drop .refl)))))
 |false=>
  rw[iQ (by rw[hs];simp)]at hF;have hsp:=Qj hs;rw[hsp.1]at H2;have H3:HS g h2 (qw b (Yr x sv)::qw b0 (zq a)::qL 98 2 x.seen.length sv (x.seen.flatMap yM)::R):=H2;have H4:=H3;unfold Yr xL zq at H4;have hlo:=O.lo;have hhi:=O.hi;have hlen:=O.len;refine qJ (qK (qQ (qV ‹_› .here rfl ?_)));cases hl:x.loaded with
  |false=>
   rw[iJ hl]at hF;refine jq (qX (qG ?_));(try dsimp only);refine qQ (qV ‹_› e_1 rfl ?_);refine qK (qQ ?_)
   refine qk H4 (b:=b) .here ⟨rfl,rfl⟩ osQ λh5 H5=>?_;refine qK (qQ (qk H5 (b:=b) .here ⟨rfl,rfl⟩ osQ λh6 H6=>?_));refine jz ‹_› e_1 rfl ‹_› e_1 rfl (HS.lt ‹_› e_1) ?_;exact hj _ _ ⟨rfl,{ x with loaded:=true,stamp:=a.word },hF.symm,hlen,ExtC.I (sv:=sv) (H6.sub (.cons .here (.cons e_1 (.drop .refl))))⟩
  |true=>
   rw[iQ (by rw[hl];simp)]at hF;refine jV (qJ (qQ (qu (qV H4 (b:=b0) e_1 rfl ?_))));cases hd:a.lk.2.1 with
   |true=>
    rw[iJ hd]at hF;refine qX (qG ?_);(try dsimp only);refine qK (qQ (qQ ?_))
    refine qA H4 (b:=b0) (off:=1) e_1 rfl omQ (l:=jw a.lk) rfl ?_;refine qY (XL (l:=a.lk) omQ (O.p hsp.2) H3) ?_;rintro _ h5 ⟨rfl,H5⟩;cases hw:(qc x.p a.lk).1 with
    |true=>rw[iJ hw]at hF;subst hF;refine jV (qJ (qv ?_));exact qW (ExtC.I (x:={ x with p:=(qc x.p a.lk).2 }) (sv:=sv) (H5.sub (.cons .here (.cons e_1 (.drop .refl)))))
    |false=>rw[iQ (by rw[hw];simp)]at hF;subst hF;have H6:=H5;unfold zq at H6;refine jq (qX (qK (qQ (qQ (qu (qV H6 (b:=b0) e_1 rfl ?_))))));refine qY (vk omQ H5) λ_ h7 H7=>?_;refine qv ?_;exact qW (ExtC.I (x:={ x with p:=q9 (qc x.p a.lk).2 5 0 a.lk.2.2 }) (sv:=sv) (H7.sub (.cons .here (.cons e_1 (.drop .refl)))))
   |false=>
    rw[iQ (by rw[hd];simp)]at hF;refine qJ (qQ (qu (qV H4 (b:=b0) e_1 rfl ?_)));refine qK (qQ (qV ‹_› .here rfl ?_));refine qK (qQ (qV ‹_› .here rfl ?_));have hin:=O.in_ hsp.2 hl;obtain⟨k,hk⟩:∃k:Nat,x.at_=k:=⟨x.at_.toNat,by omega⟩;rw[hk]at hin ⊢;rw[hk]at hF;refine zH (H3.sl e_2) omQ omQ (yd omQ).2 ?_;by_cases c:a.lk.1=(jr x.seen k).2
    ·refine jK c ?_;rw[iQ (λh=>h c)]at hF;refine qJ (qK (qQ (qV ‹_› .here rfl ?_)));refine qf omQ ?_;refine qK (qQ ?_);rw[hk]
     skip
     refine qk H4 (b:=b) .here ⟨rfl,rfl⟩ osQ λh5 H5=>?_;exact hj _ _ ⟨rfl,{ x with at_:=(k:Int)+1 },hF.symm,hlen,ExtC.I (sv:=sv) (H5.sub (.cons .here (.cons e_1 (.drop .refl))))⟩
    ·refine jX c ?_;rw[iJ c,← hk]at hF;subst hF;refine qX (qK (qQ (qY (vk omQ H3) λ_ h7 H7=>?_)));exact qW (ExtC.I (x:={ x with p:=q9 x.p 5 0 (-1) }) (sv:=sv) (H7.sub (.cons .here (.cons e_1 (.drop .refl)))))
end
end
section
variable {g h:AH} {L R:List SP}
structure ComL (c:jW):Prop where
  seen:c.seen.length≤16
  cells:c.cells.length≤1000
  s:c.s.length≤16
  was:c.was.length≤c.s.length
  pos:0<c.s.length
  rise:c.s.Pairwise (· < ·)
  lo:0≤c.at_
  hi:c.at_≤1000
  now:0≤c.now∧c.now<9223372036854775807
def jm (fin spins state at_ now fin2:Int) (sl cl tl wl:Nat):Prop :=
 (sl≤16∧cl≤1000∧tl≤16∧wl≤tl∧0<tl∧0≤at_∧at_≤1000∧0≤now∧now<9223372036854775807∧0≤state∧state≤7)∧(fin=0→state≤6→0≤spins∧spins≤4)∧(fin=0→state≤1→wl<tl)∧(state≤4→at_≤sl)∧
 (2≤state→state≤6→wl=tl)∧(fin=0→state=4→at_<sl)∧(fin=0→state=5→at_<cl)∧(fin=0→state=6→at_<tl)∧(fin=0→state=7→at_<wl)∧(state=7→fin2≠0)
structure zK (c:jW):Prop where
  rise:c.s.Pairwise (· < ·)
  ar:jm c.p.fin c.p.spins c.state c.at_ c.now c.fin2 c.seen.length c.cells.length c.s.length c.was.length
section
variable {c:jW} (O:zK c)
include O
theorem zK.toComL:ComL c:=by have h:=O.ar;unfold jm at h;exact⟨by omega,by omega,by omega,by omega,by omega,O.rise,by omega,by omega,by omega⟩
theorem zK.p (hg:c.p.fin=0) (hs:c.state≤6):0≤c.p.spins∧c.p.spins≤4:=by have h:=O.ar;unfold jm at h;omega
theorem zK.st0 (hg:c.p.fin=0) (hs:c.state≤1):c.was.length<c.s.length:=by have h:=O.ar;unfold jm at h;omega
theorem zK.st3 (h1:2≤c.state) (h2:c.state≤4):c.was.length=c.s.length∧c.at_≤c.seen.length:=by have h:=O.ar;unfold jm at h;omega
theorem zK.st4 (hg:c.p.fin=0) (hs:c.state=4):c.at_<c.seen.length:=by have h:=O.ar;unfold jm at h;omega
theorem zK.st5 (hg:c.p.fin=0) (hs:c.state=5):c.at_<c.cells.length:=by have h:=O.ar;unfold jm at h;omega
theorem zK.st6 (hg:c.p.fin=0) (hs:c.state=6):c.at_<c.s.length:=by have h:=O.ar;unfold jm at h;omega
theorem zK.st7 (hg:c.p.fin=0) (hs:c.state=7):c.at_<c.was.length:=by have h:=O.ar;unfold jm at h;omega
theorem zK.st:0≤c.state∧c.state≤7:=by have h:=O.ar;unfold jm at h;omega
theorem zK.s:c.s.length≤16:=O.toComL.s
theorem zK.was:c.was.length≤c.s.length:=O.toComL.was
theorem zK.seen:c.seen.length≤16:=O.toComL.seen
theorem zK.lo:0≤c.at_:=O.toComL.lo
theorem zK.hi:c.at_≤1000:=O.toComL.hi
theorem zK.now:0≤c.now∧c.now<9223372036854775807:=O.toComL.now
end
theorem qXS:∀{s:List Int} {was:List LkM} {x:Int},s.Pairwise (· < ·)→was.length=s.length→Xe s was x=if x∈s then some (jN was (s.countP (· <x):Nat)).1 else none:=by
 intro s
 induction s with
 |nil=>intro was x _ _;cases was<;>rfl
 |cons y s ih=>
  intro was x hp hl;cases was with
  |nil=>cases hl
  |cons w was=>
   have h1:=List.pairwise_cons.1 hp;unfold Xe;by_cases e:y=x
   ·subst e;rw[iJ rfl,iJ (iK ..),List.countP_cons,List.countP_eq_zero.2 (λa ha=>by have:=h1.1 a ha;simp;omega),iV omQ];rfl
   ·rw[iQ e,ih h1.2 (by simpa using hl)];by_cases hm:x∈s
    ·rw[iJ hm,iJ (iX _ hm),List.countP_cons,iG (h1.1 x hm)];unfold jN;simp
    ·rw[iQ hm,iQ (λh=>by rcases List.mem_cons.1 h with h |h;exact e h.symm;exact hm h)]
theorem qWS {s:List Int} {x:Int} (hp:s.Pairwise (· < ·)) (h:x∈s):s.countP (· <x)<s.length:=by
 rcases Nat.lt_or_ge (s.countP (· <x)) s.length with h' |h'
 ·exact h'
 ·have:=List.countP_eq_length.1 (Nat.le_antisymm List.countP_le_length h') x h;simp at this
def wF (c:jW) (sv cv tv wv:AV):List AV:=xL c.p [.int .i64 c.me,.int .u64 c.stamp,sv,cv,tv,wv,.int .i64 c.state,.int .i64 c.at_,.int .u64 c.lk.1,.bool c.lk.2.1,.int .i64 c.lk.2.2,.int .u64 c.now,.bool c.writing,.int .i64 c.fin2,.int .i64 c.by2,.int .i64 c.err2]
def ComC (b:Nat) (c:jW):SP:=.ex λq:AV×AV×AV×AV=>.all [qw b (wF c q.1 q.2.1 q.2.2.1 q.2.2.2),qL 98 2 c.seen.length q.1 (c.seen.flatMap yM),qL 61 2 c.cells.length q.2.1 (c.cells.flatMap jU),
 qL 3 1 c.s.length q.2.2.1 (c.s.map (.int .i64)),qL 40 3 c.was.length q.2.2.2 (c.was.flatMap jw)]
section
variable {n b:Nat} {c:jW} {sv cv tv wv:AV}
theorem ComC.E (H:HS g h (ComC b c::R)):∃sv cv tv wv,HS g h (qw b (wF c sv cv tv wv)::qL 98 2 c.seen.length sv (c.seen.flatMap yM)::qL 61 2 c.cells.length cv (c.cells.flatMap jU)::
  qL 3 1 c.s.length tv (c.s.map (.int .i64))::qL 40 3 c.was.length wv (c.was.flatMap jw)::R):=by
 obtain⟨⟨sv,cv,tv,wv⟩,H⟩:=H.exE;exact⟨sv,cv,tv,wv,H.allE⟩
theorem ComC.I (H:HS g h (qw b (wF c sv cv tv wv)::qL 98 2 c.seen.length sv (c.seen.flatMap yM)::qL 61 2 c.cells.length cv (c.cells.flatMap jU)::
  qL 3 1 c.s.length tv (c.s.map (.int .i64))::qL 40 3 c.was.length wv (c.was.flatMap jw)::R)):HS g h (ComC b c::R):=HS.exI (sv,cv,tv,wv) H.allI
theorem Mj (hn:2≤n) (H:HS g h (ComC b c::R)):t_w n 333 [.ptr b 0] h λ_ h'=>HS g h' (ComC b (xF c)::R):=by
 refine t_e1 (S:=S333) rfl omQ λk hk=>?_;unfold S333;try simp only[iZ]
 obtain⟨sv,cv,tv,wv,H⟩:=ComC.E H;have H1:=H;unfold wF xL at H1;unfold xF;refine qK (qQ (qV ‹_› .here rfl ?_));refine qK (qQ (qV ‹_› .here rfl ?_));refine qs ‹_› e_3 ?_;by_cases c0:c.at_=(c.s.length:Int)
 ·refine qj c0 ?_;rw[iJ c0];refine qX (qK (qQ (qY (vk omQ H) λ_ h2 H2=>?_)));exact qW (ComC.I (c:={ c with p:=q9 c.p 2 0 (-1) }) H2)
 ·refine qq c0 ?_;rw[iQ c0];refine qJ ?_;exact qW (ComC.I H)
theorem Kd (hn:3≤n) (H:HS g h (ComC b c::R)):t_w n 332 [.ptr b 0] h λ_ h'=>HS g h' (ComC b (xY c)::R):=by
 refine t_e1 (S:=S332) rfl omQ λk hk=>?_;unfold S332;try simp only[iZ]
 obtain⟨sv,cv,tv,wv,H⟩:=ComC.E H;have H1:=H;unfold wF xL at H1;unfold xY;refine qK (qQ (qV ‹_› .here rfl ?_));refine qK (qQ (qV ‹_› .here rfl ?_));refine qs ‹_› e_2 ?_;by_cases c0:c.at_=(c.cells.length:Int)
 ·refine qj c0 ?_;rw[iJ c0];refine qX (qK (qQ (qk H1 (b:=b) .here ⟨rfl,rfl⟩ osQ λh2 H2=>?_)));refine qK (qQ (qk H2 (b:=b) .here ⟨rfl,rfl⟩ osQ λh3 H3=>?_));refine qY (Mj (c:={ c with at_:=0,state:=6 }) omQ (ComC.I H3)) λ_ h4 H4=>qW H4
 ·refine qq c0 ?_;rw[iQ c0];refine qJ ?_;exact qW (ComC.I H)
theorem Kv (hn:4≤n) (H:HS g h (ComC b c::R)):t_w n 328 [.ptr b 0] h λ_ h'=>HS g h' (ComC b (yE c)::R):=by
 refine t_e1 (S:=S328) rfl omQ λk hk=>?_;unfold S328;try simp only[iZ]
 obtain⟨sv,cv,tv,wv,H⟩:=ComC.E H;unfold wF xL at H;refine qK (qQ (qk H (b:=b) .here ⟨rfl,rfl⟩ osQ λh2 H2=>?_));refine qK (qQ (qk H2 (b:=b) .here ⟨rfl,rfl⟩ osQ λh3 H3=>?_));refine qK (qQ (qk H3 (b:=b) .here ⟨rfl,rfl⟩ osQ λh4 H4=>?_));refine qY (Kd (c:={ c with writing:=true,at_:=0,state:=5 }) omQ (ComC.I H4)) λ_ h5 H5=>qW H5
theorem KW (hn:2≤n) (H:HS g h (ComC b c::R)):t_w n 334 [.ptr b 0] h λ_ h'=>HS g h' (ComC b (xd c)::R):=by
 refine t_e1 (S:=S334) rfl omQ λk hk=>?_;unfold S334;try simp only[iZ]
 obtain⟨sv,cv,tv,wv,H⟩:=ComC.E H;have H1:=H;unfold wF xL at H1;unfold xd;refine qK (qQ (qV ‹_› .here rfl ?_));refine qK (qQ (qV ‹_› .here rfl ?_));refine qs ‹_› e_4 ?_;by_cases c0:c.at_=(c.was.length:Int)
 ·refine qj c0 ?_;rw[iJ c0];refine qX (qK (qQ (qK (qQ (qV ‹_› .here rfl ?_)))));refine qK (qQ (qV ‹_› .here rfl ?_));refine qK (qQ (qV ‹_› .here rfl ?_));refine qY (vk omQ H) λ_ h2 H2=>?_;exact qW (ComC.I (c:={ c with p:=q9 c.p c.fin2 c.err2 c.by2 }) H2)
 ·refine qq c0 ?_;rw[iQ c0];refine qJ ?_;exact qW (ComC.I H)
theorem Jp {f e y:Int} (hn:3≤n) (H:HS g h (ComC b c::R)):t_w n 336 [.ptr b 0,.int .i64 f,.int .i64 e,.int .i64 y] h λ_ h'=>HS g h' (ComC b (y3 c f e y)::R):=by
 refine t_e4 (S:=S336) rfl omQ λk hk=>?_;unfold S336;try simp only[iZ]
 obtain⟨sv,cv,tv,wv,H⟩:=ComC.E H;unfold wF xL at H;refine qK (qQ (qk H (b:=b) .here ⟨rfl,rfl⟩ osQ λh2 H2=>?_));refine qK (qQ (qk H2 (b:=b) .here ⟨rfl,rfl⟩ osQ λh3 H3=>?_));refine qK (qQ (qk H3 (b:=b) .here ⟨rfl,rfl⟩ osQ λh4 H4=>?_));refine qK (qQ (qk H4 (b:=b) .here ⟨rfl,rfl⟩ osQ λh5 H5=>?_));refine qK (qQ (qk H5 (b:=b) .here ⟨rfl,rfl⟩ osQ λh6 H6=>?_));refine qY (KW (c:={ c with fin2:=f,err2:=e,by2:=y,at_:=0,state:=7 }) omQ (ComC.I H6)) λ_ h5 H5=>qW H5
theorem Me (hn:1≤n) (H:HS g h (ComC b c::R)):t_w n 99 [.ptr b 0] h λ_ h'=>HS g h' (ComC b (wO c)::R):=by
 refine t_e1 (S:=S99) rfl omQ λk hk=>?_;unfold S99;try simp only[iZ]
 obtain⟨sv,cv,tv,wv,H⟩:=ComC.E H;unfold wF xL at H;unfold wO;refine qK (qQ (qk H (b:=b) .here ⟨rfl,rfl⟩ osQ λh2 H2=>?_));refine qK (qQ (qV ‹_› .here rfl ?_));refine qs ‹_› e_4 ?_;refine qK (qQ (qV ‹_› .here rfl ?_));refine qs ‹_› e_3 ?_;by_cases c0:c.was.length=c.s.length
 ·refine qj omQ ?_;rw[iJ c0];refine qX (qK (qQ (qk H2 (b:=b) .here ⟨rfl,rfl⟩ osQ λh3 H3=>?_)));exact qW (ComC.I (c:={ c with state:=2 }) H3)
 ·refine qq omQ ?_;rw[iQ c0];refine qJ ?_;exact qW (ComC.I (c:={ c with state:=0 }) H2)
theorem Vg {l:LkM} (hn:4≤n) (hp:0≤c.p.spins∧c.p.spins≤4) (H:HS g h (ComC b c::R)):t_w n 335 [.ptr b 0,.agg (jw l)] h λ_ h'=>HS g h' (ComC b (yG c l)::R):=by
 refine t_e2 (S:=S335) rfl omQ λk hk=>?_;unfold S335;try simp only[iZ]
 obtain⟨sv,cv,tv,wv,H⟩:=ComC.E H;refine qH H rfl λb0 h1 H1=>?_;unfold yG;refine qK (qQ (qA H1 (b:=b0) (off:=0) .here rfl omQ (l:=jw l) rfl ?_));refine qY (XL (l:=l) omQ hp (H1.sel e_1)) ?_;rintro _ h2 ⟨rfl,H2⟩;have H3:HS g h2 (ComC b { c with p:=(qc c.p l).2 }::qw b0 (jw l)::R):=ComC.I (sv:=sv) (cv:=cv) (tv:=tv) (wv:=wv) (H2.sub (.cons .here (.cons e_1 (.cons e_1 (.cons e_1 (.cons e_1 .refl))))));cases hw:(qc c.p l).1 with
 |true=>rw[iJ rfl];refine jV (qJ ?_);exact qW (H3.sub (.cons .here (.drop .refl)))
 |false=>rw[iQ osQ];unfold jw at H3;refine jq (qX (qQ (qV ‹_› e_1 rfl ?_)));refine qY (Jp omQ H3) λ_ h4 H4=>?_;exact qW (H4.sub (.cons .here (.drop .refl)))
theorem Kn (hn:5≤n) (O:ComL c) (hw:c.was.length=c.s.length) (ha:c.at_≤c.seen.length) (H:HS g h (ComC b c::R)):t_w n 337 [.ptr b 0] h λ_ h'=>HS g h' (ComC b (yh c)::R):=by
 refine t_e1 (S:=S337) rfl omQ λk hk=>?_;unfold S337;try simp only[iZ]
 generalize hF:yh c=F;unfold yh at hF;obtain⟨sv,cv,tv,wv,H⟩:=ComC.E H;unfold wF xL at H;have l1:=O.seen;have l2:=O.s;have l3:=O.pos;have l4:=O.lo;refine qK (qQ (qk H (b:=b) .here ⟨rfl,rfl⟩ osQ λh2 H2=>?_));have H2:HS g h2 (ComC b { c with state:=4 }::R):=ComC.I H2;refine zG (λm s h'=>s=(.ptr b 0,())∧∃a:Int,xC { c with state:=4,at_:=a } m=F∧0≤a∧a≤c.seen.length∧c.seen.length<a+m∧HS g h' (ComC b { c with state:=4,at_:=a }::R))
  ?_ (m:=c.seen.length+1) (by show _<1000000000;omega) ⟨rfl,c.at_,hF,l4,ha,by omega,H2⟩
 clear H H2 hF;rintro m ih s h3 hih ⟨rfl,a,hF,ha0,ha,hm,H⟩;dsimp only;obtain⟨m,rfl⟩:∃k,m=k+1:=⟨m-1,by omega⟩;unfold xC at hF;dsimp only at hF;obtain⟨sv,cv,tv,wv,H⟩:=ComC.E H;have H1:=H;unfold wF xL at H1;dsimp only at H1;refine qK (qQ (qV ‹_› .here rfl ?_));refine qK (qQ (qV ‹_› .here rfl ?_));refine qs ‹_› e_1 ?_;by_cases hlt:a<c.seen.length
 ·refine zJ hlt ?_;rw[iJ hlt]at hF;obtain⟨k,rfl⟩:∃k:Nat,a=k:=⟨a.toNat,by omega⟩;refine qX (qK (qQ (qV ‹_› .here rfl ?_)));refine qK (qQ (qV ‹_› .here rfl ?_));refine qK (qQ (qV ‹_› .here rfl ?_));refine zH (H.sl e_1) omQ (by show k<c.seen.length;omega) (yd (by show k<c.seen.length;omega)).1 ?_;refine qY (qVB omQ H1 e_3 l3 omQ (O.rise.imp λh=>by omega)) ?_;rintro _ _ ⟨rfl,rfl⟩;rw[qXS O.rise hw]at hF;by_cases hc:(jr c.seen k).1∈c.s
  ·rw[iJ hc]at hF;dsimp only at hF;rw[show c.s.contains (jr c.seen k).1=true from List.contains_iff_mem.2 hc];have hfl:=qWS O.rise hc;refine qB rfl ?_;refine qB rfl ?_;refine jV (qJ (qK (qQ (qV ‹_› .here rfl ?_))));refine zH (f:=0) (x:=.int .u64 (jN c.was (c.s.countP (· <(jr c.seen k).1):Nat)).1) (H.sl e_4) omQ (Nat.lt_of_lt_of_eq hfl hw.symm) ?_ ?_
   ·have:=congrArg (·[0]?) (XF (l:=c.was) (k:=c.s.countP (· <(jr c.seen k).1)) omQ);simp only[List.getElem?_take_of_lt (show 0<3 by omega),List.getElem?_drop]at this;exact this
   refine qK (qQ (qV ‹_› .here rfl ?_));refine qK (qQ (qV ‹_› .here rfl ?_));refine zH (H.sl e_1) omQ (by show k<c.seen.length;omega) (yd (by show k<c.seen.length;omega)).2 ?_;by_cases hv:(jN c.was (c.s.countP (· <(jr c.seen k).1):Nat)).1=(jr c.seen k).2
   ·refine jK hv ?_;rw[iQ (λh=>h hv)]at hF;refine qJ (qK (qQ (qV ‹_› .here rfl ?_)));refine qf omQ ?_;refine qK (qQ (qk H1 (b:=b) .here ⟨rfl,rfl⟩ osQ λh4 H4=>?_));exact hih m _ _ omQ ⟨rfl,(k:Int)+1,hF,by omega,by omega,by omega,ComC.I (c:={ c with state:=4,at_:=(k:Int)+1 }) H4⟩
   ·refine jX hv ?_;rw[iJ hv]at hF;subst hF;refine qX (qY (Jp omQ (ComC.I H)) λ_ h4 H4=>?_);refine qv ?_;exact qW H4
  ·rw[iQ hc]at hF;dsimp only at hF;subst hF;rw[show c.s.contains (jr c.seen k).1=false from by simpa using hc];refine qB rfl ?_;refine qB rfl ?_;refine jq (qX (qv ?_));exact qW (ComC.I H)
 ·refine jb hlt ?_;rw[iQ hlt]at hF;subst hF;refine qJ (qY (Kv omQ (ComC.I H)) λ_ h4 H4=>?_);refine qv ?_;exact qW H4
end
end
section
variable {g h:AH} {L R:List SP}
section
variable {n b:Nat} {c:jW} {sv cv tv wv:AV} {a:AnM}
theorem Nm {l:LkM} (hn:6≤n) (O:zK c) (hg:c.p.fin=0) (h4:c.state=4) (H:HS g h (ComC b c::R)):t_w n 331 [.ptr b 0,.agg (jw l)] h λ_ h'=>HS g h' (ComC b (xe c l)::R):=by
 refine t_e2 (S:=S331) rfl omQ λk hk=>?_;unfold S331;try simp only[iZ]
 generalize hF:xe c l=F;refine qH H rfl λb0 h1 H1=>?_;refine jR [] (λ_ h'=>HS g h' (ComC b F::R)) (λj hj=>?_) λ_ h' H'=>?_
 rotate_left
 ·refine qv ?_;exact qW H'
 unfold xe at hF;have H2:=H1;unfold jw at H2;refine qQ (qV ‹_› .here rfl ?_);cases hd:l.2.1 with
 |true=>rw[iJ hd]at hF;subst hF;refine qX (qA H1 (b:=b0) (off:=0) .here rfl omQ (l:=jw l) rfl ?_);refine qY (Vg omQ (O.p hg omQ) (H1.sel e_1)) λ_ h3 H3=>?_;exact hj _ _ (H3.sub (.cons .here (.drop .refl)))
 |false=>
  rw[iQ (by rw[hd];simp)]at hF;obtain⟨sv,cv,tv,wv,H3⟩:=ComC.E (H2.sel e_1);have H4:=H3;unfold wF xL at H4;have hlt:=O.st4 hg h4;have hlo:=O.lo;have l1:=O.seen;obtain⟨k,hk⟩:∃k:Nat,c.at_=k:=⟨c.at_.toNat,by omega⟩;refine qJ (qQ (qV ‹_› e_5 rfl ?_));refine qK (qQ (qV ‹_› .here rfl ?_));refine qK (qQ (qV ‹_› .here rfl ?_));rw[hk]at hF hlt ⊢;refine zH (H3.sl e_1) omQ omQ (yd omQ).2 ?_;by_cases c0:l.1=(jr c.seen k).2
  ·refine jK c0 ?_;rw[iQ (λh=>h c0)]at hF;subst hF;refine qJ (qK (qQ (qV ‹_› .here rfl ?_)));refine qf omQ ?_;refine qK (qQ ?_);rw[hk]
   skip
   refine qk H4 (b:=b) .here ⟨rfl,rfl⟩ osQ λh5 H5=>?_;refine qY (Kn (c:={ c with at_:=(k:Int)+1 }) omQ { O.toComL with lo:=(by show(0:Int)≤k+1;omega),hi:=(by show(k:Int)+1≤1000;have:=O.seen;omega) } (O.st3 omQ omQ).1 (by show(k:Int)+1≤c.seen.length;omega) (ComC.I H5)) λ_ h6 H6=>?_;exact hj _ _ (H6.sub (.cons .here (.drop .refl)))
  ·refine jX c0 ?_;rw[iJ c0]at hF;subst hF;refine qX (qY (Jp omQ (ComC.I H3)) λ_ h6 H6=>?_);exact hj _ _ (H6.sub (.cons .here (.drop .refl)))
theorem VT (hn:5≤n) (O:zK c) (hg:c.p.fin=0) (H:HS g h (ComC b c::R)):t_w n 329 [.ptr b 0,.agg (zq a)] h λ_ h'=>HS g h' (ComC b (yz c a)::R):=by
 refine t_e2 (S:=S329) rfl omQ λk hk=>?_;unfold S329;try simp only[iZ]
 generalize hF:yz c a=F;refine qH H rfl λb0 h1 H1=>?_;refine jR [] (λ_ h'=>HS g h' (ComC b F::R)) (λj hj=>?_) λ_ h' H'=>?_
 rotate_left
 ·refine qv ?_;exact qW H'
 unfold yz at hF;obtain⟨sv,cv,tv,wv,H2⟩:=ComC.E (H1.sel e_1);have H3:=H2;unfold wF xL zq at H3;have l1:=O.s;have l2:=O.was;refine qK (qQ (qV ‹_› .here rfl ?_));by_cases c0:c.state=0
 ·refine qj c0 ?_;refine qG ?_;(try dsimp only);refine qU ?_;(try dsimp only);refine qQ ?_
  refine qu (qV H3 (b:=b0) e_5 rfl ?_);cases hd:a.lk.2.1 with
  |true=>rw[iJ ⟨c0,hd⟩]at hF;subst hF;refine qE (qX (qQ (qA H1 (b:=b0) (off:=1) .here rfl omQ (l:=jw a.lk) rfl ?_)));refine qY (Vg omQ (O.p hg omQ) (H1.sel e_1)) λ_ h3 H3=>?_;exact hj _ _ (H3.sub (.cons .here (.drop .refl)))
  |false=>rw[iQ (λh=>by rw[hd]at h;cases h.2),iJ c0]at hF;subst hF;refine qE (qJ (qK (qQ (qV ‹_› .here rfl ?_))));refine qj omQ ?_;refine qX (qQ (qA H1 (b:=b0) (off:=1) .here rfl omQ (l:=jw a.lk) rfl ?_));refine qK (qQ (qe H3 (b:=b) .here rfl (by show 13+3≤21;omega) rfl λh5 H5=>?_));refine qK (qQ (qk H5 (b:=b) .here ⟨rfl,rfl⟩ (by simp[wm]) λh6 H6=>?_));have H7:HS g h6 (ComC b { c with lk:=a.lk,state:=1 }::qw b0 (zq a)::R):=ComC.I (sv:=sv) (cv:=cv) (tv:=tv) (wv:=wv) H6;exact hj _ _ (H7.sub (.cons .here (.drop .refl)))
 ·refine qq c0 ?_;rw[iQ (λh=>c0 h.1),iQ c0]at hF;refine qG ?_;(try dsimp only);refine qT ?_;(try dsimp only);refine qI (qJ (qK (qQ (qV ‹_› .here rfl ?_))));refine qq omQ ?_;refine qJ (qQ (qV ‹_› e_5 rfl ?_))
  cases hd:a.done with
  |true=>
   rw[iJ hd]at hF;subst hF;refine qX (qK (qQ (qV ‹_› .here rfl ?_)));refine qK (qQ (qA H3 (b:=b) (off:=13) .here rfl omQ (l:=jw c.lk) rfl ?_));refine jY (n:=1) (l:=jw c.lk) (sz:=3) H3 rfl rfl rfl rfl λv2 h5 H5=>?_;refine zn (H5.sel e_5) (H5.sl .here) omQ omQ rfl λv3 h6 H6=>?_;have o6:=H6.one .here;refine qK (qQ (qk H6 (b:=b) e_2 o6 osQ λh7 H7=>?_));have H8:HS g h7 (ComC b { c with was:=c.was++[c.lk] }::qw b0 (zq a)::R):=by refine ComC.I (sv:=sv) (cv:=cv) (tv:=tv) (wv:=v3) ?_;rw[List.length_append,List.flatMap_append];exact H7.sub (.cons .here (.cons e_2 (.cons e_2 (.cons e_2 (.cons .here (.drop .refl))))))
   refine qY (Me omQ H8) λ_ h9 H9=>?_;exact hj _ _ (H9.sub (.cons .here (.drop .refl)))
  |false=>rw[iQ (by rw[hd];simp)]at hF;subst hF;refine qJ (qK (qQ (qk H3 (b:=b) .here ⟨rfl,rfl⟩ osQ λh6 H6=>?_)));have H7:HS g h6 (ComC b { c with state:=0 }::qw b0 (zq a)::R):=ComC.I (sv:=sv) (cv:=cv) (tv:=tv) (wv:=wv) H6;exact hj _ _ (H7.sub (.cons .here (.drop .refl)))
theorem Ka (hn:6≤n) (O:zK c) (h23:c.state=2∨c.state=3) (H:HS g h (ComC b c::R)):t_w n 330 [.ptr b 0,.agg (zq a)] h λ_ h'=>HS g h' (ComC b (x7 c a)::R):=by
 refine t_e2 (S:=S330) rfl omQ λk hk=>?_;unfold S330;try simp only[iZ]
 generalize hF:x7 c a=F;refine qH H rfl λb0 h1 H1=>?_;refine jR [] (λ_ h'=>HS g h' (ComC b F::R)) (λj hj=>?_) λ_ h' H'=>?_
 rotate_left
 ·refine qv ?_;exact qW H'
 unfold x7 at hF;obtain⟨sv,cv,tv,wv,H2⟩:=ComC.E (H1.sel e_1);have H3:=H2;unfold wF xL zq at H3;refine qK (qQ (qV ‹_› .here rfl ?_));by_cases c0:c.state=2
 ·refine qj c0 ?_;refine qG ?_;(try dsimp only);refine qU ?_;(try dsimp only);refine qQ (qV ‹_› e_5 rfl ?_)
  by_cases c1:4611686018427387903≤a.word
  ·refine jh omQ ?_;rw[iJ ⟨c0,c1⟩]at hF;subst hF;refine qE (qX (qY (Jp omQ (ComC.I H2)) λ_ h6 H6=>?_));exact hj _ _ (H6.sub (.cons .here (.drop .refl)))
  ·refine ju omQ ?_;rw[iQ (λh=>c1 h.2),iJ c0]at hF;subst hF;refine qE (qJ (qK (qQ (qV ‹_› .here rfl ?_))));refine qj omQ ?_;refine qX (qQ (qV ‹_› e_5 rfl ?_));refine qK (qQ (qk H3 (b:=b) .here ⟨rfl,rfl⟩ osQ λh6 H6=>?_));refine qK (qQ (qk H6 (b:=b) .here ⟨rfl,rfl⟩ osQ λh7 H7=>?_));have H8:HS g h7 (ComC b { c with now:=a.word,state:=3 }::qw b0 (zq a)::R):=ComC.I (sv:=sv) (cv:=cv) (tv:=tv) (wv:=wv) H7;exact hj _ _ (H8.sub (.cons .here (.drop .refl)))
 ·refine qq c0 ?_;rw[iQ (λh=>c0 h.1),iQ c0]at hF;have h3:=O.st3 omQ omQ;refine qG ?_;(try dsimp only);refine qT ?_;(try dsimp only);refine qI (qJ (qK (qQ (qV ‹_› .here rfl ?_))));refine qq omQ ?_;refine qJ (qQ (qV ‹_› e_5 rfl ?_))
  cases hd:a.done with
  |false=>rw[iJ hd]at hF;subst hF;refine jq (qX (qK (qQ (qk H3 (b:=b) .here ⟨rfl,rfl⟩ osQ λh6 H6=>?_))));have H7:HS g h6 (ComC b { c with state:=2 }::qw b0 (zq a)::R):=ComC.I (sv:=sv) (cv:=cv) (tv:=tv) (wv:=wv) H6;exact hj _ _ (H7.sub (.cons .here (.drop .refl)))
  |true=>
   rw[iQ (by rw[hd];simp)]at hF;refine jV (qJ (qK (qQ (qV ‹_› .here rfl ?_))));refine qK (qQ (qV ‹_› .here rfl ?_));by_cases c1:c.now=c.stamp
   ·refine qj c1 ?_;rw[iJ c1]at hF;subst hF;refine qX (qY (Kv omQ (ComC.I H2)) λ_ h6 H6=>?_);exact hj _ _ (H6.sub (.cons .here (.drop .refl)))
   ·refine qq c1 ?_;rw[iQ c1]at hF;subst hF;refine qJ (qY (Kn omQ O.toComL h3.1 h3.2 (ComC.I H2)) λ_ h6 H6=>?_);exact hj _ _ (H6.sub (.cons .here (.drop .refl)))
theorem qVC (hn:7≤n) (O:zK c) (H:HS g h (ComC b c::R)):t_w n 327 [.ptr b 0,.agg (zq a)] h λ_ h'=>HS g h' (ComC b (zQ c a)::R):=by
 refine t_e2 (S:=S327) rfl omQ λk hk=>?_;unfold S327;try simp only[iZ]
 generalize hF:zQ c a=F;refine qH H rfl λb0 h1 H1=>?_;obtain⟨sv,cv,tv,wv,H2⟩:=ComC.E (H1.sel e_1);have hlo:=O.lo;have hhi:=O.hi;have hst:=O.st;unfold zQ at hF;refine qK (qQ (qA H1 (b:=b0) (off:=0) .here rfl omQ (l:=zq a) rfl ?_));refine qY (kl omQ H2) ?_;rintro _ h2 ⟨rfl,H3⟩;cases hs:(qS c.p a).1 with
 |true=>rw[iJ hs]at hF;subst hF;refine qX ?_;have H4:HS g h2 (ComC b { c with p:=(qS c.p a).2 }::qw b0 (zq a)::R):=ComC.I (sv:=sv) (cv:=cv) (tv:=tv) (wv:=wv) H3;exact qW (H4.sub (.cons .here (.drop .refl)))
 |false=>
  rw[iQ (by rw[hs];simp)]at hF;have hsp:=Qj hs;rw[hsp.1]at H3;have hg:=hsp.2;clear H1 H2 H hsp hs;have H2:HS g h2 (ComC b c::qw b0 (zq a)::R):=ComC.I (sv:=sv) (cv:=cv) (tv:=tv) (wv:=wv) H3
  have H4:HS g h2 (qw b (wF c sv cv tv wv)::qL 98 2 c.seen.length sv (c.seen.flatMap yM)::qL 61 2 c.cells.length cv (c.cells.flatMap jU)::
   qL 3 1 c.s.length tv (c.s.map (.int .i64))::qL 40 3 c.was.length wv (c.was.flatMap jw)::qw b0 (zq a)::R):=H3
  unfold wF xL at H4;refine qJ (qK (qu (qV H4 (b:=b) .here rfl ?_)));refine jR [] (λ_ h'=>HS g h' (ComC b F::R)) (λj hj=>?_) λ_ h' H'=>?_
  rotate_left
  ·refine qv ?_;exact qW H'
  by_cases c0:c.state=0∨c.state=1
  ·rw[iJ c0]at hF;subst hF;rcases c0 with c0 |c0
   ·refine qG ?_;(try dsimp only);refine qj omQ ?_;refine qX (qX ?_)
    refine qA H3 (b:=b0) (off:=0) e_5 rfl omQ (l:=zq a) rfl ?_;refine qY (VT omQ O hg H2) λ_ h6 H6=>?_;exact hj _ _ (H6.sub (.cons .here (.drop .refl)))
   ·refine qG ?_;(try dsimp only);refine qq omQ ?_;refine qJ (qj omQ ?_);refine qX ?_
    refine qA H3 (b:=b0) (off:=0) e_5 rfl omQ (l:=zq a) rfl ?_;refine qY (VT omQ O hg H2) λ_ h6 H6=>?_;exact hj _ _ (H6.sub (.cons .here (.drop .refl)))
  rw[iQ c0]at hF;by_cases c1:c.state=2∨c.state=3
  ·rw[iJ c1]at hF;subst hF;have c2:=c1;rcases c1 with c1' |c1'
   ·refine qG ?_;(try dsimp only);refine qq omQ ?_;refine qJ (qq omQ ?_);refine qJ (qG ?_);(try dsimp only);refine qj omQ ?_;refine qX (qX ?_)
    refine qA H3 (b:=b0) (off:=0) e_5 rfl omQ (l:=zq a) rfl ?_;refine qY (Ka omQ O c2 H2) λ_ h6 H6=>?_;exact hj _ _ (H6.sub (.cons .here (.drop .refl)))
   ·refine qG ?_;(try dsimp only);refine qq omQ ?_;refine qJ (qq omQ ?_);refine qJ (qG ?_);(try dsimp only);refine qq omQ ?_;refine qJ (qj omQ ?_);refine qX ?_
    refine qA H3 (b:=b0) (off:=0) e_5 rfl omQ (l:=zq a) rfl ?_;refine qY (Ka omQ O c2 H2) λ_ h6 H6=>?_;exact hj _ _ (H6.sub (.cons .here (.drop .refl)))
  rw[iQ c1]at hF;by_cases c4:c.state=4
  ·rw[iJ c4]at hF;subst hF;refine qG ?_;(try dsimp only);refine qq omQ ?_;refine qJ (qq omQ ?_);refine qJ (qG ?_);(try dsimp only);refine qq omQ ?_;refine qJ (qq omQ ?_);refine qJ (qj omQ ?_);refine qX (qQ ?_)
   refine qA H3 (b:=b0) (off:=1) e_5 rfl omQ (l:=jw a.lk) rfl ?_;refine qY (Nm omQ O hg c4 H2) λ_ h6 H6=>?_;exact hj _ _ (H6.sub (.cons .here (.drop .refl)))
  rw[iQ c4]at hF;by_cases c5:c.state=5
  ·rw[iJ c5]at hF;subst hF;refine qG ?_;(try dsimp only);refine qq omQ ?_;refine qJ (qq omQ ?_);refine qJ (qG ?_);(try dsimp only);refine qq omQ ?_;refine qJ (qq omQ ?_);refine qJ (qq omQ ?_);refine qJ (qj omQ ?_);refine qX (qK (qQ (qV ‹_› .here rfl ?_)));refine qf omQ ?_;refine qK (qQ ?_)
   refine qk H4 (b:=b) .here ⟨rfl,rfl⟩ osQ λh5 H5=>?_;have H6:HS g h5 (ComC b { c with at_:=c.at_+1 }::qw b0 (zq a)::R):=ComC.I (sv:=sv) (cv:=cv) (tv:=tv) (wv:=wv) H5;refine qY (Kd omQ H6) λ_ h6 H6=>?_;exact hj _ _ (H6.sub (.cons .here (.drop .refl)))
  rw[iQ c5]at hF;by_cases c6:c.state=6
  ·rw[iJ c6]at hF;subst hF;refine qG ?_;(try dsimp only);refine qq omQ ?_;refine qJ (qq omQ ?_);refine qJ (qG ?_);(try dsimp only);refine qq omQ ?_;refine qJ (qq omQ ?_);refine qJ (qq omQ ?_);refine qJ (qq omQ ?_);refine qJ (qj omQ ?_);refine qX (qK (qQ (qV ‹_› .here rfl ?_)));refine qf omQ ?_;refine qK (qQ ?_)
   refine qk H4 (b:=b) .here ⟨rfl,rfl⟩ osQ λh5 H5=>?_;have H6:HS g h5 (ComC b { c with at_:=c.at_+1 }::qw b0 (zq a)::R):=ComC.I (sv:=sv) (cv:=cv) (tv:=tv) (wv:=wv) H5;refine qY (Mj omQ H6) λ_ h6 H6=>?_;exact hj _ _ (H6.sub (.cons .here (.drop .refl)))
  rw[iQ c6]at hF;subst hF;refine qG ?_;(try dsimp only);refine qq omQ ?_;refine qJ (qq omQ ?_);refine qJ (qG ?_);(try dsimp only);refine qq omQ ?_;refine qJ (qq omQ ?_);refine qJ (qq omQ ?_);refine qJ (qq omQ ?_);refine qJ (qq omQ ?_);refine qJ (qj omQ ?_);refine qX (qK (qQ (qV ‹_› .here rfl ?_)));refine qf omQ ?_;refine qK (qQ ?_)
  refine qk H4 (b:=b) .here ⟨rfl,rfl⟩ osQ λh5 H5=>?_;have H6:HS g h5 (ComC b { c with at_:=c.at_+1 }::qw b0 (zq a)::R):=ComC.I (sv:=sv) (cv:=cv) (tv:=tv) (wv:=wv) H5;refine qY (KW omQ H6) λ_ h6 H6=>?_;exact hj _ _ (H6.sub (.cons .here (.drop .refl)))
end
end
section
variable {g h:AH} {L R:List SP}
theorem XV {l:List Cl} {k:Nat} (hk:k<l.length):(l.flatMap jU)[k*2+0]? =some (.int .i64 (xo l (k:Int)).1)∧(l.flatMap jU)[k*2+1]? =some (.int .u64 (xo l (k:Int)).2):=by
 have e:((l.flatMap jU).drop (k*2)).take 2=jU (xo l (k:Int)):=gP (sz:=2) (enc:=jU) (λ_=>rfl) (by unfold xo;rw[Int.toNat_natCast,iW hk];rfl);constructor
 ·have:=congrArg (·[0]?) e;simp only[List.getElem?_take_of_lt (show 0<2 by omega),List.getElem?_drop]at this;exact this
 ·have:=congrArg (·[1]?) e;simp only[List.getElem?_take_of_lt (show 1<2 by omega),List.getElem?_drop]at this;exact this
section
variable {n b:Nat} {c:jW} {sv cv tv wv:AV}
theorem Yk (hn:2≤n) (H:HS g h (ComC b c::R)):t_w n 47 [.ptr b 0] h λr h'=>r=.int .i64 c.p.fin∧h'=h:=by
 refine t_e1 (S:=S47) rfl omQ λk hk=>?_;unfold S47;try simp only[iZ]
 obtain⟨sv,cv,tv,wv,H⟩:=ComC.E H;refine qK (qQ (qY (QL omQ H .here) ?_));rintro _ _ ⟨rfl,rfl⟩;exact qW ⟨rfl,rfl⟩
theorem qVP (hn:2≤n) (H:HS g h (ComC b c::R)):t_w n 102 [.ptr b 0] h λr h'=>r=.int .i64 c.p.err∧h'=h:=by
 refine t_e1 (S:=S102) rfl omQ λk hk=>?_;unfold S102;try simp only[iZ]
 obtain⟨sv,cv,tv,wv,H⟩:=ComC.E H;refine qK (qQ (qY (qVS omQ H .here) ?_));rintro _ _ ⟨rfl,rfl⟩;exact qW ⟨rfl,rfl⟩
theorem qq0 (hn:2≤n) (H:HS g h (ComC b c::R)):t_w n 325 [.ptr b 0] h λr h'=>r=.int .i64 c.p.by_∧h'=h:=by
 refine t_e1 (S:=S325) rfl omQ λk hk=>?_;unfold S325;try simp only[iZ]
 obtain⟨sv,cv,tv,wv,H⟩:=ComC.E H;refine qK (qQ (qY (N5 omQ H .here) ?_));rintro _ _ ⟨rfl,rfl⟩;exact qW ⟨rfl,rfl⟩
theorem Zd (hn:1≤n) (hw:0≤c.now∧c.now<9223372036854775807) (H:HS g h (ComC b c::R)):t_w n 64 [.ptr b 0] h λr h'=>r=.int .u64 (Xw c)∧h'=h:=by
 refine t_e1 (S:=S64) rfl omQ λk hk=>?_;unfold S64;try simp only[iZ]
 obtain⟨sv,cv,tv,wv,H⟩:=ComC.E H;unfold wF xL at H;unfold Xw;refine qK (qQ (qV ‹_› .here rfl ?_));cases hd:c.writing with
 |true=>rw[iQ osQ];refine jV (qJ (qK (qQ (qV ‹_› .here rfl ?_))));refine yj omQ ?_;exact qW ⟨rfl,rfl⟩
 |false=>rw[iJ rfl];refine jq (qX ?_);exact qW ⟨rfl,rfl⟩
theorem Vn (hn:3≤n) (H:HS g h (ComC b c::R)):t_w n 46 [.ptr b 0] h λr h'=>r=.bool (kH c)∧h'=h:=by
 refine t_e1 (S:=S46) rfl omQ λk hk=>?_;unfold S46;try simp only[iZ]
 obtain⟨sv,cv,tv,wv,H1⟩:=ComC.E H;unfold wF xL at H1;unfold kH;refine qK (qQ (qV ‹_› .here rfl ?_));refine qG ?_;(try dsimp only)
 cases hd:c.writing with
 |true=>
  refine qU ?_;(try dsimp only)
  refine qY (Yk omQ H) ?_;rintro _ _ ⟨rfl,rfl⟩;refine xp (λc1=>?_) (λc1=>?_)
  ·refine qE ?_;exact qW ⟨congrArg AV.bool (by rw[iG (p:=c.p.fin=0) c1];rfl),rfl⟩
  ·refine qE ?_;exact qW ⟨congrArg AV.bool (by rw[iV (p:=c.p.fin=0) c1];rfl),rfl⟩
 |false=>
  refine qT ?_;(try dsimp only);refine qI ?_
  exact qW ⟨rfl,rfl⟩
theorem qJ3 (hn:2≤n) (O:zK c) (H:HS g h (ComC b c::R)):t_w n 326 [.ptr b 0] h λr h'=>r=opV (xD c)∧HS g h' (ComC b c::R):=by
 refine t_e1 (S:=S326) rfl omQ λk hk=>?_;unfold S326;try simp only[iZ]
 obtain⟨sv,cv,tv,wv,H⟩:=ComC.E H;refine qH H rfl λb0 h1 H1=>?_;have hlo:=O.lo;have hst:=O.st;have hnow:=O.now;have l1:=O.s;have l2:=O.was;refine qK (qQ (qY (QL omQ H1 e_1) ?_));rintro _ _ ⟨rfl,rfl⟩;unfold xD;have H2:=H1;unfold wF xL at H2;by_cases hg:c.p.fin=0
 rotate_left
 ·refine jX hg ?_;rw[iJ hg];refine qX (qF rfl ?_);refine qe H1 (b:=b0) .here rfl (by show 0+10≤10;omega) rfl λh3 H3=>?_;refine qA H3 (b:=b0) (off:=0) .here rfl omQ (l:=xI (op0 0 0 0)) rfl ?_;exact qW ⟨rfl,ComC.I H3.drop⟩
 refine jK hg ?_;rw[iQ (λh=>h hg)];refine qJ (qK (qQ (qV ‹_› e_1 rfl ?_)));by_cases c0:c.state=0
 ·refine qj c0 ?_;rw[iJ c0];refine qX (qK (qQ (qV ‹_› e_1 rfl ?_)));refine qK (qQ (qV ‹_› e_1 rfl ?_));refine qs ‹_› e_5 ?_;have hw:=O.st0 hg omQ;refine jf (H1.sl e_4) (x:=.int .i64 (qD c.s c.was.length)) (by rw[List.getElem?_map,ye hw];rfl) ?_;refine qF rfl ?_;refine qe H2 (b:=b0) .here rfl (by show 0+10≤10;omega) rfl λh3 H3=>?_;refine qA H3 (b:=b0) (off:=0) .here rfl omQ (l:=xI (op0 3 (qD c.s c.was.length) 0)) rfl ?_;exact qW ⟨rfl,ComC.I H3.drop⟩
 refine qq c0 ?_;rw[iQ c0];refine qJ ?_;by_cases c1:c.state=1
 ·refine qj c1 ?_;rw[iJ c1];refine qX (qK (qQ ?_));have hw:=O.st0 hg omQ;refine qu (qV H2 (b:=b) e_1 rfl ?_);refine qK (qQ (qV ‹_› e_1 rfl ?_));refine qF rfl ?_;refine qH H2 rfl λb1 h3 H3=>?_;refine qe H3 (b:=b1) .here rfl (by show 0+3≤3;omega) rfl λh4 H4=>?_;have H4:HS g h4 (qw b1 (jw (c.lk.1,true,c.me))::qw b0 _::qw b (wF c sv cv tv wv)::_):=H4;have H5:=H4;unfold wF xL at H5;refine qK (qQ (qV ‹_› e_2 rfl ?_));refine qK (qQ (qV ‹_› e_2 rfl ?_));refine qs ‹_› e_6 ?_;refine jf (H4.sl e_5) (x:=.int .i64 (qD c.s c.was.length)) (by rw[List.getElem?_map,ye hw];rfl) ?_;refine qK (qQ (qA H5 (b:=b) (off:=13) e_2 rfl omQ (l:=jw c.lk) rfl ?_));refine qA H5 (b:=b1) (off:=0) .here rfl omQ (l:=jw (c.lk.1,true,c.me)) rfl ?_;refine qF rfl ?_;refine qe H5 (b:=b0) e_1 rfl (by show 0+10≤10;omega) rfl λh6 H6=>?_;refine qA H6 (b:=b0) (off:=0) .here rfl omQ (l:=xI ⟨4,qD c.s c.was.length,0,0,c.lk,(c.lk.1,true,c.me)⟩) rfl ?_;exact qW ⟨rfl,ComC.I H6.drop.drop⟩
 refine qq c1 ?_;rw[iQ c1];refine qJ ?_;by_cases c2:c.state=2
 ·refine qj c2 ?_;rw[iJ c2];refine qX (qF rfl ?_);refine qe H2 (b:=b0) .here rfl (by show 0+10≤10;omega) rfl λh3 H3=>?_;refine qA H3 (b:=b0) (off:=0) .here rfl omQ (l:=xI (op0 6 0 0)) rfl ?_;exact qW ⟨rfl,ComC.I H3.drop⟩
 refine qq c2 ?_;rw[iQ c2];refine qJ ?_;by_cases c3:c.state=3
 ·refine qj c3 ?_;rw[iJ c3];refine qX (qK (qQ (qV ‹_› e_1 rfl ?_)));refine qK (qQ (qV ‹_› e_1 rfl ?_));refine yj omQ ?_;refine qF rfl ?_;refine qe H2 (b:=b0) .here rfl (by show 0+10≤10;omega) rfl λh3 H3=>?_;refine qA H3 (b:=b0) (off:=0) .here rfl omQ (l:=xI (⟨7,0,c.now,c.now+1,lk0,lk0⟩)) rfl ?_;exact qW ⟨rfl,ComC.I H3.drop⟩
 refine qq c3 ?_;rw[iQ c3];refine qJ ?_;by_cases c4:c.state=4
 ·refine qj c4 ?_;rw[iJ c4];refine qX (qK (qQ (qV ‹_› e_1 rfl ?_)));refine qK (qQ (qV ‹_› e_1 rfl ?_));have hlt:=O.st4 hg c4;obtain⟨k,hk⟩:∃k:Nat,c.at_=k:=⟨c.at_.toNat,by omega⟩;rw[hk]at hlt ⊢;refine zH (H1.sl e_2) omQ omQ (yd omQ).1 ?_;refine qF rfl ?_;refine qe H2 (b:=b0) .here rfl (by show 0+10≤10;omega) rfl λh3 H3=>?_;refine qA H3 (b:=b0) (off:=0) .here rfl omQ (l:=xI (op0 3 (jr c.seen k).1 0)) rfl ?_;exact qW ⟨rfl,ComC.I H3.drop⟩
 refine qq c4 ?_;rw[iQ c4];refine qJ ?_;by_cases c5:c.state=5
 ·refine qj c5 ?_;rw[iJ c5];refine qX (qK (qQ (qV ‹_› e_1 rfl ?_)));refine qK (qQ (qV ‹_› e_1 rfl ?_));have hlt:=O.st5 hg c5;obtain⟨k,hk⟩:∃k:Nat,c.at_=k:=⟨c.at_.toNat,by omega⟩;rw[hk]at hlt ⊢;refine zH (H1.sl e_3) omQ omQ (XV omQ).1 ?_;refine qK (qQ (qV ‹_› e_1 rfl ?_));refine qK (qQ (qV ‹_› e_1 rfl ?_));rw[hk];refine zH (H1.sl e_3) omQ omQ (XV omQ).2 ?_;refine qF rfl ?_;refine qe H2 (b:=b0) .here rfl (by show 0+10≤10;omega) rfl λh3 H3=>?_;refine qA H3 (b:=b0) (off:=0) .here rfl omQ (l:=xI (op0 2 (xo c.cells k).1 (xo c.cells k).2)) rfl ?_;exact qW ⟨rfl,ComC.I H3.drop⟩
 refine qq c5 ?_;rw[iQ c5];refine qJ ?_;by_cases c6:c.state=6
 ·refine qj c6 ?_;rw[iJ c6];refine qX (qK (qQ (qV ‹_› e_1 rfl ?_)));refine qK (qQ (qV ‹_› e_1 rfl ?_));have hlt:=O.st6 hg c6;obtain⟨k,hk⟩:∃k:Nat,c.at_=k:=⟨c.at_.toNat,by omega⟩;rw[hk]at hlt ⊢;refine jf (H1.sl e_4) (x:=.int .i64 (qD c.s k)) (by rw[List.getElem?_map,ye omQ];rfl) ?_;refine qK (qQ (qV ‹_› e_1 rfl ?_));refine yj omQ ?_;refine qF rfl ?_;refine qF rfl ?_;refine qe H2 (b:=b0) .here rfl (by show 0+10≤10;omega) rfl λh3 H3=>?_;refine qA H3 (b:=b0) (off:=0) .here rfl omQ (l:=xI (⟨5,qD c.s k,0,0,lk0,(c.now+1,false,0)⟩)) rfl ?_;exact qW ⟨rfl,ComC.I H3.drop⟩
 refine qq c6 ?_;rw[iQ c6];refine qJ (qK (qQ (qV ‹_› e_1 rfl ?_)));refine qK (qQ (qV ‹_› e_1 rfl ?_));have hlt:=O.st7 hg omQ;obtain⟨k,hk⟩:∃k:Nat,c.at_=k:=⟨c.at_.toNat,by omega⟩;rw[hk]at hlt ⊢;refine jf (H1.sl e_4) (x:=.int .i64 (qD c.s k)) (by rw[List.getElem?_map,ye omQ];rfl) ?_;refine qK (qQ (qV ‹_› e_1 rfl ?_));refine qK (qQ (qV ‹_› e_1 rfl ?_));rw[hk];refine xK (l:=jw (jN c.was k)) (H1.sl e_5) omQ omQ (XF omQ) ?_;refine qF rfl ?_;refine qe H2 (b:=b0) .here rfl (by show 0+10≤10;omega) rfl λh3 H3=>?_;refine qA H3 (b:=b0) (off:=0) .here rfl omQ (l:=xI (⟨5,qD c.s k,0,0,lk0,jN c.was k⟩)) rfl ?_;exact qW ⟨rfl,ComC.I H3.drop⟩
theorem qVo {me sp st a w:Int} {v1 v2:AV} {r:List z6} {cs:List Cl} (hn:5≤n) (hr:r.length≤1000) (h0:0<cs.length) (hl:cs.length≤1000) (hc:∀c∈cs,0≤c.1∧c.1<100000)
  (H:HS g h (qL 98 2 r.length v1 (r.flatMap yM)::qL 61 2 cs.length v2 (cs.flatMap jU)::R)) :
  t_w n 60 [.int .i64 me,.int .i64 sp,.int .u64 st,v1,v2,.int .i64 a,.int .i64 w] h λv h'=>∃b,v=.ptr b 0∧HS g h' (ComC b (YZ me sp st r cs a w)::R):=by
 refine t_e7 (S:=S60) rfl omQ λk hk=>?_;unfold S60;try simp only[iZ]
 refine qY (Uo omQ H) ?_;rintro _ h1 ⟨rfl,H1⟩;refine qY (Ja omQ H1 .here (QV (λ_=>rfl) _) omQ) λu1 h2 H2=>?_;refine qY (Mo omQ H2 e_2 omQ) λu2 h3 H3=>?_;refine qY (OX omQ H3 (H3.rd e_3) h0 hl hc) λu3 h4 H4=>?_;have o1:=H4.one e_2;have o2:=H4.one e_1;have o3:=H4.one .here;unfold xL;refine qF (l:=wF ⟨Q3 me sp,me,st,r,cs,jS cs a w,[],0,0,lk0,0,false,0,0,0⟩ u1 u2 u3 .nils) (by simp only[vK,o1.1,o2.1,o3.1];rfl) ?_;refine qH H4 (by show jG [_,_,_,_,_,_,_,u1,u2,u3,_,_,_,_,_,_,_,_,_,_,_]=true;simp only[jG,List.all_cons,o1.2,o2.2,o3.2];rfl) λb h5 H5=>?_;have H6:=H5.nils (e:=40) (sz:=3);have H7:HS g h5 (ComC b ⟨Q3 me sp,me,st,r,cs,jS cs a w,[],0,0,lk0,0,false,0,0,0⟩::R) :=
  ComC.I (sv:=u1) (cv:=u2) (tv:=u3) (wv:=.nils) (H6.sub (.cons e_1 (.cons e_3 (.cons e_2 (.cons e_1 (.cons .here (.drop (.drop .refl))))))))
 refine qY (Me omQ H7) λ_ h6 H8=>qW ⟨b,rfl,H8⟩
end
end
section
def GN (a:AnM):Prop:=0≤a.word∧a.word<18446744073709551616
theorem wP {p:gj} {a:AnM} (h:(qS p a).1=true):(qS p a).2.fin≠0:=by
 unfold qS at h ⊢
 split
 ·show(4:Int)≠0;decide
 ·rename_i c;rw[iQ c]at h;simpa using h
theorem Ur {p:gj} {l:LkM} (hp:0≤p.spins∧p.spins≤4) (h:(qc p l).1=true):(qc p l).2.fin=p.fin∧0≤(qc p l).2.spins∧(qc p l).2.spins≤4:=by
 unfold qc at h ⊢
 split
 ·exact⟨rfl,hp⟩
 ·rename_i c;rw[iQ c]at h;have:0≤p.spins-1:=by simpa using h
  refine⟨rfl,?_⟩;show 0≤p.spins-1∧p.spins-1≤4;omega
theorem OD {me sp:Int}:X7 (Q3 me sp):=λ_=>by show 0≤max 0 (min sp 4)∧max 0 (min sp 4)≤4;omega
theorem Qr {p:gj} {f e y:Int} (h:f≠0):X7 (q9 p f e y):=λhf=>absurd hf h
theorem JF {f:wJ} {a:AnM} (hp:X7 f.p):X7 (xO f a).p:=by
 unfold xO;cases hs:(qS f.p a).1 with
 |true=>rw[iJ rfl];exact λh=>absurd h (wP hs)
 |false=>
  rw[iQ osQ];have hg:=(Qj hs).2;unfold w9
  split
  ·exact hp
  ·split
   ·exact Qr od
   ·split
    ·split
     ·rename_i hw;exact λ_=>(Ur (hp hg) hw).2
     ·exact Qr od
    ·split
     ·exact Qr od
     ·exact hp
theorem qVr {me sp:Int} {r:List z6} (hr:r.length≤16):YH (Mg me sp r):=⟨OD,Int.le_refl _,by show(0:Int)≤1000;decide,hr,by show(0:Int)≤_;omega,λ_ h=>by cases h⟩
theorem MO {x:wD} (hp:X7 x.p) (h0:0≤x.at_) (h1:x.at_≤x.seen.length) (hr:x.seen.length≤16):YH (GM x):=by
 unfold GM
 split
 ·exact⟨Qr od,h0,by show x.at_≤1000;omega,hr,h1,λh=>by cases h⟩
 ·exact⟨hp,h0,by omega,hr,h1,λ_ _=>by omega⟩
theorem JP {x:wD} {a:AnM} (O:YH x):YH (yg x a):=by
 unfold yg;cases hs:(qS x.p a).1 with
 |true=>rw[iJ rfl];exact⟨λh=>absurd h (wP hs),O.lo,O.hi,O.len,O.le,λh=>absurd h (wP hs)⟩
 |false=>
  rw[iQ osQ];have hg:=(Qj hs).2;have hlo:=O.lo;have hhi:=O.hi;have hlen:=O.len
  split
  ·exact MO (x:={ x with loaded:=true,stamp:=a.word }) O.p hlo O.le hlen
  ·rename_i hl;have hl:x.loaded=true:=by simpa using hl
   have hin:=O.in_ hg hl
   split
   ·split
    ·rename_i hw;have:=Ur (O.p hg) hw;exact⟨λ_=>this.2,hlo,hhi,hlen,O.le,λ_ _=>hin⟩
    ·exact⟨Qr od,hlo,hhi,hlen,O.le,λh=>by cases h⟩
   ·split
    ·exact⟨Qr od,hlo,hhi,hlen,O.le,λh=>by cases h⟩
    ·exact MO (x:={ x with at_:=x.at_+1 }) O.p (by show 0≤x.at_+1;omega) (by show x.at_+1≤(x.seen.length:Int);omega) hlen
section
variable {c:jW}
theorem Kt (r:c.s.Pairwise (· < ·)) (h:jm 1 c.p.spins 6 c.at_ c.now c.fin2 c.seen.length c.cells.length c.s.length c.was.length) (hs:c.state=6) (hp:0≤c.p.spins∧c.p.spins≤4) (ha:c.at_≤c.s.length):zK (xF c):=by
 unfold xF;unfold jm at h
 split
 ·refine⟨r,?_⟩;show jm 2 c.p.spins c.state c.at_ c.now c.fin2 c.seen.length c.cells.length c.s.length c.was.length;unfold jm;omega
 ·refine⟨r,?_⟩;unfold jm;omega
theorem GZ (r:c.s.Pairwise (· < ·)) (h:jm 1 c.p.spins 5 c.at_ c.now c.fin2 c.seen.length c.cells.length c.s.length c.was.length) (hs:c.state=5) (hp:0≤c.p.spins∧c.p.spins≤4) (ha:c.at_≤c.cells.length):zK (xY c):=by
 unfold xY;unfold jm at h
 split
 ·refine Kt (c:={ c with at_:=0,state:=6 }) r ?_ rfl hp (by show(0:Int)≤_;omega);show jm 1 c.p.spins 6 0 c.now c.fin2 c.seen.length c.cells.length c.s.length c.was.length;unfold jm;omega
 ·refine⟨r,?_⟩;unfold jm;omega
theorem Jy (r:c.s.Pairwise (· < ·)) (h:jm 1 c.p.spins 4 c.at_ c.now c.fin2 c.seen.length c.cells.length c.s.length c.was.length) (hp:0≤c.p.spins∧c.p.spins≤4):zK (yE c):=by unfold yE;unfold jm at h;refine GZ (c:={ c with writing:=true,at_:=0,state:=5 }) r ?_ rfl hp (by show(0:Int)≤_;omega);show jm 1 c.p.spins 5 0 c.now c.fin2 c.seen.length c.cells.length c.s.length c.was.length;unfold jm;omega
theorem Y9 (r:c.s.Pairwise (· < ·)) (h:jm 1 c.p.spins 7 c.at_ c.now c.fin2 c.seen.length c.cells.length c.s.length c.was.length) (hs:c.state=7) (ha:c.at_≤c.was.length):zK (xd c):=by
 unfold xd;unfold jm at h
 split
 ·refine⟨r,?_⟩;show jm c.fin2 c.p.spins c.state c.at_ c.now c.fin2 c.seen.length c.cells.length c.s.length c.was.length;unfold jm;omega
 ·refine⟨r,?_⟩;unfold jm;omega
theorem Qm {f e y:Int} (r:c.s.Pairwise (· < ·)) (h:jm 1 c.p.spins c.state c.at_ c.now c.fin2 c.seen.length c.cells.length c.s.length c.was.length) (hf:f≠0):zK (y3 c f e y):=by unfold y3;unfold jm at h;refine Y9 (c:={ c with fin2:=f,err2:=e,by2:=y,at_:=0,state:=7 }) r ?_ rfl (by show(0:Int)≤_;omega);show jm 1 c.p.spins 7 0 c.now f c.seen.length c.cells.length c.s.length c.was.length;unfold jm;omega
theorem zK.dead (O:zK c):jm 1 c.p.spins c.state c.at_ c.now c.fin2 c.seen.length c.cells.length c.s.length c.was.length:=by have h:=O.ar;unfold jm at h ⊢;omega
theorem KY {l:LkM} (O:zK c) (hg:c.p.fin=0) (hs:c.state≤6):zK (yG c l):=by
 unfold yG;have h:=O.ar
 split
 ·rename_i hw;have:=Ur (O.p hg hs) hw;refine⟨O.rise,?_⟩;show jm (qc c.p l).2.fin (qc c.p l).2.spins c.state c.at_ c.now c.fin2 c.seen.length c.cells.length c.s.length c.was.length;unfold jm at h ⊢;omega
 ·refine Qm (c:={ c with p:=(qc c.p l).2 }) O.rise ?_ od;show jm 1 (qc c.p l).2.spins c.state c.at_ c.now c.fin2 c.seen.length c.cells.length c.s.length c.was.length;unfold jm at h ⊢;omega
theorem VI (r:c.s.Pairwise (· < ·)):∀(m:Nat) (a:Int),jm 1 c.p.spins 4 a c.now c.fin2 c.seen.length c.cells.length c.s.length c.was.length→(0≤c.p.spins∧c.p.spins≤4)→zK (xC { c with state:=4,at_:=a } m):=by
 intro m
 induction m with
 |zero=>intro a h hp;exact Jy (c:={ c with state:=4,at_:=a }) r h hp
 |succ m ih=>
  intro a h hp;unfold xC;dsimp only
  split
  ·rename_i hlt
   split
   ·refine⟨r,?_⟩;show jm c.p.fin c.p.spins 4 a c.now c.fin2 c.seen.length c.cells.length c.s.length c.was.length;unfold jm at h ⊢;omega
   ·split
    ·exact Qm (c:={ c with state:=4,at_:=a }) r h od
    ·refine ih (a+1) ?_ hp;unfold jm at h ⊢;omega
  ·exact Jy (c:={ c with state:=4,at_:=a }) r h hp
theorem Y3 (r:c.s.Pairwise (· < ·)) (h:jm 1 c.p.spins 4 c.at_ c.now c.fin2 c.seen.length c.cells.length c.s.length c.was.length) (hp:0≤c.p.spins∧c.p.spins≤4):zK (yh c):=VI r _ c.at_ h hp
set_option maxHeartbeats 4000000 in
theorem Qs {a:AnM} (O:zK c) (ha:GN a):zK (zQ c a):=by
 have h:=O.ar;have hd:=O.dead;unfold zQ;cases hs:(qS c.p a).1 with
 |true=>rw[iJ rfl];have hf:=wP hs;refine⟨O.rise,?_⟩;show jm (qS c.p a).2.fin (qS c.p a).2.spins c.state c.at_ c.now c.fin2 c.seen.length c.cells.length c.s.length c.was.length;unfold jm at h ⊢;omega
 |false=>
  rw[iQ osQ];have hg:=(Qj hs).2;have ha:=ha.1;rw[hg]at h
  split
  ·rename_i hst;unfold yz
   split
   ·exact KY O hg omQ
   ·split
    ·refine⟨O.rise,?_⟩;show jm c.p.fin c.p.spins 1 c.at_ c.now c.fin2 c.seen.length c.cells.length c.s.length c.was.length;rw[hg];unfold jm at h ⊢;omega
    ·split
     ·unfold wO;dsimp only;have hl:(c.was++[c.lk]).length=c.was.length+1:=by simp
      split
      ·refine⟨O.rise,?_⟩;show jm c.p.fin c.p.spins 2 c.at_ c.now c.fin2 c.seen.length c.cells.length c.s.length (c.was++[c.lk]).length;rw[hg];unfold jm at h ⊢;omega
      ·refine⟨O.rise,?_⟩;show jm c.p.fin c.p.spins 0 c.at_ c.now c.fin2 c.seen.length c.cells.length c.s.length (c.was++[c.lk]).length;rw[hg];unfold jm at h ⊢;omega
     ·refine⟨O.rise,?_⟩;show jm c.p.fin c.p.spins 0 c.at_ c.now c.fin2 c.seen.length c.cells.length c.s.length c.was.length;rw[hg];unfold jm at h ⊢;omega
  split
  ·unfold x7
   split
   ·exact Qm O.rise hd od
   ·split
    ·refine⟨O.rise,?_⟩;show jm c.p.fin c.p.spins 3 c.at_ a.word c.fin2 c.seen.length c.cells.length c.s.length c.was.length;rw[hg];unfold jm at h ⊢;omega
    ·split
     ·refine⟨O.rise,?_⟩;show jm c.p.fin c.p.spins 2 c.at_ c.now c.fin2 c.seen.length c.cells.length c.s.length c.was.length;rw[hg];unfold jm at h ⊢;omega
     ·have h4:jm 1 c.p.spins 4 c.at_ c.now c.fin2 c.seen.length c.cells.length c.s.length c.was.length:=by unfold jm at h ⊢;omega
      split
      ·exact Jy O.rise h4 (O.p hg omQ)
      ·exact Y3 O.rise h4 (O.p hg omQ)
  split
  ·rename_i h4;unfold xe
   split
   ·exact KY O hg omQ
   ·split
    ·exact Qm O.rise hd od
    ·refine Y3 (c:={ c with at_:=c.at_+1 }) O.rise ?_ (O.p hg omQ);show jm 1 c.p.spins 4 (c.at_+1) c.now c.fin2 c.seen.length c.cells.length c.s.length c.was.length;unfold jm at h ⊢;omega
  split
  ·rename_i h5;have:=O.st5 hg h5;refine GZ (c:={ c with at_:=c.at_+1 }) O.rise ?_ h5 (O.p hg omQ) (by show c.at_+1≤(c.cells.length:Int);omega);show jm 1 c.p.spins 5 (c.at_+1) c.now c.fin2 c.seen.length c.cells.length c.s.length c.was.length;unfold jm at h ⊢;omega
  split
  ·rename_i h6;have:=O.st6 hg h6;refine Kt (c:={ c with at_:=c.at_+1 }) O.rise ?_ h6 (O.p hg omQ) (by show c.at_+1≤(c.s.length:Int);omega);show jm 1 c.p.spins 6 (c.at_+1) c.now c.fin2 c.seen.length c.cells.length c.s.length c.was.length;unfold jm at h ⊢;omega
  ·have hst:=O.st;have h7:c.state=7:=by omega
   have:=O.st7 hg h7;refine Y9 (c:={ c with at_:=c.at_+1 }) O.rise ?_ h7 (by show c.at_+1≤(c.was.length:Int);omega);show jm 1 c.p.spins 7 (c.at_+1) c.now c.fin2 c.seen.length c.cells.length c.s.length c.was.length;unfold jm at h ⊢;omega
theorem qXm {me sp st a w:Int} {r:List z6} {cs:List Cl} (hr:r.length≤16) (h0:0<cs.length) (hl:cs.length≤1000) (hc:∀c∈cs,0≤c.1):zK (YZ me sp st r cs a w):=by
 have h1:(jS cs a w).length≤16:=by unfold jS;exact Nat.le_trans (List.length_filter_le ..) osQ
 have h2:0<(jS cs a w).length:=by obtain⟨c,hcm⟩:=List.exists_mem_of_length_pos h0;exact List.length_pos_of_mem ((Qg (n:=a) (w:=w) hc).2 (List.mem_map.2 ⟨c,hcm,rfl⟩))
 unfold YZ wO;rw[iQ (by show¬(0:Nat)=(jS cs a w).length;omega)];refine⟨kx,?_⟩;show jm 0 (max 0 (min sp 4)) 0 0 0 0 r.length cs.length (jS cs a w).length 0;unfold jm;omega
end
end
section
theorem qqI {l:List qb} (F:Fit l) (Q:Quiet l):∀(n:Nat) {s:IM} {V:VM},GI l s V→frS V.lv+n<9000→(zt l (qm l) n s V).kind=1→frS (zt l (qm l) n s V).v.lv+(zt l (qm l) n s V).left≤frS V.lv+n:=by
 intro n
 induction n with
 |zero=>
  intro s V G hf;rw[kh]
  split<;>(intro h;cases h)
 |succ n ih=>
  intro s V G hf;rw[QC]
  split
  ·intro h;cases h
  ·rename_i h0;obtain⟨i,hi,hil⟩:=G.pc;have hlt:i<l.length:=by omega
   rw[hi];have S:=U3 F G hi hlt omQ (Q.at hlt).2 (Q.at hlt).1;generalize doM (qm l) s V (qP l i)=D at*
   split
   ·rename_i h1
    split
    ·intro h;cases h
    ·rename_i h2;have hfr:=S.fr;intro h;have:=ih (S.next h1 (by simpa using h2)) omQ h;omega
   ·split
    ·rename_i h11;obtain⟨n1,n2,_⟩:=S.need h11;intro _;show frS D.v.lv+(n+1)≤_;rw[n2];omega
    ·intro h;cases h
theorem qqP {l:List qb} {mt:List Int}:∀(n:Nat) {s:IM} {V:VM},(zt l mt n s V).kind=1→(zt l mt n s V).err=0:=by
 intro n
 induction n with
 |zero=>intro s V;rw[kh];split<;>(intro h;cases h)
 |succ n ih=>
  intro s V;rw[QC];generalize doM mt s V (qP l s.pc)=D
  split
  ·intro h;cases h
  ·split
   ·split
    ·intro h;cases h
    ·exact ih
   ·split
    ·intro _;rfl
    ·intro h;cases h
theorem qV0 {l:List qb} {s:IM} {V:VM} {p x:Int} (G:GI l s V) (hx:0≤x∧x<18446744073709551616):GI l s (xN V p x).2:=by
 have hl:(xN V p x).2.lv=V.lv:=by
  unfold xN
  repeat' split
  all_goals rfl
 refine⟨G.gb,G.pc,G.pts,G.told,G.stk,by rw[hl];exact G.lv,⟨Mr G.good.ok,?_⟩⟩;unfold xN
 split
 ·split
  ·exact G.good.wd
  ·refine⟨λc hc=>?_,G.good.wd.l⟩;rcases List.mem_append.1 hc with hc |hc
   ·exact G.good.wd.k c hc
   ·rw[List.mem_singleton]at hc;subst hc;exact hx
 ·exact G.good.wd
theorem qqm {l:List qb} {mt:List Int}:∀(n:Nat) {s:IM} {V:VM},(zt l mt n s V).left≤n:=by
 intro n
 induction n with
 |zero=>intro s V;rw[kh];split<;>exact Nat.le_refl _
 |succ n ih=>
  intro s V;rw[QC];generalize doM mt s V (qP l s.pc)=D
  split
  ·exact Nat.le_refl _
  ·split
   ·split
    ·exact Nat.le_succ n
    ·exact Nat.le_trans ih (Nat.le_succ n)
   ·split<;>exact Nat.le_refl _
end
section
structure JG (S:zi):Prop where
  words:32≤S.words∧S.words≤256
  stripes:1≤S.stripes∧S.stripes≤16
  wide:1≤S.wide∧S.wide≤16
  threads:1≤S.threads∧S.threads≤4
  start:0≤S.start∧S.start≤4611686018427387903
  spins:0≤S.spins∧S.spins≤4
  writes:0≤S.writes∧S.writes≤96
  fuel:0≤S.fuel∧S.fuel≤400
theorem kw {n lo hi:Int} (h:lo≤hi):lo≤kS n lo hi∧kS n lo hi≤hi:=by unfold kS;omega
theorem Vf {n lo hi:Int} (h:lo≤n∧n≤hi):kS n lo hi=n:=by unfold kS;omega
theorem JW {s:zi} (h:0≤s.start):JG (jo s) :=
 ⟨kw omQ,kw omQ,kw omQ,kw omQ,by show 0≤min s.start 4611686018427387903∧min s.start 4611686018427387903≤4611686018427387903;omega,kw omQ,kw omQ,kw omQ⟩
theorem Zp {M:VM} {b:Int} (h:(xZ M b).1=11):kR M (xZ M b).2:=by
 have ha:=qWF M b;unfold xZ at h ⊢
 split
 ·rename_i h1;rw[iJ h1]at h;have e:=ha.2 h1
  split
  ·rename_i h2;rw[iJ h2]at h;cases h
  ·rename_i h2;rw[iQ h2]at h
   split
   ·rename_i h3;rw[iJ h3]at h;exact(J8 h).elim
   ·rename_i h3;rw[iQ h3]at h;rw[e]at h ⊢;exact gp h
 ·rename_i h1;rw[iQ h1]at h;exact MI h
theorem ZK {M:VM} {b:Int} (O:OkV M):kM M (xZ M b).2:=by
 have ha:=VU M b;unfold xZ
 repeat' split
 ·exact ha
 ·exact(ha.trans (ze _ _)).trans (vJ (xz (Qc O)))
 ·exact ha.trans (ze _ _)
 ·exact ha
theorem qKm:∀(bs:List Int) (k:Nat) {V:VM},jj V→jj (xv V bs k).2∧kM V (xv V bs k).2∧frS (xv V bs k).2.lv=frS V.lv∧(xv V bs k).1.1≤k+bs.length∧
  ((xv V bs k).1.2=11→1≤(xv V bs k).2.need∧(xv V bs k).2.need<V.sz∧zC (xv V bs k).2.need V.K=none):=by
 intro bs
 induction bs with
 |nil=>intro k V G;exact⟨G,.refl V,rfl,Nat.le_refl _,λh=>by cases h⟩
 |cons b r ih=>
  intro k V G;have hg:=G.give (b:=b);have hk:=ZK (b:=b) G.ok;by_cases h0:(xZ V b).1=0
  ·rw[show xv V (b::r) k=xv (xZ V b).2 r (k+1)from iJ h0];obtain⟨a1,a2,a3,a4,a5⟩:=ih (k+1) hg.1;refine⟨a1,hk.trans a2,a3.trans hg.2,by rw[List.length_cons];omega,λh=>?_⟩;have:=a5 h;rw[hk.sz,hk.K]at this;exact this
  ·rw[show xv V (b::r) k=((k,(xZ V b).1),(xZ V b).2)from iQ h0];exact⟨hg.1,hk,hg.2,by dsimp only;omega,λh=>(Zp h).2⟩
def JobOk (live:Prop) (V:VM):Gz→Prop
 | .prog q=>Fit q.l∧Quiet q.l∧GB q.s∧(live→GI q.l q.s V∧q.fin=0∧q.err=0∧frS V.lv+q.left<9000)∧q.left≤400
 | .sweep bs k=>k≤bs.length∧bs.length≤100000
theorem JobOk.dead {live live':Prop} {V V':VM} {j:Gz} (O:JobOk live V j) (h:¬live'):JobOk live' V' j:=by
 cases j with
 |prog q=>exact⟨O.1,O.2.1,O.2.2.1,λh'=>absurd h' h,O.2.2.2.2⟩
 |sweep bs k=>exact O
theorem JobOk.same {live live':Prop} {V:VM} {j:Gz} (O:JobOk live V j) (h:live'→live):JobOk live' V j:=by
 cases j with
 |prog q=>exact⟨O.1,O.2.1,O.2.2.1,λh'=>O.2.2.2.1 (h h'),O.2.2.2.2⟩
 |sweep bs k=>exact O
structure xJ (x:jI):Prop where
  set:JG x.set
  good:jj x.v
  sz:(x.v.sz:Int)=x.set.words
  fr:frS x.v.lv<9000
  r:x.r.length≤16
  job:JobOk (x.state≤4) x.v x.job
  st:0≤x.state∧x.state≤8
  f:x.state=3→X7 x.f.p∧0≤x.f.word∧x.f.word<18446744073709551616
  need:3≤x.state→x.state≤4→1≤x.v.need∧x.v.need<x.v.sz∧zC x.v.need x.v.K=none
  e:4≤x.state→x.state≤5→YH x.e
  c:∀c,x.c=some c→zK c
  c0:x.state≤5→x.c=none
  c6:x.state=6→x.c≠none
structure DoneK (x:jI) (k:Int) (y:jI):Prop where
  good:jj y.v
  kept:y.v.sz=x.v.sz∧y.v.K=x.v.K∧y.v.most=x.v.most
  fr:frS y.v.lv<9000
  job:JobOk (k=1) y.v y.job
  need:k=1→1≤y.v.need∧y.v.need<x.v.sz∧zC y.v.need x.v.K=none
  same:y.me=x.me∧y.set=x.set∧y.r=x.r∧y.stamp=x.stamp∧y.c=x.c
theorem U2 {x:jI} (hg:jj x.v) (hf:frS x.v.lv<9000) (hj:JobOk True x.v x.job):DoneK x (vy x).1.1 (vy x).2:=by
 unfold vy;cases hx:x.job with
 |prog q=>
  rw[hx]at hj;obtain⟨F,Q,gb,h,hl⟩:=hj;obtain⟨G,h0,h1,h2⟩:=h trivial;obtain⟨RB,rfr,_,rn,_⟩:=qY8 F Q q.left G h2;dsimp only;refine⟨RB.good,⟨RB.sz,RB.K,RB.most⟩,by dsimp only;omega,⟨F,Q,RB.gb,λhk=>?_,?_⟩,λhk=>?_,⟨rfl,rfl,rfl,rfl,rfl⟩⟩
  ·have hr:=qqI F Q q.left G h2 hk;exact⟨(rn hk).1,iJ hk,qqP _ hk,by dsimp only;omega⟩
  ·have hr:=qqm (l:=q.l) (mt:=qm q.l) q.left (s:=q.s) (V:=x.v);dsimp only;omega
  ·exact(rn hk).2
 |sweep bs k=>
  rw[hx]at hj;obtain⟨a1,a2,a3,a4,a5⟩:=qKm (bs.drop k) k hg;dsimp only;refine⟨a1,⟨a2.sz,a2.K,a2.most⟩,by dsimp only;omega,⟨by rw[List.length_drop]at a4;have:=hj.1;omega,hj.2⟩,λh=>?_,⟨rfl,rfl,rfl,rfl,rfl⟩⟩
  ·refine a5 ?_
   split at h
   ·assumption
   ·split at h<;>cases h
structure wo (x:jI):Prop where
  set:JG x.set
  good:jj x.v
  sz:(x.v.sz:Int)=x.set.words
  fr:frS x.v.lv<9000
  r:x.r.length≤16
  job:JobOk False x.v x.job
  c:∀c,x.c=some c→zK c
theorem xJ.b {x:jI} (O:xJ x):wo x:=⟨O.set,O.good,O.sz,O.fr,O.r,O.job.dead not_false,O.c⟩
theorem wo.out {x:jI} (B:wo x) {f e y:Int}:xJ (xq x f e y) :=
 ⟨B.set,B.good,B.sz,B.fr,B.r,B.job.dead (by show¬(7:Int)≤4;decide),by show(0:Int)≤7∧(7:Int)≤8;decide,λh=>(by cases h),λ_ h=>(by cases h),λ_ h=>(by cases h),B.c,λh=>(by cases h),λh=>by cases h⟩
theorem wo.gone {x:jI} (B:wo x) {f e y:Int}:xJ { xq x f e y with state:=8 } :=
 ⟨B.set,B.good,B.sz,B.fr,B.r,B.job.dead (by show¬(8:Int)≤4;decide),by show(0:Int)≤8∧(8:Int)≤8;decide,λh=>(by cases h),λ_ h=>(by cases h),λ_ h=>(by cases h),B.c,λh=>(by cases h),λh=>by cases h⟩
theorem wo.ask {x:jI} (B:wo x) (hj:JobOk True x.v x.job) (hn:1≤x.v.need∧x.v.need<x.v.sz∧zC x.v.need x.v.K=none) (hc:x.c=none):xJ (JB x x.v.need) :=
 ⟨B.set,B.good,B.sz,B.fr,B.r,hj.same λ_=>trivial,by show(0:Int)≤3∧(3:Int)≤8;decide,λ_=>⟨OD,by show(0:Int)≤0;decide,by show(0:Int)<_;decide⟩,λ_ _=>hn,λh=>absurd h (by show¬(4:Int)≤3;decide),B.c,λ_=>hc,λh=>by cases h⟩
theorem wo.later {x:jI} (B:wo x) (hc:x.c=none) {s:Int} (hs:s=4∨s=5) (hj:s=4→JobOk True x.v x.job∧1≤x.v.need∧x.v.need<x.v.sz∧zC x.v.need x.v.K=none):xJ (wZ x s):=by
 refine⟨B.set,B.good,B.sz,B.fr,B.r,?_,by show 0≤s∧s≤8;omega,λh=>?_,λ_ h=>(hj ?_).2,λ_ _=>qVr B.r,B.c,λ_=>hc,λh=>?_⟩
 ·show JobOk (s≤4) x.v x.job;rcases hs with rfl |rfl
  ·exact(hj rfl).1.same λ_=>trivial
  ·exact B.job.dead od
 ·have h:s=3:=h;omega
 ·have h:s≤4:=h;omega
 ·have h:s=6:=h;omega
theorem VP {V:VM} (O:OkV V):(jO V.lv).length≤96∧∀c∈jO V.lv,1≤c.1∧c.1<256:=by have h1:=GK V.lv [];have h2:=O.lvs.held;have h3:=O.lvs.le;refine⟨by simp at h1;unfold jO;omega,?_⟩;exact KJ V.lv [] (λc hc=>by cases hc) O.lvs.ins
theorem wo.work {x:jI} (B:wo x) (hj:JobOk True x.v x.job) (hc:x.c=none):xJ (gT x):=by
 have D:=U2 B.good B.fr hj;unfold gT;generalize(vy x).1.1=k at*;generalize(vy x).1.2=e at*;generalize(vy x).2=y at*;obtain⟨e1,e2,e3,e4,e5⟩:=D.same;have hyc:y.c=none:=by rw[e5,hc]
 have B':wo y:=⟨by rw[e2];exact B.set,D.good,by rw[D.kept.1,e2];exact B.sz,D.fr,by rw[e3];exact B.r,D.job.same λh=>h.elim,λc h=>by rw[hyc]at h;cases h⟩;unfold kL
 split
 ·rename_i h1;exact B'.ask (D.job.same λ_=>h1) (by have:=D.need h1;rw[D.kept.1,D.kept.2.1];exact this) hyc
 ·split
  ·exact wo.later (x:={ y with blocking:=true }) ⟨B'.set,B'.good,B'.sz,B'.fr,B'.r,B'.job,B'.c⟩ hyc (.inr rfl) λh=>by cases h
  ·split
   ·exact B'.out
   ·split
    ·exact B'.out
    ·rename_i hm;have hmo:=VP D.good.ok;refine⟨B'.set,B'.good,B'.sz,B'.fr,B'.r,B'.job.dead (by show¬(6:Int)≤4;decide),by show(0:Int)≤6∧(6:Int)≤8;decide,λh=>(by cases h),λ_ h=>(by cases h),λ_ h=>(by cases h),λc h=>?_,λh=>(by cases h),λ_ h=>by cases h⟩;cases h;exact qXm B'.r (List.length_pos_iff.2 hm) omQ λc hc=>by have:=hmo.2 c hc;omega
theorem Gv {r:List z6} {x:z6} (h:r.length≤16):(ga r x).2.length≤16:=by
 unfold ga
 split
 ·exact h
 ·split
  ·split<;>exact h
  ·split
   ·exact h
   ·rw[List.length_append,List.length_singleton];omega
theorem kq {V:VM} {p x:Int}:(xN V p x).2.lv=V.lv∧(xN V p x).2.sz=V.sz:=by
 unfold xN
 repeat' split
 all_goals exact⟨rfl,rfl⟩
theorem XB {V:VM} {p x:Int} (G:jj V) (hx:0≤x∧x<18446744073709551616):jj (xN V p x).2:=by
 refine⟨Mr G.ok,?_⟩;unfold xN
 split
 ·split
  ·exact G.wd
  ·refine⟨λc hc=>?_,G.wd.l⟩;rcases List.mem_append.1 hc with hc |hc
   ·exact G.wd.k c hc
   ·rw[List.mem_singleton]at hc;subst hc;exact hx
 ·exact G.wd
theorem JobOk.know {V:VM} {j:Gz} {p x:Int} (O:JobOk True V j) (hx:0≤x∧x<18446744073709551616):JobOk True (xN V p x).2 j:=by
 cases j with
 |prog q=>exact⟨O.1,O.2.1,O.2.2.1,λ_=>⟨qV0 (O.2.2.2.1 trivial).1 hx,(O.2.2.2.1 trivial).2.1,(O.2.2.2.1 trivial).2.2.1,by rw[kq.1];exact(O.2.2.2.1 trivial).2.2.2⟩,O.2.2.2.2⟩
 |sweep bs k=>exact O
theorem XU {f:wJ} (h:0≤f.word∧f.word<18446744073709551616):0≤xP f∧xP f<18446744073709551616:=by
 unfold xP
 split
 ·omega
 ·exact h
theorem Xf {f:wJ} {a:AnM} (h:0≤f.word∧f.word<18446744073709551616) (ha:GN a):0≤(xO f a).word∧(xO f a).word<18446744073709551616:=by
 unfold xO w9
 repeat' split
 all_goals first |exact h |exact ha
theorem wo.fetched {x:jI} (B:wo x) (hj:JobOk True x.v x.job) (hn:1≤x.v.need∧x.v.need<x.v.sz∧zC x.v.need x.v.K=none) (hc:x.c=none) (hw:0≤x.f.word∧x.f.word<18446744073709551616):xJ (xx x):=by
 unfold xx
 split
 ·exact B.later hc (.inl rfl) λ_=>⟨hj,hn⟩
 ·have hx:=XU hw
  split
  ·refine wo.work ?_ (hj.know hx) hc;exact⟨B.set,XB B.good hx,by show((xN x.v x.v.need (xP x.f)).2.sz:Int)=_;rw[kq.2];exact B.sz,by show frS (xN x.v x.v.need (xP x.f)).2.lv<9000;rw[kq.1];exact B.fr,Gv B.r,(hj.know hx).same λh=>h.elim,B.c⟩
  ·split<;>exact B.out
theorem G1 {x:jI} (O:xJ x):xJ (xr x):=by
 unfold xr
 split
 ·split
  ·exact⟨O.set,O.good,O.sz,O.fr,O.r,O.job,O.st,O.f,O.need,O.e,O.c,O.c0,O.c6⟩
  ·exact O
 ·exact O
theorem VA {x:jI} (O:xJ x) (h3:3≤x.state) (h6:x.state≤6):xJ (z8 x):=by
 unfold z8
 split
 ·rename_i hs;exact O.b.fetched (O.job.same λ_=>by omega) (O.need omQ omQ) (O.c0 omQ) (O.f hs).2
 ·split
  ·rename_i hs;exact wo.ask (x:={ x with stamp:=yl x.e }) ⟨O.set,O.good,O.sz,O.fr,O.r,O.job.dead not_false,O.c⟩ (O.job.same λ_=>by omega) (O.need omQ omQ) (O.c0 omQ)
  ·split
   ·exact wo.out (x:={ x with stamp:=yl x.e }) ⟨O.set,O.good,O.sz,O.fr,O.r,O.job.dead not_false,O.c⟩
   ·split
    ·exact O.b.out
    ·rename_i hc;exact absurd hc (O.c6 omQ)
def yA (x:jI):jI:=if(zR x).1=0 then x else if(zR x).1=5 then xq x 5 0 (zR x).2 else z8 x
theorem K6 {x:jI} (O:xJ x) (h3:3≤x.state) (h6:x.state≤6):xJ (yA x):=by
 unfold yA
 split
 ·exact O
 ·split
  ·exact O.b.out
  ·exact VA O h3 h6
theorem Jb {x:jI} (O:xJ x) (h3:3≤x.state) (h6:x.state≤6):xJ (zy x):=G1 (K6 O h3 h6)
theorem qQm {x:jI} {a:AnM} (O:xJ x) (ha:GN a):xJ (zT x a):=by
 have hst:=O.st;unfold zT
 split
 ·exact O
 ·split
  ·exact O.b.gone
  ·split
   ·exact⟨O.set,O.good,O.sz,O.fr,O.r,O.job.same λ_=>by omega,by show(0:Int)≤1∧(1:Int)≤8;decide,λh=>(by cases h),λh=>absurd h (by show¬(3:Int)≤1;decide),λh=>absurd h (by show¬(4:Int)≤1;decide),O.c,λ_=>O.c0 omQ,λh=>by cases h⟩
   ·split
    ·exact⟨O.set,O.good,O.sz,O.fr,O.r,O.job.same λ_=>by omega,by show(0:Int)≤2∧(2:Int)≤8;decide,λh=>(by cases h),λh=>absurd h (by show¬(3:Int)≤2;decide),λh=>absurd h (by show¬(4:Int)≤2;decide),O.c,λ_=>O.c0 omQ,λh=>by cases h⟩
    ·split
     ·exact O.b.work (O.job.same λ_=>by omega) (O.c0 omQ)
     ·split
      ·exact⟨O.set,O.good,O.sz,O.fr,O.r,O.job.dead (by show¬(8:Int)≤4;decide),by show(0:Int)≤8∧(8:Int)≤8;decide,λh=>(by cases h),λ_ h=>(by cases h),λ_ h=>(by cases h),O.c,λh=>(by cases h),λh=>by cases h⟩
      ·split
       ·rename_i hs;have hf:=O.f hs;refine Jb (x:={ x with f:=xO x.f a }) ?_ (by show 3≤x.state;omega) (by show x.state≤6;omega);exact⟨O.set,O.good,O.sz,O.fr,O.r,O.job,O.st,λ_=>⟨JF hf.1,Xf hf.2 ha⟩,O.need,O.e,O.c,O.c0,O.c6⟩
       ·split
        ·rename_i hs;refine Jb (x:={ x with c:=x.c.map λc=>zQ c a }) ?_ (by show 3≤x.state;omega) (by show x.state≤6;omega);refine⟨O.set,O.good,O.sz,O.fr,O.r,O.job,O.st,O.f,O.need,O.e,λc h=>?_,λh=>absurd h (by show¬x.state≤5;omega),λh hn=>O.c6 h ?_⟩
         ·obtain⟨c',h1,rfl⟩:=Option.map_eq_some_iff.1 h;exact Qs (O.c c' h1) ha
         ·exact Option.map_eq_none_iff.1 hn
        ·refine Jb (x:={ x with e:=yg x.e a }) ?_ (by show 3≤x.state;omega) (by show x.state≤6;omega);exact⟨O.set,O.good,O.sz,O.fr,O.r,O.job,O.st,O.f,O.need,λh1 h2=>JP (O.e h1 h2),O.c,O.c0,O.c6⟩
theorem Ko (w m:Int):jj (U6 w m):=⟨qV2 w m,λc hc=>(by cases hc),λx hx c hc=>by
 rcases List.mem_cons.1 hx with rfl |hx
 ·cases hc
 ·cases hx⟩
theorem qWn {me:Int} {S:zi} {j:Gz} (O:JG S) (hj:JobOk True (U6 S.words S.writes) j):xJ (qXL me S j):=by have:=O.words;refine⟨O,Ko _ _,?_,by show(0:Nat)<9000;decide,Nat.zero_le _,hj.same λ_=>trivial,by show(0:Int)≤0∧(0:Int)≤8;decide,λh=>(by cases h),λh=>absurd h (by show¬(3:Int)≤0;decide),λh=>absurd h (by show¬(4:Int)≤0;decide),λc h=>(by cases h),λ_=>rfl,λh=>by cases h⟩;show((szZ S.words:Nat):Int)=S.words;unfold szZ;omega
theorem NP {me:Int} {S:zi} {l:List qb} (hs:0≤S.start) (hc:(yC l).2=0) (Q:Quiet l):xJ (kC me S l):=by
 have O:=JW hs;refine qWn O ?_;have G:=Ko (jo S).words (jo S).writes;have hf:JQ (jo S).fuel≤400:=by unfold JQ;omega
 exact⟨NL hc,Q,(Om (l:=l) rfl G).gb,λ_=>⟨Om rfl G,rfl,rfl,by show(0:Nat)+JQ (jo S).fuel<9000;omega⟩,hf⟩
end
section
def pF:List qb:=[(8,0,7,6,0),(8,1,7,9,0),(8,2,7,13,0),(21,0,0,0,0),(21,1,0,0,0),(21,2,0,0,0)]
def gX (p:Int):Prop:=p=6∨p=9∨p=13
structure Mc (s:IM) (V:VM):Prop where
  pc:∃i:Nat,s.pc=i∧i≤6
  z:qD s.regs 7=0
  lv:V.lv=[([],[])]
theorem qVT {V:VM} {p:Int}:(qR V p).2.lv=V.lv∧(qR V p).2.K=V.K∧((qR V p).1.2=11→(qR V p).2.need=p):=by
 unfold qR
 repeat' split
 all_goals refine⟨rfl,rfl,λh=>?_⟩
 all_goals first |rfl |cases h
theorem OV {l:List Int} {i:Nat} (hi:i<7) {v:Int}:qD (l.set i v) 7=qD l 7:=by show((l.set i v)[7]?).getD 0=(l[7]?).getD 0;rw[List.getElem?_set_ne omQ]
structure DoF (V:VM) (d:SM):Prop where
  blk:d.blk=false
  s:Mc d.s d.v
  n:Mc { d.s with pc:=d.nx } d.v
  k:d.v.K=V.K
  need:d.e=11→gX d.v.need
theorem Uj {mt:List Int} {s:IM} {V:VM} {a i:Nat} {p:Int} (ha:a<7) (hp:xc 0 p=(p,0)) (h3:gX p) (F:Mc s V) (hi:s.pc=i) (h6:i<6):DoF V (doM mt s V (8,(a:Int),7,p,0)):=by
 have e:doM mt s V (8,(a:Int),7,p,0)=⟨(jP s V (8,(a:Int),7,p,0)).1,s.pc+1,false,(jP s V (8,(a:Int),7,p,0)).2.1,(jP s V (8,(a:Int),7,p,0)).2.2⟩:=by simp[doM]
 have t:jP s V (8,(a:Int),7,p,0)=if(qR V p).1.2=0 then(0,setR s a (qR V p).1.1,(qR V p).2)else((qR V p).1.2,s,(qR V p).2):=by unfold jP;simp[F.z,hp]
 have r:=qVT (V:=V) (p:=p);rw[e,t];have hn:∃j:Nat,s.pc+1=(j:Int)∧j≤6:=⟨i+1,by omega,by omega⟩;by_cases h0:(qR V p).1.2=0
 ·rw[iJ h0];have z:qD (setR s a (qR V p).1.1).regs 7=0:=by
   show qD (s.regs.set ((a:Int)).toNat _) 7=0;rw[Int.toNat_natCast,OV ha];exact F.z
  exact⟨rfl,⟨⟨i,hi,by omega⟩,z,r.1.trans F.lv⟩,⟨hn,z,r.1.trans F.lv⟩,r.2.1,λh=>by cases h⟩
 ·rw[iQ h0];exact⟨rfl,⟨⟨i,hi,by omega⟩,F.z,r.1.trans F.lv⟩,⟨hn,F.z,r.1.trans F.lv⟩,r.2.1,λh=>(r.2.2 h).symm▸h3⟩
theorem Uk {mt:List Int} {s:IM} {V:VM} {a:Int} {i:Nat} (F:Mc s V) (hi:s.pc=i) (h6:i<6):DoF V (doM mt s V (21,a,0,0,0)):=by
 have e:doM mt s V (21,a,0,0,0)=if 16≤s.out.length then⟨5,s.pc+1,false,s,V⟩else⟨0,s.pc+1,false,{ s with out:=s.out++[(1,qD s.regs a)] },V⟩:=by simp[doM]
 have hn:∃j:Nat,s.pc+1=(j:Int)∧j≤6:=⟨i+1,by omega,by omega⟩;rw[e]
 split
 ·exact⟨rfl,F,⟨hn,F.z,F.lv⟩,rfl,λh=>by cases h⟩
 ·exact⟨rfl,⟨⟨i,hi,by omega⟩,F.z,F.lv⟩,⟨hn,F.z,F.lv⟩,rfl,λh=>by cases h⟩
theorem do_pf {mt:List Int} {s:IM} {V:VM} {i:Nat} (F:Mc s V) (hi:s.pc=i) (h6:i<6):DoF V (doM mt s V (qP pF s.pc)):=by
 rw[hi]
 match i,h6 with
 | 0,_=>exact Uj (a:=0) od od (.inl rfl) F hi od
 | 1,_=>exact Uj (a:=1) od od (.inr (.inl rfl)) F hi od
 | 2,_=>exact Uj (a:=2) od od (.inr (.inr rfl)) F hi od
 | 3,_=>exact Uk F hi od
 | 4,_=>exact Uk F hi od
 | 5,_=>exact Uk F hi od
structure EndF (V:VM) (r:RM):Prop where
  s:Mc r.s r.v
  k:r.v.K=V.K
  n3:r.kind≠3
  need:r.kind=1→gX r.v.need
theorem qqc {mt:List Int}:∀(n:Nat) {s:IM} {V:VM},Mc s V→EndF V (zt pF mt n s V):=by
 intro n
 induction n with
 |zero=>
  intro s V F;rw[kh]
  split
  ·exact⟨F,rfl,λh=>(by cases h),λh=>by cases h⟩
  ·exact⟨F,rfl,λh=>(by cases h),λh=>by cases h⟩
 |succ n ih=>
  intro s V F;obtain⟨i,hi,h6⟩:=F.pc;rw[QC]
  split
  ·exact⟨F,rfl,λh=>(by cases h),λh=>by cases h⟩
  ·rename_i hne;have h6:i<6:=by
    have:¬s.pc=(6:Int):=hne;omega
   have D:=do_pf (mt:=mt) F hi h6;generalize doM mt s V (qP pF s.pc)=d at*
   split
   ·rw[iQ (by rw[D.blk];decide)];have E:=ih D.n;exact⟨E.s,E.k.trans D.k,E.n3,E.need⟩
   ·split
    ·rename_i h11;exact⟨D.s,D.k,λh=>(by cases h),λ_=>D.need h11⟩
    ·exact⟨D.s,D.k,λh=>(by cases h),λh=>by cases h⟩
def G5 (M:jT) (s v:Int):Prop:=v<(jN M.l s).1∨((jN M.l s).1=v∧(jN M.l s).2.1=true)
def stF (S:zi) (p:Int):Int:=ofM p S.stripes S.wide
structure Xo (S:zi) (M M':jT):Prop where
  n:M.n≤M'.n
  l:∀p,gX p→jN M'.l (stF S p)=jN M.l (stF S p)∨((jN M'.l (stF S p)).2.1=true∧(jN M'.l (stF S p)).1=(jN M.l (stF S p)).1)∨(jN M.l (stF S p)).1<(jN M'.l (stF S p)).1
structure MD (S:zi) (M:jT):Prop where
  a:∀p,gX p→(jN M.l (stF S p)).2.1=false→qD M.w p=M.n∧jN M.l (stF S p)=(M.n,false,0)
  b:∀p,gX p→(jN M.l (stF S p)).1≤M.n
theorem Xo.gone {S:zi} {M M':jT} (m:Xo S M M') {p v:Int} (hp:gX p) (h:G5 M (stF S p) v):G5 M' (stF S p) v:=by
 unfold G5 at*;rcases m.l p hp with e |⟨e1,e2⟩ |e
 ·rw[e];exact h
 ·rw[e1,e2];rcases h with h |h
  ·exact .inl h
  ·exact .inr ⟨h.1,rfl⟩
 ·rcases h with h |h<;>exact .inl omQ
theorem Xo.lock {S:zi} {M M':jT} (m:Xo S M M') {p v:Int} (hp:gX p) (h:jN M.l (stF S p)=(v,false,0)∨G5 M (stF S p) v):jN M'.l (stF S p)=(v,false,0)∨G5 M' (stF S p) v:=by
 rcases h with h |h
 ·rcases m.l p hp with e |⟨e1,e2⟩ |e
  ·exact .inl (e.trans h)
  ·exact .inr (.inr ⟨by rw[e2,h],e1⟩)
  ·exact .inr (.inl (by rw[h]at e;exact e))
 ·exact .inr (m.gone hp h)
structure yS (S:zi) (M:jT) (x:jI) (T:Int):Prop where
  set:x.set=S
  job:∃q,x.job=.prog q∧q.l=pF∧Mc q.s x.v
  c:x.c=none
  n:T≤M.n
  k:∀c∈x.v.K,c.2=T
structure Ox (S:zi) (x:jI) (T:Int):Prop where
  st:x.stamp=T
  r:∀y∈x.r,y.2=T∧∃p,gX p∧y.1=stF S p
  e:x.r=[]→x.v.K=[]
structure FetF (S:zi) (M:jT) (x:jI) (T:Int):Prop where
  need:gX x.v.need
  fin:x.f.p.fin=0
  at_:x.f.at_=x.v.need
  st:x.f.stripe=stF S x.v.need
  stamp:x.f.stamp=T
  lk:x.f.state=1∨x.f.state=2→x.f.lk=(T,false,0)
  s1:x.f.state=1→jN M.l (stF S x.v.need)=(T,false,0)∨G5 M (stF S x.v.need) T
  s2:x.f.state=2→x.f.word=T∨G5 M (stF S x.v.need) T
  ss:x.f.state=0∨x.f.state=1∨x.f.state=2
structure ExtF (M:jT) (x:jI) (T:Int):Prop where
  need:gX x.v.need
  fin:x.e.p.fin=0
  seen:x.e.seen=x.r
  at_:x.e.at_=0
  lt:T<M.n
  ld:x.e.loaded=true→x.r≠[]
structure je (S:zi) (M:jT) (x:jI) (T:Int):Prop where
  b:yS S M x T
  st:x.state≠6
  l:2≤x.state→x.state≤4→Ox S x T
  f:x.state=3→FetF S M x T
  e:x.state=4→ExtF M x T
  z:x.state≤1→x.v.K=[]∧x.r=[]
variable {S:zi} {M M':jT} {x y:jI} {T:Int}
theorem yS.mono (B:yS S M x T) (h:M.n≤M'.n):yS S M' x T:=⟨B.set,B.job,B.c,Int.le_trans B.n h,B.k⟩
theorem je.mono (J:je S M x T) (m:Xo S M M'):je S M' x T :=
 ⟨J.b.mono m.n,J.st,J.l,λh=>let F:=J.f h;⟨F.need,F.fin,F.at_,F.st,F.stamp,F.lk,λh=>m.lock F.need (F.s1 h),λh=>(F.s2 h).imp id (m.gone F.need),F.ss⟩,
  λh=>let E:=J.e h;⟨E.need,E.fin,E.seen,E.at_,Int.lt_of_lt_of_le E.lt m.n,E.ld⟩,J.z⟩
theorem je.same (J:je S M x T) (hn:M'.n=M.n) (hl:M'.l=M.l):je S M' x T :=
 J.mono ⟨by omega,λp _=>.inl (by rw[hl])⟩
theorem yS.dead (B:yS S M x T) (h:x.state=5∨x.state=7∨x.state=8):je S M x T :=
 ⟨B,by omega,λ_ h=>by omega,λh=>by omega,λh=>by omega,λh=>by omega⟩
theorem yS.out (B:yS S M x T) {f e y:Int}:je S M (xq x f e y) T:=yS.dead (x:=xq x f e y) ⟨B.set,B.job,B.c,B.n,B.k⟩ (.inr (.inl rfl))
theorem yS.ask (B:yS S M x T) (L:Ox S x T) (h3:gX x.v.need):je S M (JB x x.v.need) T:=by
 refine⟨⟨B.set,B.job,B.c,B.n,B.k⟩,by show¬(3:Int)=6;decide,λ_ _=>⟨L.st,L.r,L.e⟩,λ_=>?_,λh=>(by cases h),λh=>absurd h (by show¬(3:Int)≤1;decide)⟩;refine⟨h3,rfl,rfl,?_,L.st,λh=>?_,λh=>(by cases h),λh=>(by cases h),.inl rfl⟩
 ·show ofM x.v.need x.set.stripes x.set.wide=_;rw[B.set];rfl
 ·rcases h with h |h<;>cases h
theorem yS.work (B:yS S M x T) (L:Ox S x T):je S M (gT x) T:=by
 obtain⟨q,hq,hl,F⟩:=B.job;have E:=qqc (mt:=qm pF) q.left F;unfold gT vy;rw[hq];dsimp only;rw[hl];generalize zt pF (qm pF) q.left q.s x.v=r at*;have B':∀f,yS S M { x with job:=.prog ⟨pF,r.s,f,r.err,r.left⟩,v:=r.v } T:=λf=>⟨B.set,⟨_,rfl,rfl,E.s⟩,B.c,B.n,by show∀c∈r.v.K,c.2=T;rw[E.k];exact B.k⟩
 have L':∀f,Ox S { x with job:=.prog ⟨pF,r.s,f,r.err,r.left⟩,v:=r.v } T:=λf=>⟨L.st,L.r,λh=>E.k.trans (L.e h)⟩;unfold kL
 split
 ·rename_i h1;exact(B' _).ask (L' _) (E.need h1)
 ·split
  ·rename_i h3;exact absurd h3 E.n3
  ·split
   ·exact(B' _).out
   ·rw[iJ (show jO r.v.lv=[] by rw[E.s.lv];rfl)];exact(B' _).out
theorem zM (h:x.c=none):xr x=x:=by unfold xr vn;rw[h];simp
theorem qqb {V:VM} {p w:Int}:(xN V p w).2.lv=V.lv∧((xN V p w).2.K=V.K∨(xN V p w).2.K=V.K++[(p,w)]):=by
 unfold xN
 repeat' split
 all_goals first |exact⟨rfl,.inl rfl⟩ |exact⟨rfl,.inr rfl⟩
theorem qqB {r:List z6} {s:z6} (h:(ga r s).1=0):(∀y∈(ga r s).2,y∈r∨y=s)∧(ga r s).2≠[]:=by
 unfold ga at*
 split at h
 ·cases h
 ·rename_i h1;rw[iQ h1]
  split at h
  ·rename_i y hy
   split at h
   ·cases h
   ·rename_i h2;rw[iQ h2];exact⟨λz hz=>.inl hz,λh=>(by have h:r=[]:=h;rw[h]at hy;cases hy)⟩
  ·split at h
   ·cases h
   ·rename_i h2;rw[iQ h2];refine⟨λz hz=>?_,by simp⟩;rcases List.mem_append.1 hz with hz |hz
    ·exact .inl hz
    ·exact .inr (List.mem_singleton.1 hz)
theorem je.fetch (W:MD S M) (J:je S M x T) (h3:x.state=3) {a:AnM} (ha:a.err=0)
  (hw:x.f.state=1→a.word=qD M.w x.v.need) (hk:x.f.state≠1→a.lk=jN M.l (stF S x.v.need)):je S M (zy { x with f:=xO x.f a }) T:=by
 have B:=J.b;have L:=J.l omQ omQ;have F:=J.f h3;have hst:(qS x.f.p a).1=false:=by unfold qS;rw[iQ (λh=>h.2 ha),F.fin];rfl
 have going:∀f:wJ,f.p.fin=0→f.at_=x.v.need→f.stripe=stF S x.v.need→f.stamp=T→(f.state=1∨f.state=2→f.lk=(T,false,0))→(f.state=1→jN M.l (stF S x.v.need)=(T,false,0)∨G5 M (stF S x.v.need) T)→
   (f.state=2→f.word=T∨G5 M (stF S x.v.need) T)→(f.state=0∨f.state=1∨f.state=2)→je S M (zy { x with f:=f }) T:=λf h0 q1 q2 q3 q4 q5 q6 q7=>by
  have e:zy { x with f:=f }={ x with f:=f }:=by
   unfold zy;have:zR { x with f:=f }=(f.p.fin,f.p.by_):=by unfold zR;exact iJ h3
   rw[this,h0];exact zM B.c
  rw[e];exact⟨⟨B.set,B.job,B.c,B.n,B.k⟩,J.st,λ_ _=>⟨L.st,L.r,L.e⟩,λ_=>⟨F.need,h0,q1,q2,q3,q4,q5,q6,q7⟩,λh=>absurd (h3.symm.trans h) od,λh=>absurd h (by show¬x.state≤1;omega)⟩
 unfold xO;rw[hst];rw[iQ od]
 split
 ·rename_i h1;refine going _ F.fin F.at_ F.st F.stamp (λ_=>F.lk (.inl h1)) (λh=>(by cases h)) (λ_=>?_) (.inr (.inr rfl));show a.word=T∨_;rcases F.s1 h1 with h |h
  ·refine .inl ?_;have:=W.a _ F.need (by rw[h]);rw[hw h1,this.1];rw[h]at this;exact(congrArg Prod.fst this.2).symm
  ·exact .inr h
 ·rename_i h1;have hk:=hk h1
  split
  ·rename_i h2;have hlk:=F.lk (.inr h2.1);have hm:jN M.l (stF S x.v.need)=(T,false,0):=by rw[← hk,h2.2,hlk]
   have hword:x.f.word=T:=by
    rcases F.s2 h2.1 with h |h
    ·exact h
    ·unfold G5 at h;rw[hm]at h;rcases h with h |h
     ·exact absurd h (Int.lt_irrefl _)
     ·cases h.2
   unfold zy;have e1:zR { x with f:={ x.f with p:=q9 x.f.p 2 0 (-1) } }=(2,-1):=by unfold zR;exact iJ h3
   rw[e1];rw[iQ od,iQ od];have e2:z8 { x with f:={ x.f with p:=q9 x.f.p 2 0 (-1) } }=xx { x with f:={ x.f with p:=q9 x.f.p 2 0 (-1) } }:=by unfold z8;exact iJ h3
   rw[e2];have key:je S M (xx { x with f:={ x.f with p:=q9 x.f.p 2 0 (-1) } }) T:=by
    unfold xx;rw[iQ (by show¬(2:Int)=6;decide)];have es:yq { x.f with p:=q9 x.f.p 2 0 (-1) }=(stF S x.v.need,T):=by unfold yq;rw[iQ (by show¬¬(2:Int)=2;decide)];show(x.f.stripe,x.f.lk.1)=_;rw[F.st,hlk]
    have ew:xP { x.f with p:=q9 x.f.p 2 0 (-1) }=T:=by unfold xP;rw[iQ (by show¬¬(2:Int)=2;decide)];exact hword
    dsimp only;rw[es,ew];have BO:yS S M { x with f:={ x.f with p:=q9 x.f.p 2 0 (-1) } } T:=⟨B.set,B.job,B.c,B.n,B.k⟩
    split
    ·rename_i h0;obtain⟨a1,a2⟩:=qqB h0;have kk:=qqb (V:=x.v) (p:=x.v.need) (w:=T);obtain⟨q,hq,hl,FF⟩:=B.job;refine yS.work ⟨B.set,⟨q,hq,hl,FF.pc,FF.z,kk.1.trans FF.lv⟩,B.c,B.n,λc hc=>?_⟩ ⟨L.st,λy hy=>?_,λh=>absurd h a2⟩
     ·have hc:c∈(xN x.v x.v.need T).2.K:=hc;rcases kk.2 with e |e
      ·rw[e]at hc;exact B.k c hc
      ·rw[e]at hc;rcases List.mem_append.1 hc with hc |hc
       ·exact B.k c hc
       ·rw[List.mem_singleton.1 hc]
     ·rcases a1 y hy with h |h
      ·exact L.r y h
      ·rw[h];exact⟨rfl,_,F.need,rfl⟩
    ·split
     ·exact BO.out
     ·exact BO.out
   rw[zM key.b.c];exact key
  ·--a lock is found
   unfold w9
   split
   ·rename_i hh;have st0:∀p:gj,p.fin=0→je S M (zy { x with f:={ x.f with state:=0,p:=p } }) T:=λp hp=>
     going _ hp F.at_ F.st F.stamp (λh=>by rcases h with h |h<;>cases h) (λh=>by cases h) (λh=>by cases h) (.inl rfl)
    split
    ·refine st0 _ ?_;unfold qc
     split<;>exact F.fin
    ·unfold zy;have e1:∀p:gj,zR { x with f:={ x.f with state:=0,p:=p } }=(p.fin,p.by_):=λp=>by unfold zR;exact iJ h3
     rw[e1];rw[iQ (show¬(q9 (qc x.f.p a.lk).2 5 0 a.lk.2.2).fin=0 from by show¬(5:Int)=0;decide),iJ (show(q9 (qc x.f.p a.lk).2 5 0 a.lk.2.2).fin=5 from rfl)];have key:∀p z,je S M (xq { x with f:={ x.f with state:=0,p:=p } } 5 0 z) T:=λp z=>yS.out (x:={ x with f:={ x.f with state:=0,p:=p } }) ⟨B.set,B.job,B.c,B.n,B.k⟩;rw[zM (key _ _).b.c];exact key _ _
   ·rename_i hh;have hfree:(jN M.l (stF S x.v.need)).2.1=false:=by rw[← hk];simpa using hh
    have ha:=W.a _ F.need hfree
    split
    ·rename_i hlt;unfold zy;have e1:zR { x with f:={ x.f with state:=0,p:=q9 x.f.p 6 0 (-1) } }=(6,-1):=by unfold zR;exact iJ h3
     rw[e1];rw[iQ od,iQ od];have e2:z8 { x with f:={ x.f with state:=0,p:=q9 x.f.p 6 0 (-1) } }=wZ { x with f:={ x.f with state:=0,p:=q9 x.f.p 6 0 (-1) } } 4:=by unfold z8;rw[iJ h3];unfold xx;exact iJ rfl
     rw[e2];have key:je S M (wZ { x with f:={ x.f with state:=0,p:=q9 x.f.p 6 0 (-1) } } 4) T:=by refine⟨⟨B.set,B.job,B.c,B.n,B.k⟩,by show¬(4:Int)=6;decide,λ_ _=>⟨L.st,L.r,L.e⟩,λh=>(by cases h),λ_=>⟨F.need,rfl,rfl,rfl,?_,λh=>by cases h⟩,λh=>absurd h (by show¬(4:Int)≤1;decide)⟩;have:x.f.stamp<a.lk.1:=hlt;rw[F.stamp,hk,ha.2]at this;exact this
     rw[zM key.b.c];exact key
    ·rename_i hge;have hT:M.n=T:=by
      have h1:¬x.f.stamp<a.lk.1:=hge;rw[F.stamp,hk,ha.2]at h1;have:=B.n;have h1:¬T<M.n:=h1;omega
     have hlk:a.lk=(T,false,0):=by rw[hk,ha.2,hT]
     exact going _ F.fin F.at_ F.st F.stamp (λ_=>hlk) (λ_=>.inl (by rw[← hk];exact hlk)) (λh=>(by cases h)) (.inr (.inl rfl))
theorem je.ext (W:MD S M) (J:je S M x T) (h4:x.state=4) {a:AnM} (ha:a.err=0) (hw:x.e.loaded=false→a.word=M.n)
  (hk:x.e.loaded=true→a.lk=jN M.l (jr x.e.seen x.e.at_).1):∃T',je S M (zy { x with e:=yg x.e a }) T':=by
 have B:=J.b;have L:=J.l omQ omQ;have E:=J.e h4;have hst:(qS x.e.p a).1=false:=by unfold qS;rw[iQ (λh=>h.2 ha),E.fin];rfl
 have ef:∀e:wD,zR { x with e:=e }=(e.p.fin,e.p.by_):=λe=>by
  unfold zR;rw[iQ (by show¬x.state=3;omega),iQ (by show¬x.state=6;omega)]
 have going:∀e:wD,e.p.fin=0→e.seen=x.r→e.at_=0→(e.loaded=true→x.r≠[])→je S M (zy { x with e:=e }) T:=λe h0 h1 h2 h3=>by
  have q:zy { x with e:=e }={ x with e:=e }:=by unfold zy;rw[ef,h0];exact zM B.c
  rw[q];exact⟨⟨B.set,B.job,B.c,B.n,B.k⟩,J.st,λ_ _=>⟨L.st,L.r,L.e⟩,λh=>absurd (h4.symm.trans h) od,λ_=>⟨E.need,h0,h1,h2,E.lt,h3⟩,λh=>absurd h (by show¬x.state≤1;omega)⟩
 have conf:∀e:wD,e.p.fin=5→je S M (zy { x with e:=e }) T:=λe h5=>by
  unfold zy;rw[ef,h5];rw[iQ (show¬((5:Int),e.p.by_).1=0 from(by show¬(5:Int)=0;decide)),iJ (show((5:Int),e.p.by_).1=5 from rfl)];have key:∀z,je S M (xq { x with e:=e } 5 0 z) T:=λz=>yS.out (x:={ x with e:=e }) ⟨B.set,B.job,B.c,B.n,B.k⟩;rw[zM (key _).b.c];exact key _
 unfold yg;rw[hst];rw[iQ od]
 split
 ·rename_i hl;unfold GM
  split
  ·rename_i hn;have hr:x.r=[]:=by
    have h1:x.e.at_=(x.e.seen.length:Int):=hn;rw[E.at_,E.seen]at h1;exact iA omQ
   refine⟨M.n,?_⟩;unfold zy;rw[ef];rw[iQ (by show¬(2:Int)=0;decide),iQ (by show¬(2:Int)=5;decide)];unfold z8;rw[iQ (by show¬x.state=3;omega),iJ (by show x.state=4;exact h4)];have e3:yl { x.e with loaded:=true,stamp:=a.word,p:=q9 x.e.p 2 0 (-1) }=M.n:=by unfold yl;rw[iQ (by show¬¬(2:Int)=2;decide)];exact hw hl
   dsimp only;rw[e3];have key:je S M (JB { x with e:={ x.e with loaded:=true,stamp:=a.word,p:=q9 x.e.p 2 0 (-1) },stamp:=M.n } x.v.need) M.n :=
    yS.ask (x:={ x with e:={ x.e with loaded:=true,stamp:=a.word,p:=q9 x.e.p 2 0 (-1) },stamp:=M.n }) ⟨B.set,B.job,B.c,Int.le_refl _,λc hc=>by
     have hc:c∈x.v.K:=hc
     rw[L.e hr]at hc;cases hc⟩ ⟨rfl,λy hy=>(by have hy:y∈x.r:=hy;rw[hr]at hy;cases hy),λ_=>L.e hr⟩ E.need
   rw[zM key.b.c];exact key
  ·rename_i hn;refine⟨T,going _ E.fin E.seen E.at_ λ_ h=>hn ?_⟩;show x.e.at_=(x.e.seen.length:Int);rw[E.at_,E.seen,h];rfl
 ·rename_i hl;have hl:x.e.loaded=true:=by simpa using hl
  split
  ·split
   ·refine⟨T,going _ ?_ E.seen E.at_ E.ld⟩;show(qc x.e.p a.lk).2.fin=0;unfold qc
    split<;>exact E.fin
   ·exact⟨T,conf _ rfl⟩
  ·rename_i hh;have hr:=E.ld hl;have hseen:jr x.e.seen x.e.at_∈x.r:=by
    rw[E.seen,E.at_];cases hx:x.r with
    |nil=>exact absurd hx hr
    |cons y r=>exact iK ..
   obtain⟨h1,p,hp,h2⟩:=L.r _ hseen;have hk:=hk hl;rw[h2]at hk;have hfree:(jN M.l (stF S p)).2.1=false:=by rw[← hk];simpa using hh
   have ha:=W.a p hp hfree;have hlt:=E.lt;rw[iJ (by rw[h1,hk,ha.2];show M.n≠T;omega)];exact⟨T,conf _ rfl⟩
end
section
structure RecM where
  thread:Int
  job:Int
  try_:Int
  sweep:Bool
  kind:Int
  err:Int
  begin_:Int
  stamp:Int
  born:Int
  ended:Int
  reads:List Cl
  cells:List Cl
  frees:List Int
  slate:List UInt8
structure ResM where
  kind:Int
  err:Int
  slate:List UInt8
  stamp:Int
abbrev qYP:Type:=Int×Int
structure ZV where
  me:Int
  set:zi
  jobs:List (List qb)
  job:Int
  state:Int
  sweep:Bool
  giving:List qYP
  tries:Int
  conf:Int
  now:Option jI
  born:Int
  alarm:Bool
  past:List RecM
  results:List ResM
  rests:List qYP
  slots:List Int
  by_:Int
  since:Int
  yielding:Bool
  pauses:Int
structure MacM where
  s:zi
  m:jT
  t:List ZV
  picks:Int
  last:OpM
  did:Bool
def gH (S:zi):jT:=⟨List.replicate S.words.toNat 0,List.replicate S.stripes.toNat lk0,S.start,List.replicate S.threads.toNat 0,0⟩
end
section
def isSw:Gz→Bool
 | .prog _=>false
 | .sweep _ _=>true
structure Km (x y:jI):Prop where
  me:y.me=x.me
  set:y.set=x.set
  sw:isSw y.job=isSw x.job
theorem Km.refl (x:jI):Km x x:=⟨rfl,rfl,rfl⟩
theorem Km.trans {x y z:jI} (a:Km x y) (b:Km y z):Km x z:=⟨b.me.trans a.me,b.set.trans a.set,b.sw.trans a.sw⟩
structure ThrB (t:ZV):Prop where
  set:JG t.set
  me:0≤t.me∧t.me<t.set.threads
  jobs:∀l∈t.jobs,(yC l).2=0∧Quiet l
  jl:t.jobs.length≤6
  job:0≤t.job∧t.job≤t.jobs.length
  rests:t.rests.length+t.giving.length≤9000*t.results.length
  slots:t.slots.length≤6
  tries:0≤t.tries∧t.tries≤t.past.length
  conf:0≤t.conf∧t.conf≤t.tries
  giv:t.sweep=false→t.giving=[]
structure ThrC (t:ZV):Prop extends ThrB t where
  now:∀x,t.now=some x→xJ x∧x.me=t.me∧x.set=t.set∧isSw x.job=t.sweep
  lt:t.job<t.jobs.length
  some:t.now≠none
structure ThrOk (t:ZV):Prop where
  st:1≤t.state∧t.state≤6
  b:ThrB t
  c:t.state≠6→ThrC t
  fin:t.state=6→t.job=t.jobs.length∧t.now=none
  res:(t.results.length:Int)≤t.job+(if t.state≠6∧(t.sweep=true∨t.state=5)then 1 else 0)
  slo:t.state=5→(t.slots.length:Int)<t.set.threads∧(t.slots.length:Int)≠t.me
  pau:t.state=3→0<t.pauses∧t.pauses≤8
  byy:t.state=2→0≤t.by_∧t.by_<t.set.threads
  sw5:t.state=5→t.sweep=false
variable {t:ZV}
theorem ThrB.len (B:ThrB t) (h:(t.results.length:Int)≤t.job+1):t.rests.length+t.giving.length≤63000:=by have h1:=B.jl;have h2:=B.job;have h3:=B.rests;omega
theorem ThrC.go (C:ThrC t) {u:ZV} (h1:u.set=t.set) (h2:u.me=t.me) (h3:u.jobs=t.jobs) (h4:u.job=t.job) (h5:u.rests=t.rests) (h6:u.giving=t.giving) (h7:u.results=t.results) (h8:u.slots.length≤6) (h9:0≤u.tries∧u.tries≤u.past.length) (h10:0≤u.conf∧u.conf≤u.tries) (h11:u.now=t.now) (h12:u.sweep=t.sweep):ThrC u:=by have B:=C.toThrB;refine⟨⟨by rw[h1];exact B.set,by rw[h1,h2];exact B.me,by rw[h3];exact B.jobs,by rw[h3];exact B.jl,by rw[h3,h4];exact B.job,by rw[h5,h6,h7];exact B.rests,h8,h9,h10,by rw[h12,h6];exact B.giv⟩,by rw[h11,h1,h2,h12];exact C.now,by rw[h3,h4];exact C.lt,by rw[h11];exact C.some⟩
end
end Go.Proofs.YtbiljkdgeekpbabGreatDoor
