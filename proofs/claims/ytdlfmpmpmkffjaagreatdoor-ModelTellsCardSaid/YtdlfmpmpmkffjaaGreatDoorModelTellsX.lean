/- Some of the library's functions by the kit's contracts, over any program: how many digits a number has; its digits laid; words joined. -/
import Derived.Test.YtdlfmpmpmkffjaaGreatDoorModelTellsAe7
import Derived.Shelf.Strings.OnBuilder
import Derived.Shelf.Strconv.Itoa1
import Derived.Shelf.Strconv.Itoa2
import Derived.Test.YtdlfmpmpmkffjaaGreatDoorProg
import Derived.KernelRfl
namespace Go.Proofs.YtdlfmpmpmkffjaaGreatDoor
open Go Go.Ae Go.Shelf
def Nf : List AV → Option (List UInt8)
 | [] => some []
 | .int .u8 (.ofNat n) :: r => bif Nat.ble (n + 1) 256 then (Nf r).bind fun s => some (UInt8.ofNat n :: s) else none
 | _ => none
def xNd : WF := fun _ l h => match l with
 | [.int .u64 (.ofNat u)] => bif Nat.ble 1 u && Nat.ble (u + 1) 18446744073709551616 then some (.int .i64 (.ofNat (Lib.nDigits u)), h) else none
 | _ => none
def dgs (n u : Nat) : List AV := (List.range n).map fun t => .int .u8 (.ofNat (Lib.dg u (n - 1 - t)).toNat)
noncomputable def xFb : WF := fun _ l h => match l with
 | [.slice b 0 n _ false, .int .u64 (.ofNat u)] =>
  (match h.get b with
  | some (.cells c e false) => (match Nf (c.toList.take n) with
   | some bs => bif Nat.beq bs.length n && (Nat.ble (u + 1) (10 ^ n) && (Nat.ble (u + 1) 18446744073709551616 && Nat.ble n 100)) then some (.tup [], h.put b (.cells (CT.ofList (dgs n u ++ c.toList.drop n)) e false)) else none
   | none => none)
  | _ => none)
 | _ => none
def JS : List AV → Option (List (List UInt8))
 | [] => some []
 | .str s :: r => (JS r).bind fun l => some (s :: l)
 | _ => none
noncomputable def KS : WF := fun _ l h => match l with
 | [.slice b o n cap false, .str sep] =>
  (match h.get b with
  | some (.cells c _ _) => (match JS ((c.toList.drop o).take n) with
   | some xs => bif Nat.beq xs.length n && (Nat.ble n cap && (Nat.ble n 1000000 && Nat.ble (Lib.join xs sep).length 1000000)) then some (.str (Lib.join xs sep), h) else none
   | none => none)
  | _ => none)
 | _ => none
theorem qXl : ∀ {l : List AV} {bs : List UInt8}, Nf l = some bs → l = bs.map fun c => .int .u8 (.ofNat c.toNat) := by
 intro l
 induction l with
 | nil => intro bs h; cases h; rfl
 | cons a l ih =>
  intro bs h
  unfold Nf at h
  split at h
  ·rename_i heq; cases heq
  ·rename_i n r heq
   cases heq
   cases hb : Nat.ble (n + 1) 256
   ·rw [hb] at h; cases h
   ·rw [hb] at h
    simp only [cond_true, Option.bind_eq_some_iff, Option.some.injEq] at h
    obtain ⟨s, hs, rfl⟩ := h
    have := Nat.le_of_ble_eq_true hb
    rw [List.map_cons, ← ih hs, UInt8.toNat_ofNat_of_lt' (by show n < 256; omega)]
  ·cases h
theorem NF : ∀ {l : List AV} {xs : List (List UInt8)}, JS l = some xs → l = xs.map .str := by
 intro l
 induction l with
 | nil => intro bs h; cases h; rfl
 | cons a l ih =>
  intro bs h
  unfold JS at h
  split at h
  ·rename_i heq; cases heq
  ·rename_i s r heq
   cases heq
   simp only [Option.bind_eq_some_iff, Option.some.injEq] at h
   obtain ⟨t, ht, rfl⟩ := h
   rw [List.map_cons, ← ih ht]
  ·cases h
variable {P : Program}
theorem qVb {f : Nat} (hg : ("internal/strconv.uint64pow10", IntKind.u64, Lib.pow10Tab) ∈ gtab)
  (hc : ∀ (u : Nat) (w : World), 1 ≤ u → u < 18446744073709551616 → Lib.TabIs P w "internal/strconv.uint64pow10" .u64 Lib.pow10Tab → Calls P f #[.int .u64 u] w fun e w' => e = .returned (.int .i64 (Lib.nDigits u)) ∧ w' = w) : XOk P f xNd := by
 intro c l h r e m D W RR hD n
 unfold xNd at e
 split at e
 rotate_left
 ·cases e
 rename_i u
 cases hb : (Nat.ble 1 u && Nat.ble (u + 1) 18446744073709551616)
 ·rw [hb] at e; cases e
 rw [hb] at e
 simp only [cond_true, Option.some.injEq] at e
 simp only [Bool.and_eq_true] at hb
 obtain ⟨_, _, ht⟩ := RR.gl.gl _ hg
 refine CallsIn.mono (callsIn_wide.2 (hc u W (Nat.le_of_ble_eq_true hb.1) (by have := Nat.le_of_ble_eq_true hb.2; omega) ht)) ?_
 rintro ee w' ⟨rfl, rfl⟩
 subst e
 exact ⟨m, D, rfl, Ext.refl .., RR, trivial⟩
theorem wy (n u : Nat) : (dgs n u).length = n := by simp [dgs]
theorem qVP {f : Nat} (hc : ∀ (blk off cap u : Nat) (d : Array UInt8) (w : World), Sort.Holds (fun (b : UInt8) => Value.int .u8 (b.toNat : Int)) w blk off d → u < 10 ^ d.size → u < 18446744073709551616 → d.size < 4611686018427387904 →
  Calls P f #[.slice (some ⟨blk, off, none⟩) d.size cap, .int .u64 u] w fun e w' => e = .returned (.tuple #[]) ∧ ∃ (n v' : Nat) (dk : Array UInt8), w' = (Sort.putRow (fun (b : UInt8) => Value.int .u8 (b.toNat : Int)) w blk off dk).drewN n ∧ Lib.FmtInv d.size u 0 v' dk) : XOk P f xFb := by
 intro c l h r e m D W RR hD nn
 unfold xFb at e
 split at e
 rotate_left
 ·cases e
 rename_i b n cap u
 split at e
 rotate_left
 ·cases e
 rename_i ct ty hgb
 split at e
 rotate_left
 ·cases e
 rename_i bs hbs
 cases hb : (Nat.beq bs.length n && (Nat.ble (u + 1) (10 ^ n) && (Nat.ble (u + 1) 18446744073709551616 && Nat.ble n 100)))
 ·rw [hb] at e; cases e
 rw [hb] at e
 simp only [cond_true, Option.some.injEq] at e
 simp only [Bool.and_eq_true] at hb
 obtain ⟨hb1, hb2, hb3, hb4⟩ := hb
 have hb1 := Nat.eq_of_beq_eq_true hb1
 have hb2 := Nat.le_of_ble_eq_true hb2
 have hb3 := Nat.le_of_ble_eq_true hb3
 have hb4 := Nat.le_of_ble_eq_true hb4
 subst hb1
 have hDb : D b := hD.1
 obtain ⟨rest, fr, hh, hrest, hfz, _, hd⟩ := RR.cells hDb hgb
 obtain rfl := hrest rfl
 simp only [List.append_nil, List.length_nil, Nat.add_zero] at hh hfz
 have hC := qXl hbs
 have hle : bs.length ≤ ct.toList.length := by
  have := congrArg List.length hC
  simp at this; omega
 have hsz : bs.toArray.size = bs.length := by simp
 have hat : ∀ j, j < bs.length → ct.toList[j]? = some (.int .u8 (.ofNat bs.toArray[j]!.toNat)) := by
  intro j hj
  have := congrArg (·[j]?) hC
  simp only [List.getElem?_take_of_lt hj, List.getElem?_map, List.getElem?_eq_getElem hj, Option.map_some] at this
  rw [this]
  simp [hj]
 have H : Sort.Holds (fun (b : UInt8) => Value.int .u8 (b.toNat : Int)) W (m b).1 0 bs.toArray := by
  intro j hj
  rw [hsz] at hj
  refine ⟨?_, ?_⟩
  ·unfold World.cell?
   rw [Nat.zero_add]
   simp only [hh]
   simp [zP, hat j hj, cv]
  ·unfold World.frozen?
   rw [Nat.zero_add]
   simp only [hh]
   have := hfz j (by omega)
   simpa using this
 have key := hc (m b).1 0 cap u bs.toArray W H (by rw [hsz]; omega) (by omega) (by rw [hsz]; omega)
 rw [hsz] at key
 refine CallsIn.mono (callsIn_wide.2 key) ?_
 rintro ee w' ⟨rfl, q, v', dk, rfl, F⟩
 subst e
 have hnew : inDs D (dgs bs.length u ++ ct.toList.drop bs.length) := by
  refine yq.2 ⟨(zo D _).2 ?_, (zo D _).2 fun v hv => (zo D _).1 hd v (List.mem_of_mem_drop hv)⟩
  intro v hv
  obtain ⟨t, _, rfl⟩ := List.mem_map.1 hv
  trivial
 obtain ⟨X, R'⟩ := RR.put (w0 := (Sort.putRow (fun (b : UInt8) => Value.int .u8 (b.toNat : Int)) W (m b).1 0 dk).drewN q) b (.cells (CT.ofList (dgs bs.length u ++ ct.toList.drop bs.length)) ty false) hDb ⟨_, hgb, trivial⟩
  (by show (Sort.putRow _ W (m b).1 0 dk).heap.size = _; simp) (fun k hk => by
   show (Sort.putRow _ W (m b).1 0 dk).heap[k]? = _
   simp only [Sort.putRow, Sort.mapBlock, Array.getElem?_modify]
   rw [if_neg (fun e => hk e.symm)]) rfl rfl rfl (by show inDs D (CT.ofList _).toList; rw [CT.ofList_ok]; exact hnew)
  (by
   refine ⟨[], fr, ?_, fun _ => rfl, ?_, fun h => by cases h⟩
   ·show (Sort.putRow _ W (m b).1 0 dk).heap[(m b).1]? = _
    simp only [Sort.putRow, Sort.mapBlock, Array.getElem?_modify, if_pos, hh, Option.map_some, Sort.onCells, List.append_nil]
    congr 2
    rw [CT.ofList_ok]
    apply Array.ext_getElem?
    intro k
    simp only [Sort.putCells, Array.getElem?_mapIdx, List.getElem?_toArray, zP, List.getElem?_map, Nat.zero_le, true_and, Nat.zero_add, Nat.sub_zero, F.size]
    by_cases hk : k < bs.length
    ·rw [List.getElem?_append_left (by rw [wy]; exact hk), hat k hk]
     simp only [Option.map_some, if_pos hk, dgs, List.getElem?_map, List.getElem?_range hk, F.done k (Nat.zero_le _) hk]
     rfl
    ·rw [List.getElem?_append_right (by rw [wy]; omega), wy, List.getElem?_drop, show bs.length + (k - bs.length) = k by omega]
     cases ct.toList[k]? with
     | none => rfl
     | some y => simp only [Option.map_some, if_neg hk]
   ·intro i hi
    refine hfz i ?_
    rw [CT.ofList_ok] at hi
    simp only [List.length_append, wy, List.length_drop, List.length_nil] at hi
    omega)
 exact ⟨m, D, rfl, X, R', trivial⟩
theorem qQN {f : Nat} (hc : ∀ (bk o c : Nat) (xs : List ByteArray) (sep : ByteArray) (w : World),
  (∀ (j : Nat) x, xs[j]? = some x → w.cell? ⟨bk, o + j, none⟩ = some (.string x)) → bk < w.heap.size → xs.length ≤ 140737488355328 → xs.length ≤ c → (Lib.join (xs.map (·.data.toList)) sep.data.toList).length ≤ 140737488355328 →
  Calls P f #[.slice (some ⟨bk, o, none⟩) xs.length c, .string sep] w fun e w' => e = .returned (.string ⟨(Lib.join (xs.map (·.data.toList)) sep.data.toList).toArray⟩) ∧ RowKit.Below w.heap.size w w') : XOk P f KS := by
 intro c l h r e m D W RR hD nn
 unfold KS at e
 split at e
 rotate_left
 ·cases e
 rename_i b o n cap sep
 split at e
 rotate_left
 ·cases e
 rename_i ct ty op hgb
 split at e
 rotate_left
 ·cases e
 rename_i xs hxs
 cases hb : (Nat.beq xs.length n && (Nat.ble n cap && (Nat.ble n 1000000 && Nat.ble (Lib.join xs sep).length 1000000)))
 ·rw [hb] at e; cases e
 rw [hb] at e
 simp only [cond_true, Option.some.injEq] at e
 simp only [Bool.and_eq_true] at hb
 obtain ⟨hb1, hb2, hb3, hb4⟩ := hb
 have hb1 := Nat.eq_of_beq_eq_true hb1
 have hb2 := Nat.le_of_ble_eq_true hb2
 have hb3 := Nat.le_of_ble_eq_true hb3
 have hb4 := Nat.le_of_ble_eq_true hb4
 subst hb1
 have hDb : D b := hD.1
 obtain ⟨rest, fr, hh, _, _, _, _⟩ := RR.cells hDb hgb
 have hC := NF hxs
 have key := hc (m b).1 o cap (xs.map fun x => ⟨x.toArray⟩) ⟨sep.toArray⟩ W (by
  intro j x hj
  rw [List.getElem?_map] at hj
  obtain ⟨y, hy, rfl⟩ := Option.map_eq_some_iff.1 hj
  have hjl := (List.getElem?_eq_some_iff.1 hy).1
  have := congrArg (·[j]?) hC
  simp only [List.getElem?_take_of_lt hjl, List.getElem?_drop, List.getElem?_map, hy, Option.map_some] at this
  have hlt := (List.getElem?_eq_some_iff.1 this).1
  unfold World.cell?
  simp only [hh]
  simp only [Option.isSome_none, Bool.false_eq_true, if_false, List.getElem?_toArray]
  rw [List.getElem?_append_left (by simpa using hlt), zP, List.getElem?_map, this]
  rfl) (by
  rcases Nat.lt_or_ge (m b).1 W.heap.size with h' | h'
  ·exact h'
  ·rw [Array.getElem?_eq_none h'] at hh; cases hh) (by rw [List.length_map]; omega) (by rw [List.length_map]; omega) (by
  rw [List.map_map, show (fun (x : ByteArray) => x.data.toList) ∘ (fun (x : List UInt8) => (⟨x.toArray⟩ : ByteArray)) = id from by funext x; simp, List.map_id]
  show (Lib.join xs sep.toArray.toList).length ≤ _
  rw [List.toList_toArray]; omega)
 rw [List.length_map, List.map_map, show (fun (x : ByteArray) => x.data.toList) ∘ (fun (x : List UInt8) => (⟨x.toArray⟩ : ByteArray)) = id from by funext x; simp, List.map_id] at key
 refine CallsIn.mono (callsIn_wide.2 key) ?_
 rintro ee w' ⟨rfl, B⟩
 subst e
 obtain ⟨X, R'⟩ := GE RR B
 refine ⟨m, D, ?_, X, R', trivial⟩
 show Ending.returned _ = Ending.returned (.string _)
 simp
def Ja : Go.Shelf.Ren := ⟨fun | 156 => 55 | 165 => 90 | 166 => 91 | 169 => 92 | 240 => 138 | 241 => 139 | 276 => 208 | 277 => 209 | n => n, fun | 31 => 106 | 9 => 9 | 3 => 3 | 4 => 4 | 0 => 0 | 20 => 20 | 72 => 149 | 76 => 153 | 70 => 147 | 37 => 44 | 75 => 152 | 127 => 198 | 164 => 250 | 5 => 5 | 80 => 37 | n => n, fun | n => n⟩
theorem qXt : Go.Proofs.Lays.n156 Tryz.prog Ja := {
 mixed := by kernel_rfl
 f156 := Tryz.func55.trans (congrArg some (by kernel_rfl))
 f165 := Tryz.func90.trans (congrArg some (by kernel_rfl))
 f166 := Tryz.func91.trans (congrArg some (by kernel_rfl))
 f169 := Tryz.func92.trans (congrArg some (by kernel_rfl))
 f240 := Tryz.func138.trans (congrArg some (by kernel_rfl))
 f241 := Tryz.func139.trans (congrArg some (by kernel_rfl))
 f276 := Tryz.func208.trans (congrArg some (by kernel_rfl))
 f277 := Tryz.func209.trans (congrArg some (by kernel_rfl))
 t0 := Tryz.underlying0
 a0 := Tryz.isAgg0
 z0 := Tryz.sizeOf0
 v0 := Tryz.zeroValue0
 t3 := Tryz.underlying3
 a3 := Tryz.isAgg3
 z3 := Tryz.sizeOf3
 v3 := Tryz.zeroValue3
 t4 := Tryz.underlying4
 a4 := Tryz.isAgg4
 z4 := Tryz.sizeOf4
 v4 := Tryz.zeroValue4
 t9 := Tryz.underlying9
 a9 := Tryz.isAgg9
 z9 := Tryz.sizeOf9
 v9 := Tryz.zeroValue9
 t20 := Tryz.underlying20
 a20 := Tryz.isAgg20
 z20 := Tryz.sizeOf20
 v20 := Tryz.zeroValue20
 t31 := Tryz.underlying106
 a31 := Tryz.isAgg106
 z31 := Tryz.sizeOf106
 v31 := Tryz.zeroValue106
 t37 := Tryz.underlying44
 a37 := Tryz.isAgg44
 z37 := Tryz.sizeOf44
 v37 := Tryz.zeroValue44
 t70 := Tryz.underlying147
 a70 := Tryz.isAgg147
 z70 := Tryz.sizeOf147
 v70 := Tryz.zeroValue147
 t72 := Tryz.underlying149
 a72 := Tryz.isAgg149
 z72 := Tryz.sizeOf149
 v72 := Tryz.zeroValue149
 t75 := Tryz.underlying152
 a75 := Tryz.isAgg152
 z75 := Tryz.sizeOf152
 v75 := Tryz.zeroValue152
 t76 := Tryz.underlying153
 a76 := Tryz.isAgg153
 z76 := Tryz.sizeOf153
 v76 := Tryz.zeroValue153
 t127 := Tryz.underlying198
 a127 := Tryz.isAgg198
 z127 := Tryz.sizeOf198
 v127 := Tryz.zeroValue198
 t164 := Tryz.underlying250
 a164 := Tryz.isAgg250
 z164 := Tryz.sizeOf250
 v164 := Tryz.zeroValue250 }
def Kd : Go.Shelf.Ren := ⟨fun | 284 => 205 | 129 => 244 | 317 => 243 | 318 => 245 | n => n, fun | 53 => 26 | 3 => 3 | 212 => 273 | 0 => 0 | 4 => 4 | 46 => 113 | 5 => 5 | 9 => 9 | n => n, fun | 17 => 0 | n => n⟩
theorem qKL : Go.Proofs.LaysM.n284 Tryz.prog Kd := {
 mixed := by kernel_rfl
 f129 := Tryz.func244.trans (congrArg some (by kernel_rfl))
 f284 := Tryz.func205.trans (congrArg some (by kernel_rfl))
 f317 := Tryz.func243.trans (congrArg some (by kernel_rfl))
 f318 := Tryz.func245.trans (congrArg some (by kernel_rfl))
 t0 := Tryz.underlying0
 a0 := Tryz.isAgg0
 z0 := Tryz.sizeOf0
 v0 := Tryz.zeroValue0
 t3 := Tryz.underlying3
 a3 := Tryz.isAgg3
 z3 := Tryz.sizeOf3
 v3 := Tryz.zeroValue3
 t4 := Tryz.underlying4
 a4 := Tryz.isAgg4
 z4 := Tryz.sizeOf4
 v4 := Tryz.zeroValue4
 t5 := Tryz.underlying5
 a5 := Tryz.isAgg5
 z5 := Tryz.sizeOf5
 v5 := Tryz.zeroValue5
 t9 := Tryz.underlying9
 a9 := Tryz.isAgg9
 z9 := Tryz.sizeOf9
 v9 := Tryz.zeroValue9
 t46 := Tryz.underlying113
 a46 := Tryz.isAgg113
 z46 := Tryz.sizeOf113
 v46 := Tryz.zeroValue113
 t53 := Tryz.underlying26
 a53 := Tryz.isAgg26
 z53 := Tryz.sizeOf26
 v53 := Tryz.zeroValue26
 t212 := Tryz.underlying273
 a212 := Tryz.isAgg273
 z212 := Tryz.sizeOf273
 v212 := Tryz.zeroValue273
 g17 := by kernel_rfl
 i0 := by kernel_rfl
 i3 := by kernel_rfl
 i4 := by kernel_rfl
 i5 := by kernel_rfl
 i9 := by kernel_rfl
 i46 := by kernel_rfl
 i53 := by kernel_rfl
 i212 := by kernel_rfl
 m17 := by kernel_rfl }
def KH : Go.Shelf.Ren := ⟨fun | 285 => 206 | n => n, fun | 37 => 44 | 53 => 26 | 3 => 3 | 4 => 4 | 51 => 274 | 9 => 9 | 5 => 5 | 0 => 0 | n => n, fun | n => n⟩
theorem qXS : Go.Proofs.Lays.n285 Tryz.prog KH := {
 mixed := by kernel_rfl
 f285 := Tryz.func206.trans (congrArg some (by kernel_rfl))
 t0 := Tryz.underlying0
 a0 := Tryz.isAgg0
 z0 := Tryz.sizeOf0
 v0 := Tryz.zeroValue0
 t3 := Tryz.underlying3
 a3 := Tryz.isAgg3
 z3 := Tryz.sizeOf3
 v3 := Tryz.zeroValue3
 t4 := Tryz.underlying4
 a4 := Tryz.isAgg4
 z4 := Tryz.sizeOf4
 v4 := Tryz.zeroValue4
 t5 := Tryz.underlying5
 a5 := Tryz.isAgg5
 z5 := Tryz.sizeOf5
 v5 := Tryz.zeroValue5
 t9 := Tryz.underlying9
 a9 := Tryz.isAgg9
 z9 := Tryz.sizeOf9
 v9 := Tryz.zeroValue9
 t37 := Tryz.underlying44
 a37 := Tryz.isAgg44
 z37 := Tryz.sizeOf44
 v37 := Tryz.zeroValue44
 t51 := Tryz.underlying274
 a51 := Tryz.isAgg274
 z51 := Tryz.sizeOf274
 v51 := Tryz.zeroValue274
 t53 := Tryz.underlying26
 a53 := Tryz.isAgg26
 z53 := Tryz.sizeOf26
 v53 := Tryz.zeroValue26 }
theorem qQ4 : Builder.Extra Tryz.prog Ja := { sizeBuilder := by kernel_rfl, liesBuilder := by kernel_rfl, t5 := Tryz.underlying5, a5 := Tryz.isAgg5, z5 := Tryz.sizeOf5, v5 := Tryz.zeroValue5, infoByte := by kernel_rfl, cellsByte := by kernel_rfl, sizeByte := by kernel_rfl, neB5 := by decide }
noncomputable def W55 : WF := KS
theorem qVI : XOk Tryz.prog 55 W55 := qQN fun bk o c xs sep w h1 h2 h3 h4 h5 => Any.strings_Join qXt qQ4 bk o c xs sep w h1 h2 h3 h4 h5
noncomputable def W205 : WF := xNd
theorem qZn : XOk Tryz.prog 205 W205 := qVb (List.mem_cons_self ..) fun u w h1 h2 h3 => Any.internal_strconv_numDigits qKL u h1 h2 w h3
noncomputable def W206 : WF := xFb
theorem qZs : XOk Tryz.prog 206 W206 := qVP fun blk off cap u d w h1 h2 h3 h4 => Any.internal_strconv_formatBase10 qXS blk off cap u d w h1 h2 h3 h4
end Go.Proofs.YtdlfmpmpmkffjaaGreatDoor
