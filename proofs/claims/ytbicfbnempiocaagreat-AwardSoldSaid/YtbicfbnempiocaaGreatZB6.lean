/- Part 7 of what the law's proof rests on: what each function of the program computes, and that the machine's call of it comes to just that. -/
import Derived.Shelf.SlGeneric
import Derived.Shelf.Slices.CompactI
import Derived.Shelf.SlIterI.Nil
import Derived.Shelf.SortM.Plain
import Derived.Shelf.SortM.SortNone
import Derived.Ground.GgzProg
import Derived.Ground.SlgmProg
import Derived.Maps.OwnOps
import Derived.Maps.OwnSet
import Derived.Test.YtbicfbnempiocaaGreatZB0
import Derived.Test.YtbicfbnempiocaaGreatZB1
set_option linter.unusedVariables false
set_option linter.unusedSimpArgs false
section
namespace Go.Proofs
open Go.Shelf
def Tryz.keysA_ren : Go.Shelf.Ren := ⟨fun | 7 => 126 | 10 => 158 | n => n, fun | 23 => 111 | 26 => 3 | 3 => 3 | 28 => 154 | 0 => 0 | 27 => 153 | 33 => 132 | 4 => 4 | n => n, fun | n => n⟩
theorem Tryz.keysA : Go.Proofs.SlLaysZI.n7 Tryz.prog Tryz.keysA_ren := {
 mixed := by kernel_rfl
 f7 := ⟨Tryz.f126.name, by decide, Tryz.func126.trans (congrArg some (by kernel_rfl))⟩
 f10 := ⟨Tryz.f158.name, by decide, Tryz.func158.trans (congrArg some (by kernel_rfl))⟩
 t0 := Tryz.underlying0
 a0 := Tryz.isAgg0
 z0 := Tryz.sizeOf0
 v0 := Tryz.zeroValue0
 t4 := Tryz.underlying4
 a4 := Tryz.isAgg4
 z4 := Tryz.sizeOf4
 v4 := Tryz.zeroValue4
 t23 := Tryz.underlying111
 a23 := Tryz.isAgg111
 z23 := Tryz.sizeOf111
 v23 := Tryz.zeroValue111
 t26 := Tryz.underlying3
 a26 := Tryz.isAgg3
 z26 := Tryz.sizeOf3
 v26 := Tryz.zeroValue3
 t27 := Tryz.underlying153
 a27 := Tryz.isAgg153
 z27 := Tryz.sizeOf153
 v27 := Tryz.zeroValue153
 t28 := Tryz.underlying154
 a28 := Tryz.isAgg154
 z28 := Tryz.sizeOf154
 v28 := Tryz.zeroValue154
 t33 := Tryz.underlying132
 a33 := Tryz.isAgg132
 z33 := Tryz.sizeOf132
 v33 := Tryz.zeroValue132 }
def Tryz.sortedA_ren : Go.Shelf.Ren := ⟨fun | 6 => 125 | 8 => 157 | 9 => 90 | 11 => 177 | 13 => 132 | 12 => 131 | 23 => 169 | 24 => 170 | 14 => 160 | 15 => 161 | 16 => 162 | 17 => 163 | 18 => 164 | 19 => 165 | 20 => 166 | 21 => 167 | 22 => 168 | 25 => 178 | 26 => 179 | 27 => 180 | 28 => 181 | 29 => 182 | 30 => 148 | 31 => 185 | n => n, fun | 26 => 3 | 28 => 154 | 24 => 35 | 0 => 0 | 3 => 3 | 37 => 84 | 48 => 185 | 50 => 187 | 4 => 4 | 40 => 177 | 39 => 176 | 45 => 182 | 5 => 5 | 9 => 9 | 51 => 196 | 55 => 200 | 57 => 204 | 58 => 205 | 33 => 132 | n => n, fun | n => n⟩
theorem Tryz.sortedA : Go.Proofs.SlLaysZI.n6 Tryz.prog Tryz.sortedA_ren := {
 mixed := by kernel_rfl
 f6 := ⟨Tryz.f125.name, by decide, Tryz.func125.trans (congrArg some (by kernel_rfl))⟩
 f8 := ⟨Tryz.f157.name, by decide, Tryz.func157.trans (congrArg some (by kernel_rfl))⟩
 f11 := ⟨Tryz.f177.name, by decide, Tryz.func177.trans (congrArg some (by kernel_rfl))⟩
 t0 := Tryz.underlying0
 a0 := Tryz.isAgg0
 z0 := Tryz.sizeOf0
 v0 := Tryz.zeroValue0
 t24 := Tryz.underlying35
 a24 := Tryz.isAgg35
 z24 := Tryz.sizeOf35
 v24 := Tryz.zeroValue35
 t26 := Tryz.underlying3
 a26 := Tryz.isAgg3
 z26 := Tryz.sizeOf3
 v26 := Tryz.zeroValue3
 t28 := Tryz.underlying154
 a28 := Tryz.isAgg154
 z28 := Tryz.sizeOf154
 v28 := Tryz.zeroValue154
 i26 := by kernel_rfl }
def Tryz.sortA_ren : Go.Shelf.Ren := ⟨fun | 5 => 90 | 8 => 132 | 7 => 131 | 19 => 169 | 20 => 170 | 10 => 160 | 11 => 161 | 12 => 162 | 13 => 163 | 14 => 164 | 15 => 165 | 16 => 166 | 17 => 167 | 18 => 168 | 30 => 178 | 31 => 179 | 32 => 180 | 33 => 181 | 34 => 182 | 35 => 148 | 40 => 185 | n => n, fun | 23 => 35 | 25 => 3 | 3 => 3 | 32 => 84 | 22 => 35 | 0 => 0 | 44 => 185 | 46 => 187 | 4 => 4 | 36 => 177 | 35 => 176 | 41 => 182 | 5 => 5 | 9 => 9 | 53 => 196 | 57 => 200 | 63 => 204 | 64 => 205 | n => n, fun | n => n⟩
theorem Tryz.sortA : Go.Proofs.SlLaysM.n5 Tryz.prog Tryz.sortA_ren := {
 mixed := by kernel_rfl
 f5 := ⟨Tryz.f90.name, by decide, Tryz.func90.trans (congrArg some (by kernel_rfl))⟩
 f7 := ⟨Tryz.f131.name, by decide, Tryz.func131.trans (congrArg some (by kernel_rfl))⟩
 f8 := Tryz.func132.trans (congrArg some (by kernel_rfl))
 f10 := ⟨Tryz.f160.name, by decide, Tryz.func160.trans (congrArg some (by kernel_rfl))⟩
 f11 := ⟨Tryz.f161.name, by decide, Tryz.func161.trans (congrArg some (by kernel_rfl))⟩
 f12 := ⟨Tryz.f162.name, by decide, Tryz.func162.trans (congrArg some (by kernel_rfl))⟩
 f13 := ⟨Tryz.f163.name, by decide, Tryz.func163.trans (congrArg some (by kernel_rfl))⟩
 f14 := ⟨Tryz.f164.name, by decide, Tryz.func164.trans (congrArg some (by kernel_rfl))⟩
 f15 := ⟨Tryz.f165.name, by decide, Tryz.func165.trans (congrArg some (by kernel_rfl))⟩
 f16 := ⟨Tryz.f166.name, by decide, Tryz.func166.trans (congrArg some (by kernel_rfl))⟩
 f17 := ⟨Tryz.f167.name, by decide, Tryz.func167.trans (congrArg some (by kernel_rfl))⟩
 f18 := ⟨Tryz.f168.name, by decide, Tryz.func168.trans (congrArg some (by kernel_rfl))⟩
 f19 := Tryz.func169.trans (congrArg some (by kernel_rfl))
 f20 := Tryz.func170.trans (congrArg some (by kernel_rfl))
 f30 := ⟨Tryz.f178.name, by decide, Tryz.func178.trans (congrArg some (by kernel_rfl))⟩
 f31 := Tryz.func179.trans (congrArg some (by kernel_rfl))
 f32 := Tryz.func180.trans (congrArg some (by kernel_rfl))
 f33 := ⟨Tryz.f181.name, by decide, Tryz.func181.trans (congrArg some (by kernel_rfl))⟩
 f34 := ⟨Tryz.f182.name, by decide, Tryz.func182.trans (congrArg some (by kernel_rfl))⟩
 f35 := ⟨Tryz.f148.name, by decide, Tryz.func148.trans (congrArg some (by kernel_rfl))⟩
 f40 := ⟨Tryz.f185.name, by decide, Tryz.func185.trans (congrArg some (by kernel_rfl))⟩
 t0 := Tryz.underlying0
 a0 := Tryz.isAgg0
 z0 := Tryz.sizeOf0
 v0 := Tryz.zeroValue0
 t3 := Tryz.underlying3
 a3 := Tryz.isAgg3
 z3 := Tryz.sizeOf3
 v3 := Tryz.zeroValue3
 t4 := Tryz.underlying4
 a4 := Tryz.isAgg4
 z4 := Tryz.sizeOf4
 v4 := Tryz.zeroValue4
 t5 := Tryz.underlying5
 a5 := Tryz.isAgg5
 z5 := Tryz.sizeOf5
 v5 := Tryz.zeroValue5
 t9 := Tryz.underlying9
 a9 := Tryz.isAgg9
 z9 := Tryz.sizeOf9
 v9 := Tryz.zeroValue9
 t22 := Tryz.underlying35
 a22 := Tryz.isAgg35
 z22 := Tryz.sizeOf35
 v22 := Tryz.zeroValue35
 t23 := Tryz.underlying35
 a23 := Tryz.isAgg35
 z23 := Tryz.sizeOf35
 v23 := Tryz.zeroValue35
 t25 := Tryz.underlying3
 a25 := Tryz.isAgg3
 z25 := Tryz.sizeOf3
 v25 := Tryz.zeroValue3
 t32 := Tryz.underlying84
 a32 := Tryz.isAgg84
 z32 := Tryz.sizeOf84
 v32 := Tryz.zeroValue84
 t35 := Tryz.underlying176
 a35 := Tryz.isAgg176
 z35 := Tryz.sizeOf176
 v35 := Tryz.zeroValue176
 t36 := Tryz.underlying177
 a36 := Tryz.isAgg177
 z36 := Tryz.sizeOf177
 v36 := Tryz.zeroValue177
 t41 := Tryz.underlying182
 a41 := Tryz.isAgg182
 z41 := Tryz.sizeOf182
 v41 := Tryz.zeroValue182
 t44 := Tryz.underlying185
 a44 := Tryz.isAgg185
 z44 := Tryz.sizeOf185
 v44 := Tryz.zeroValue185
 t46 := Tryz.underlying187
 a46 := Tryz.isAgg187
 z46 := Tryz.sizeOf187
 v46 := Tryz.zeroValue187
 t53 := Tryz.underlying196
 a53 := Tryz.isAgg196
 z53 := Tryz.sizeOf196
 v53 := Tryz.zeroValue196
 t57 := Tryz.underlying200
 a57 := Tryz.isAgg200
 z57 := Tryz.sizeOf200
 v57 := Tryz.zeroValue200
 t63 := Tryz.underlying204
 a63 := Tryz.isAgg204
 z63 := Tryz.sizeOf204
 v63 := Tryz.zeroValue204
 t64 := Tryz.underlying205
 a64 := Tryz.isAgg205
 z64 := Tryz.sizeOf205
 v64 := Tryz.zeroValue205 }
def Tryz.compactA_ren : Go.Shelf.Ren := ⟨fun | 20 => 95 | n => n, fun | 22 => 35 | 3 => 3 | 4 => 4 | 0 => 0 | n => n, fun | n => n⟩
theorem Tryz.compactA : Go.Proofs.Lays2.n20 Tryz.prog Tryz.compactA_ren := {
 mixed := by kernel_rfl
 f20 := Tryz.func95.trans (congrArg some (by kernel_rfl))
 t0 := Tryz.underlying0
 a0 := Tryz.isAgg0
 z0 := Tryz.sizeOf0
 v0 := Tryz.zeroValue0
 t3 := Tryz.underlying3
 a3 := Tryz.isAgg3
 z3 := Tryz.sizeOf3
 v3 := Tryz.zeroValue3
 t4 := Tryz.underlying4
 a4 := Tryz.isAgg4
 z4 := Tryz.sizeOf4
 v4 := Tryz.zeroValue4
 t22 := Tryz.underlying35
 a22 := Tryz.isAgg35
 z22 := Tryz.sizeOf35
 v22 := Tryz.zeroValue35
 i3 := by kernel_rfl }
end Go.Proofs
end
namespace Go.Proofs.YtbicfbnempiocaaGreat.G
open Go.RowKit Go.Proofs.YtbicfbnempiocaaGreatW.PrintWords Go.Proofs.YtbicfbnempiocaaGreatW.PrintLast Go.Proofs.YtbicfbnempiocaaGreatW.PrintMore
section
open Go.Shelf
open Go.Proofs Go.Sort
theorem heap_grow {w : World} {os : Array Obj} {k : Nat} (h : k < w.heap.size) : (grow w os).heap[k]? = w.heap[k]? := by
 simp [grow, Array.getElem?_append, h]
theorem heap_mapBlock_other {w : World} {b k : Nat} {f : Array Value → Array Value} (h : k ≠ b) : (mapBlock w b f).heap[k]? = w.heap[k]? := by
 unfold mapBlock
 simp [Array.getElem?_modify, Ne.symm h]
theorem heap_mapBlock_same {w : World} {b : Nat} {f : Array Value → Array Value} {c : Array Value} {e : TypeId} {fr : Nat × Nat} (h : w.heap[b]? = some (.cells c e fr)) : (mapBlock w b f).heap[b]? = some (.cells (f c) e fr) := by
 unfold mapBlock
 simp [Array.getElem?_modify, h, onCells]
theorem size_mapBlock {w : World} {b : Nat} {f : Array Value → Array Value} : (mapBlock w b f).heap.size = w.heap.size := by
 unfold mapBlock
 simp
theorem below_putRow {w W : World} {g : Nat} {d : Array Int} {q : Nat} {os : Array Obj} (hB : Below w.heap.size w W) (hg : w.heap.size ≤ g) : Below w.heap.size w (grow (putRow (Value.int .i64) (Sort.ahead W q) g 0 d) os) := by
 refine ⟨hB.os, hB.tape, hB.output, ?_, fun k hk => ?_⟩
 ·show w.heap.size ≤ (W.heap.modify g _ ++ os).size
  have := hB.size
  simp
  omega
 ·have h1 : k < (putRow (Value.int .i64) (Sort.ahead W q) g 0 d).heap.size := by
   show k < (mapBlock _ _ _).heap.size
   rw [size_mapBlock]
   exact Nat.lt_of_lt_of_le hk hB.size
  rw [heap_grow h1]
  refine Eq.trans ?_ (hB.block k hk)
  exact heap_mapBlock_other (w := Sort.ahead W q) (by omega)
theorem own_putRow {W : World} {base g n cap k q : Nat} {cur : Array Value} {os : Array Obj} (hbase : base ≤ g) (hb : W.heap[g]? = some (.cells cur 3 (0, 0))) (hn : n ≤ cap) (hc : cap ≤ maxLen) (hs : cur.size = cap * 1) (d : List Int) (hd : d.length = n) (hk : k ≤ n) :
  (grow (putRow (Value.int .i64) (Sort.ahead W q) g 0 d.toArray) os).ownsRow base 3 1 (.slice (some ⟨g, 0, none⟩) k cap) k (encs (Value.int .i64) (d.take k)) := by
 have hlt : g < W.heap.size := (Array.getElem?_eq_some_iff.1 hb).1
 have h1 : (putRow (Value.int .i64) (Sort.ahead W q) g 0 d.toArray).heap[g]? = some (.cells (putCells (Value.int .i64) 0 d.toArray cur) 3 (0, 0)) := heap_mapBlock_same (w := Sort.ahead W q) hb
 have h2 : (grow (putRow (Value.int .i64) (Sort.ahead W q) g 0 d.toArray) os).heap[g]? = some (.cells (putCells (Value.int .i64) 0 d.toArray cur) 3 (0, 0)) := by
  rw [heap_grow ?_, h1]
  show g < (mapBlock _ _ _).heap.size
  rw [size_mapBlock]
  exact hlt
 refine ⟨by simp [encs, hd]; omega, .inr ⟨g, cap, _, rfl, hbase, h2, by omega, hc, by simp [putCells, hs], ?_⟩⟩
 apply List.ext_getElem?
 intro j
 rw [Nat.mul_one]
 by_cases hj : j < k
 ·have hj2 : j < cur.size := by omega
  have hj3 : j < d.length := by omega
  rw [List.getElem?_take_of_lt hj]
  simp [putCells, encs, hj, hj2, hj3]
 ·rw [List.getElem?_eq_none (by simp; omega), List.getElem?_eq_none (by simp [encs]; omega)]
theorem holds_of_row {W : World} {g n : Nat} {cur : Array Value} {xs : List Int} (hb : W.heap[g]? = some (.cells cur 3 (0, 0))) (hn : xs.length = n) (ht : cur.toList.take (n * 1) = encs (Value.int .i64) xs) : Holds (Value.int .i64) W g 0 xs.toArray := by
 intro j hj
 have hj' : j < xs.length := by simpa using hj
 constructor
 ·rw [Nat.zero_add, bC_ hb j]
  have h1 : (cur.toList.take (n * 1))[j]? = some (.int .i64 xs[j]) := by rw [ht]; simp [encs, hj']
  rw [List.getElem?_take_of_lt (by omega)] at h1
  rw [← Array.getElem?_toList, h1]
  simp [hj']
 ·simp [World.frozen?, hb]
theorem sort_any {W w : World} {ok : Nat → Prop} {v : Value} {xs : List Int} (h : (Kd.int .i64).R 3 W w.heap.size ok v xs) (hB : Below w.heap.size w W) (hl : xs.length < 4611686018427387904) :
  Calls Tryz.prog 90 #[v] W fun e w' => e = .returned (.tuple #[]) ∧ (Kd.int .i64).R 3 w' w.heap.size ok v (xs.mergeSort fun x y => decide (x ≤ y)) ∧ Below w.heap.size w w' := by
 have ho := Kd.own_of_R h
 have hok := h.1
 have hlen : (xs.mergeSort fun x y => decide (x ≤ y)).length = xs.length := List.length_mergeSort _
 rcases ho with ⟨hx, ⟨rfl, h0⟩ | ⟨g, cap, cur, rfl, hg, hb, hn, hc, hs, ht⟩⟩
 ·have hx0 : xs = [] := List.length_eq_zero_iff.1 h0
  subst hx0
  refine (AnyM.slices_Sort_int_none Tryz.sortA none 0 W).mono ?_
  rintro e w' ⟨rfl, rfl⟩
  exact ⟨rfl, by simpa using h, hB⟩
 ·refine (AnyM.slices_Sort_int Tryz.sortA g 0 cap xs W (holds_of_row hb rfl ht) (Array.getElem?_eq_some_iff.1 hb).1 hl).mono ?_
  rintro e w' ⟨rfl, q, os, rfl⟩
  refine ⟨rfl, Kd.R_of_own ?_ hok, below_putRow hB hg⟩
  have z := own_putRow (W := W) (base := w.heap.size) (q := q) (os := os) hg hb hn hc hs (xs.mergeSort fun x y => decide (x ≤ y)) hlen (Nat.le_refl _)
  rw [List.take_of_length_le (by omega)] at z
  rw [hlen]
  exact z
theorem compact_len (zs : List Int) : (Lib.compact zs).length ≤ zs.length := by
 unfold Lib.compact Lib.compactUpTo
 rw [List.length_map]
 exact Nat.le_trans (List.length_filter_le _ _) (by simp)
theorem compact_any {W w : World} {v : Value} {xs : List Int} (h : (Kd.int .i64).R 3 W w.heap.size (fun _ => True) v xs) (hB : Below w.heap.size w W) (hl : xs.length ≤ 9223372036854775807) :
  Calls Tryz.prog 95 #[v] W fun e w' => ∃ v', e = .returned v' ∧ (Kd.int .i64).R 3 w' w.heap.size (fun _ => True) v' (Lib.compact xs) ∧ Below w.heap.size w w' := by
 have ho := Kd.own_of_R h
 rcases ho with ⟨hx, ⟨rfl, h0⟩ | ⟨g, cap, cur, rfl, hg, hb, hn, hc, hs, ht⟩⟩
 ·have hx0 : xs = [] := List.length_eq_zero_iff.1 h0
  subst hx0
  refine (Any.slices_Compact_int_empty Tryz.compactA none 0 W).mono ?_
  rintro e w' ⟨rfl, rfl⟩
  exact ⟨_, rfl, h, hB⟩
 ·refine (Any.slices_Compact_int Tryz.compactA g 0 cap xs W (holds_of_row hb rfl ht) hl hn).mono ?_
  rintro e w' ⟨rfl, q, rfl⟩
  have hlc := compact_len xs
  have z := own_putRow (W := W) (base := w.heap.size) (q := q) (os := #[]) hg hb hn hc hs (Lib.compact xs ++ List.replicate (xs.length - (Lib.compact xs).length) 0) (by simp; omega) hlc
  have zb := below_putRow (w := w) (W := W) (d := (Lib.compact xs ++ List.replicate (xs.length - (Lib.compact xs).length) 0).toArray) (q := q) (os := #[]) hB hg
  rw [grow_empty] at z zb
  refine ⟨_, rfl, Kd.R_of_own ?_ (fun _ _ => trivial), zb⟩
  rw [List.take_left'  rfl] at z
  exact z
end
section
open Go.Shelf
open Go.Maps Go.Proofs
abbrev MD := DataW Unit
def RepM (D : MD) (s : Int → Int) : Prop := IsMap D ∧ ∀ p : Int, D.atKey (.int .i64 p) (.lit (.int .i64 0)) = .lit (.int .i64 (s p)) ∧ (has D (.int .i64 p) = true ↔ s p ≠ 0)
def stepS (sg : Int) (s : Int → Int) (x : S69) : Int → Int := fun p => if p = x.f0 then wrap64 (s x.f0 + wrap64 (sg * x.f1)) else s p
def sumsF (sg : Int) (l : List S69) (s : Int → Int) : Int → Int := l.foldl (stepS sg) s
def putM (D : MD) (p c : Int) : MD := D.put (.int .i64 p) (.lit (.int .i64 c))
theorem lit_ne {p q : Int} (h : p ≠ q) : (Lit.int .i64 p) ≠ (Lit.int .i64 q) := fun e => h (by injection e)
theorem isMap_put {D : MD} (h : IsMap D) (k : Lit) (d : MD) : IsMap (D.put k d) := by obtain ⟨es, rfl⟩ := h; exact ⟨_, rfl⟩
theorem isMap_del {D : MD} (h : IsMap D) (k : Lit) : IsMap (D.del k) := by obtain ⟨es, rfl⟩ := h; exact ⟨_, rfl⟩
theorem repM_nil : RepM (.map []) (fun _ => 0) := ⟨⟨_, rfl⟩, fun p => ⟨rfl, by simp [has]⟩⟩
theorem putM_at {D : MD} (h : IsMap D) (p c : Int) (z : MD) : (putM D p c).atKey (.int .i64 p) z = .lit (.int .i64 c) := atKey_put_same h (show WideAt.IsKeyLit (.int .i64 p) from trivial) _ _
theorem repM_keep {D : MD} {s : Int → Int} (h : RepM D s) {sg : Int} {x : S69} {c : Int} (hc : c = wrap64 (s x.f0 + wrap64 (sg * x.f1))) (h0 : c ≠ 0) : RepM (putM D x.f0 c) (stepS sg s x) := by
 refine ⟨isMap_put h.1 _ _, fun p => ?_⟩
 unfold stepS
 by_cases hp : p = x.f0
 ·subst hp
  rw [if_pos rfl, ← hc]
  exact ⟨putM_at h.1 _ _ _, by simp [putM, has_put_same h.1 (show WideAt.IsKeyLit (.int .i64 x.f0) from trivial), h0]⟩
 ·rw [if_neg hp]
  unfold putM
  rw [atKey_put_other (lit_ne hp), has_put_other (lit_ne hp)]
  exact h.2 p
theorem repM_drop {D : MD} {s : Int → Int} (h : RepM D s) {sg : Int} {x : S69} {c : Int} (hc : c = wrap64 (s x.f0 + wrap64 (sg * x.f1))) (h0 : c = 0) : RepM ((putM D x.f0 c).del (.int .i64 x.f0)) (stepS sg s x) := by
 refine ⟨isMap_del (isMap_put h.1 _ _) _, fun p => ?_⟩
 unfold stepS
 by_cases hp : p = x.f0
 ·subst hp
  rw [if_pos rfl, ← hc, h0]
  exact ⟨atKey_del_same _, by simp [has_del_same]⟩
 ·rw [if_neg hp]
  unfold putM
  rw [atKey_del_other (lit_ne hp), has_del_other (lit_ne hp), atKey_put_other (lit_ne hp), has_put_other (lit_ne hp)]
  exact h.2 p
theorem own_below {w w1 : World} {b n : Nat} {D : MD} (h : w.ownsMap Tryz.prog 3 (plainElem Tryz.prog 3) b n D) (hb : Below w.heap.size w w1) : w1.ownsMap Tryz.prog 3 (plainElem Tryz.prog 3) b n D := by
 have hlt := h.lt
 obtain ⟨es, clock, hh, F, hs, hD⟩ := h
 exact ⟨es, clock, (hb.block b hlt).trans hh, F, hs, hD⟩
theorem own_ne {w : World} {b n g t : Nat} {cs : Array Value} {D : MD} (h : w.ownsMap Tryz.prog 3 (plainElem Tryz.prog 3) b n D) (hc : w.heap[g]? = some (.cells cs t (0, 0))) : some g ≠ some b := by
 intro e
 cases e
 obtain ⟨es, clock, hh, _⟩ := h
 rw [hh] at hc
 cases hc
theorem blk_turned {w w1 : World} {b g t : Nat} {cs : Array Value} (hc : w.heap[g]? = some (.cells cs t (0, 0))) (hg : w.grownBy w1 (some b)) (hne : some g ≠ some b) : w1.heap[g]? = some (.cells cs t (0, 0)) :=
 (hg.block g (Array.getElem?_eq_some_iff.1 hc).1 hne).trans hc
theorem below_turned {w W W1 : World} {b : Nat} (hB : Below w.heap.size w W) (hg : W.grownBy W1 (some b)) (hb : w.heap.size ≤ b) : Below w.heap.size w W1 :=
 hB.grown hg hB.size (fun k e => by cases e; exact hb)
theorem law3 : Keyed Tryz.prog 3 := int_keyed Tryz.underlying3
theorem zero3 (w : World) : (zeroValue 3).run Tryz.prog w = .ok (.int .i64 0) w := Tryz.zeroValue3 w
set_option maxRecDepth 100000 in
set_option maxHeartbeats 4000000 in
theorem sums_any (w : World) (A : Option Addr) (c : Nat) (l : List S69) (sg : Int) (hr : Kd.C k69 w A l.length l) (W : World) (hB : Below w.heap.size w W) (b n : Nat) (D : MD) (s : Int → Int) (hb : w.heap.size ≤ b)
  (hown : W.ownsMap Tryz.prog 3 (plainElem Tryz.prog 3) b n D) (hrep : RepM D s) (hk : ∀ x ∈ l, (Lit.int .i64 x.f0).wf = true) (hn : n + l.length < 4000000000) :
  Calls Tryz.prog 84 #[.slice A l.length c, .int .i64 sg, .map (some b)] W fun e w' => e = .returned (.map (some b)) ∧ Below w.heap.size w w' ∧ ∃ D', w'.ownsMap Tryz.prog 3 (plainElem Tryz.prog 3) b (n + l.length) D' ∧ RepM D' (sumsF sg l s) := by
 have hm : l.length ≤ 9223372036854775807 := hr.2.1
 have HR := Aq.mk hr
 have HK := Aq.mk hk
 have HB0 := Aq.mk hB
 have HO0 := Aq.mk hown
 have HP0 := Aq.mk hrep
 clear hr hk hB hown hrep
 go_enter Tryz.func84, Tryz.ntmps84
 go_wp2
 go_loopg [11] l.length (fun gg s11 wr => ∃ (kk : Nat) (D' : MD), kk ≤ l.length ∧ l.length - kk ≤ gg ∧ s11 = .int .i64 kk ∧ Aq (Below w.heap.size w wr) ∧ Aq (wr.ownsMap Tryz.prog 3 (plainElem Tryz.prog 3) b (n + kk) D') ∧ Aq (RepM D' (sumsF sg (l.take kk) s)))
 case atStart => exact ⟨0, D, Nat.zero_le _, by omega, rfl, HB0, HO0, HP0⟩
 case round =>
  clear HB0 HO0 HP0
  obtain ⟨kk, D', hkk, hg, rfl, HB, HO, HP⟩ := hrel
  by_cases hlt : kk < l.length
  ·have hltz : (kk : Int) < (l.length : Int) := by omega
   have h0 : (0 : Int) ≤ (kk : Int) := by omega
   obtain ⟨ad, e_, hx0, hx1⟩ := at_T69 HR.out (kk : Int) h0 hltz
   cases e_
   obtain ⟨hmem, HD⟩ := rdT69_drop l kk hlt
   generalize rd_T69 l (kk : Int) = X at hx0 hx1 HD hmem
   replace hx0 := mv HB hx0
   replace hx1 := mv HB hx1
   simp only [Int.toNat_natCast] at hx0 hx1
   have hkey : keyOf Tryz.prog 3 (.int .i64 X.f0) = some (.int .i64 X.f0) := keyOf_int_mk Tryz.underlying3 (HK.out X hmem)
   have HS : Aq (sumsF sg (l.take (kk + 1)) s = stepS sg (sumsF sg (l.take kk) s) X) := ⟨by unfold sumsF; rw [take_snoc_drop HD, List.foldl_append]; rfl⟩
   clear HD hmem
   generalize sumsF sg (l.take kk) s = s1 at HP HS
   obtain ⟨m1, hm1⟩ : ∃ m1, IntKind.i64.wrap (sg * X.f1) = m1 := ⟨_, rfl⟩
   obtain ⟨v, hv1⟩ : ∃ v, IntKind.i64.wrap (s1 X.f0 + m1) = v := ⟨_, rfl⟩
   have HV : Aq (v = wrap64 (s1 X.f0 + wrap64 (sg * X.f1))) := ⟨by rw [← hv1, ← hm1, i64_w, i64_w]⟩
   have HW : Aq ((Lit.int .i64 v).wf = true) := ⟨by rw [HV.out]; exact wrap64_wf _⟩
   have n0_ := Aq.mk (bA_ HB.out (.cells #[.int .i64 X.f0, .int .i64 X.f1] 69))
   have n1_ := Aq.mk (own_below HO.out (bA_ (Below.refl _ _) (.cells #[.int .i64 X.f0, .int .i64 X.f1] 69)))
   have HX := Aq.mk (heap_alloc_new wr (.cells #[.int .i64 X.f0, .int .i64 X.f1] 69))
   clear HB HO
   have HB := n0_
   have HO := n1_
   clear n0_ n1_
   cases hz : (v == 0) with
   | true =>
    have hv0 : Aq (v = 0) := ⟨eq_of_beq hz⟩
    go_wp2_with (first | ((with_reducible refine gD_ (N := 18) rfl ?_); at_lookup; go_must (refine wpList_lookup_own_int _ rfl _ _ 111 rfl 3 3 .i64 law3 Tryz.underlying111 Tryz.underlying3 (zero3 _) b (n + kk) D' rfl HO.out _ _ rfl hkey ?_; intro c1 hat hwc; rw [(HP.out.2 X.f0).1] at hat; injection hat with e1; injection e1 with e2 e3; subst e3; clear hwc)) | (at_mapUpdate; go_must (refine wpList_mapUpdate_own _ rfl _ _ _ 111 rfl 3 3 law3 Tryz.underlying111 _ b (n + kk) D' rfl HO.out (by unfold maxLen; omega) _ (.int .i64 v) _ rfl rfl hkey _ [] (plainElem_int Tryz.underlying3 HW.out) ?_; intro w2 hown2 hgrow; have n0_ := Aq.mk (below_turned HB.out hgrow hb); have n1_ := Aq.mk (blk_turned HX.out hgrow (own_ne HO.out HX.out)); clear HB HX HO; have HB := n0_; have HX := n1_; have HO := Aq.mk hown2; clear n0_ n1_ hown2 hgrow; have hz0 : w2.cell? ⟨wr.heap.size, 0, none⟩ = some (.int .i64 X.f0) := (bC_ HX.out 0).trans rfl)) | ((with_reducible refine gD_ (N := 27) rfl ?_); at_lookup; go_must (refine wpList_lookup_own_int _ rfl _ _ 111 rfl 3 3 .i64 law3 Tryz.underlying111 Tryz.underlying3 (zero3 _) b (n + kk + 1) (putM D' X.f0 v) rfl HO.out _ _ rfl hkey ?_; intro c2 hat hwc; rw [putM_at HP.out.1] at hat; injection hat with e1; injection e1 with e2 e3; subst e3; clear hwc)) | (at_delete; go_must (refine wpList_delete_own _ rfl _ _ 111 3 rfl 3 law3 Tryz.underlying111 _ b (n + kk + 1) (putM D' X.f0 v) rfl HO.out _ _ rfl hkey ?_; intro w3 hown3 hturn; have n0_ := Aq.mk (below_turned HB.out hturn.grown hb); clear HB HO; have HB := n0_; have HO := Aq.mk hown3; clear n0_ hown3 hturn)))
    go_roundg (l.length - (kk + 1))
    case measure => omega
    case rel => exact ⟨kk + 1, _, by omega, by omega, by go_num, HB, HO, ⟨by rw [HS.out]; exact repM_drop HP.out HV.out hv0.out⟩⟩
   | false =>
    have hv0 : Aq (v ≠ 0) := ⟨ne_of_beq_false hz⟩
    go_wp2_with (first | ((with_reducible refine gD_ (N := 18) rfl ?_); at_lookup; go_must (refine wpList_lookup_own_int _ rfl _ _ 111 rfl 3 3 .i64 law3 Tryz.underlying111 Tryz.underlying3 (zero3 _) b (n + kk) D' rfl HO.out _ _ rfl hkey ?_; intro c1 hat hwc; rw [(HP.out.2 X.f0).1] at hat; injection hat with e1; injection e1 with e2 e3; subst e3; clear hwc)) | (at_mapUpdate; go_must (refine wpList_mapUpdate_own _ rfl _ _ _ 111 rfl 3 3 law3 Tryz.underlying111 _ b (n + kk) D' rfl HO.out (by unfold maxLen; omega) _ (.int .i64 v) _ rfl rfl hkey _ [] (plainElem_int Tryz.underlying3 HW.out) ?_; intro w2 hown2 hgrow; have n0_ := Aq.mk (below_turned HB.out hgrow hb); have n1_ := Aq.mk (blk_turned HX.out hgrow (own_ne HO.out HX.out)); clear HB HX HO; have HB := n0_; have HX := n1_; have HO := Aq.mk hown2; clear n0_ n1_ hown2 hgrow; have hz0 : w2.cell? ⟨wr.heap.size, 0, none⟩ = some (.int .i64 X.f0) := (bC_ HX.out 0).trans rfl)) | ((with_reducible refine gD_ (N := 27) rfl ?_); at_lookup; go_must (refine wpList_lookup_own_int _ rfl _ _ 111 rfl 3 3 .i64 law3 Tryz.underlying111 Tryz.underlying3 (zero3 _) b (n + kk + 1) (putM D' X.f0 v) rfl HO.out _ _ rfl hkey ?_; intro c2 hat hwc; rw [putM_at HP.out.1] at hat; injection hat with e1; injection e1 with e2 e3; subst e3; clear hwc)) | (at_delete; go_must (refine wpList_delete_own _ rfl _ _ 111 3 rfl 3 law3 Tryz.underlying111 _ b (n + kk + 1) (putM D' X.f0 v) rfl HO.out _ _ rfl hkey ?_; intro w3 hown3 hturn; have n0_ := Aq.mk (below_turned HB.out hturn.grown hb); clear HB HO; have HB := n0_; have HO := Aq.mk hown3; clear n0_ hown3 hturn)))
    go_roundg (l.length - (kk + 1))
    case measure => omega
    case rel => exact ⟨kk + 1, _, by omega, by omega, by go_num, HB, HO, ⟨by rw [HS.out]; exact repM_keep HP.out HV.out hv0.out⟩⟩
  ·have hltz : ¬ (kk : Int) < (l.length : Int) := by omega
   obtain rfl : kk = l.length := by omega
   have HP2 : Aq (RepM D' (sumsF sg l s)) := ⟨by have z := HP.out; rw [List.take_length] at z; exact z⟩
   go_wp2
   go_ret
   exact ⟨rfl, HB.out, _, HO.out, HP2.out⟩
theorem sortsA (m : Nat) : AnyZI.SortsIn Tryz.prog Tryz.sortedA_ren Fence.wide m :=
  ⟨fun blk off cap ss W hH hblk hsz => callsIn_wide.2 (AnyM.slices_Sort_int Tryz.sortA blk off cap ss W hH hblk hsz),
   fun p cap W => callsIn_wide.2 (AnyM.slices_Sort_int_none Tryz.sortA p cap W)⟩
theorem keys_any (mb : Option Nat) (W : World) : Calls Tryz.prog 126 #[.map mb] W fun e w' => e = .returned (.func (.func 158) #[] #[.pointer (some ⟨W.heap.size, 0, none⟩)]) ∧ w' = W.alloc (.cells #[.map mb] 111) :=
 (callsIn_wide (n := 5)).1 (AnyZI.keys_in Tryz.keysA Fence.wide 5 trivial rfl mb W)
set_option maxHeartbeats 1000000 in
theorem sorted_any (w : World) (b nn : Nat) (D0 : MD) (hown : w.ownsMap Tryz.prog 3 (plainElem Tryz.prog 3) b nn D0) (hmax : Maps.size D0 ≤ maxLen) (hbytes : Maps.size D0 * 8 ≤ 140737488355328) :
  Calls Tryz.prog 125 #[.func (.func 158) #[] #[.pointer (some ⟨w.heap.size, 0, none⟩)]] (w.alloc (.cells #[.map (some b)] 111)) fun e w' => ∃ (v : Value) (ss : List Int), e = .returned v ∧ ss.Perm (intKeys D0) ∧
   w'.ownsRow (w.alloc (.cells #[.map (some b)] 111)).heap.size 3 1 v ss.length ((ss.mergeSort (fun x y => decide (x ≤ y))).map encZ) ∧ (v = .slice none 0 0 ↔ ss = []) ∧ Below (w.alloc (.cells #[.map (some b)] 111)).heap.size (w.alloc (.cells #[.map (some b)] 111)) w' := by
 refine (callsIn_wide (n := 5)).1 ?_
 have hbl := hown.lt
 have hseq : SeqGives Fence.wide 2 Tryz.prog 158 #[.pointer (some ⟨w.heap.size, 0, none⟩)] encZ (fun ss => ss.Perm (intKeys D0)) (Maps.size D0) (w.alloc (.cells #[.map (some b)] 111)) :=
  AnyZI.keys_gives (ρ := Tryz.keysA_ren) { Tryz.keysA with } Fence.wide _ trivial rfl (by omega) w.heap.size b nn D0 _ (by simp) (by simp) (by
   obtain ⟨es, clock, hb, Ft, hs, hD⟩ := hown
   exact ⟨es, clock, (Below.heap_alloc _ _ b hbl).trans hb, Ft, hs, hD⟩)
 exact AnyZI.sorted_in Tryz.sortedA Fence.wide 5 trivial trivial trivial trivial rfl (by omega) (sortsA _) (enters_of Tryz.func90 (by kernel_rfl) rfl) 158 #[.pointer (some ⟨w.heap.size, 0, none⟩)] trivial (enters_of Tryz.func158 (by kernel_rfl) rfl) _ _ hmax hbytes _ hseq
theorem wf_small {p : Int} (h0 : 0 ≤ p) (h1 : p ≤ 40) : (Lit.int .i64 p).wf = true := by
 rw [show p = wrap64 p from (IntWalk.wrap64_in p (by omega)).symm]
 exact wrap64_wf _
def keysL (s : Int → Int) : List Int := ((List.range 41).map Int.ofNat).filter fun p => s p != 0
def listF (s : Int → Int) : List S69 := (keysL s).map fun p => ⟨p, s p⟩
theorem range_pair : ((List.range 41).map Int.ofNat).Pairwise (· < ·) := by decide
theorem keysL_sorted (s : Int → Int) : (keysL s).Pairwise (· < ·) := List.Pairwise.filter _ range_pair
theorem mem_range41 (p : Int) (h0 : 0 ≤ p) (h1 : p ≤ 40) : p ∈ (List.range 41).map Int.ofNat := List.mem_map.2 ⟨p.toNat, List.mem_range.2 (by omega), Int.toNat_of_nonneg h0⟩
theorem mem_keysL {s : Int → Int} (hs : ∀ p, s p ≠ 0 → 0 ≤ p ∧ p ≤ 40) (p : Int) : p ∈ keysL s ↔ s p ≠ 0 := by
 unfold keysL
 rw [List.mem_filter]
 constructor
 ·rintro ⟨_, h⟩
  simpa using h
 ·intro h
  exact ⟨mem_range41 p (hs p h).1 (hs p h).2, by simpa using h⟩
theorem keysL_len (s : Int → Int) : (keysL s).length ≤ 41 := Nat.le_trans (List.length_filter_le _ _) (by simp)
theorem sorted_keys {w : World} {b n : Nat} {D : MD} {s : Int → Int} (hown : w.ownsMap Tryz.prog 3 (plainElem Tryz.prog 3) b n D) (hrep : RepM D s) (hs : ∀ p, s p ≠ 0 → 0 ≤ p ∧ p ≤ 40) {ss : List Int} (hp : ss.Perm (intKeys D)) :
  ss.mergeSort (fun x y => decide (x ≤ y)) = keysL s := by
 have hc : CollectedI D (fun _ => false) (keysL s) := ⟨(keysL_sorted s).imp (fun h e => by omega), fun x => by rw [mem_keysL hs, (hrep.2 x).2]; simp⟩
 have h2 := hc.perm hown law3 Tryz.underlying3 (fun _ => rfl)
 rw [mergeSort_of_perm_i (hp.trans h2.symm)]
 exact List.mergeSort_of_pairwise ((keysL_sorted s).imp (fun h => by simp [leI]; omega))
theorem size_own {w : World} {b n : Nat} {D : MD} (hown : w.ownsMap Tryz.prog 3 (plainElem Tryz.prog 3) b n D) : Maps.size D ≤ n := by
 obtain ⟨es, clock, hb, Ft, hs, rfl⟩ := hown
 show ((es.toList.map _).foldr DataW.insert []).length ≤ n
 rw [length_sorted]
 simpa using hs
set_option maxRecDepth 100000 in
set_option maxHeartbeats 4000000 in
theorem listed_any (w W : World) (hB : Below w.heap.size w W) (b n : Nat) (D : MD) (s : Int → Int) (hown : W.ownsMap Tryz.prog 3 (plainElem Tryz.prog 3) b n D) (hrep : RepM D s) (hs : ∀ p, s p ≠ 0 → 0 ≤ p ∧ p ≤ 40) (hn : n < 4000000000) :
  Calls Tryz.prog 83 #[.map (some b)] W fun e w' => ∃ v0_ : Value, e = .returned v0_ ∧ Kd.R k69 69 w' w.heap.size (fun _ => True) v0_ (listF s) ∧ Below w.heap.size w w' := by
 have hsz := size_own hown
 have HC := Aq.mk (sorted_any W b n D hown (by unfold maxLen; omega) (by omega))
 have HB := Aq.mk hB
 have HO := Aq.mk hown
 have HP := Aq.mk hrep
 have HSK := Aq.mk (fun (ss : List Int) (hp : ss.Perm (intKeys D)) => sorted_keys hown hrep hs hp)
 have hkl := keysL_len s
 clear hB hown hrep hs
 go_enter Tryz.func83, Tryz.ntmps83
 go_wp2_with (first | (go_at_call 126; go_must (refine (keys_any _ _).mono ?_; rintro e w' ⟨rfl, rfl⟩)) | (go_at_call 125; go_must (refine HC.out.mono ?_; rintro e w2 ⟨v, ss, rfl, hperm, hrow, hnil, hb⟩; have hks := HSK.out ss hperm; rw [hks] at hrow; have hlen : ss.length = (keysL s).length := (by rw [← hks, List.length_mergeSort]); rw [hlen] at hrow; obtain ⟨Ak, ck, rfl, hck, hkr⟩ := Kd.R_reads (Kd.R_of_own (enc := Value.int .i64) (h1 := fun _ => rfl) (ok := fun _ => True) hrow (fun _ _ => trivial)); have KR := Aq.mk (show (Kd.int .i64).C w2 Ak (keysL s).length (keysL s) from hkr); replace HB := Aq.mk (bS_ (bA_ HB.out _) hb); replace HO := Aq.mk (own_below (own_below HO.out (bA_ (Below.refl _ _) _)) hb); clear HC HSK hb hks hlen hrow hnil hperm hkr)))
 go_loopg [3, 10] (keysL s).length (fun gg u3 s10 wr => ∃ (kk : Nat) (x3_1 : List S69), kk ≤ (keysL s).length ∧ (keysL s).length - kk ≤ gg ∧ s10 = .int .i64 kk ∧ Aq (x3_1 = ((keysL s).take kk).map fun p => (⟨p, s p⟩ : S69)) ∧ Aq (Kd.R k69 69 wr w2.heap.size (fun _ => True) u3 x3_1) ∧ Aq (Below w2.heap.size w2 wr))
 case atStart => exact ⟨0, [], Nat.zero_le _, by omega, rfl, ⟨by simp⟩, ⟨Kd.R_nil _ _ _ _ _⟩, ⟨Below.refl _ _⟩⟩
 case round =>
  obtain ⟨kk, x3_1, hkk, hg, rfl, HX3, HO_3, HB3⟩ := hrel
  by_cases hlt : kk < (keysL s).length
  ·have hltz : (kk : Int) < ((keysL s).length : Int) := by omega
   have h0 : (0 : Int) ≤ (kk : Int) := by omega
   obtain ⟨ad, e_, hx0⟩ := at_int KR.out (kk : Int) h0 hltz
   cases e_
   obtain ⟨hmem, HD⟩ := rd_drop (keysL s) kk hlt
   generalize rd (keysL s) (kk : Int) = P at hx0 HD hmem
   replace hx0 := (HB3.out.cell (World.block_lt_of_cell? w2 _ hx0)).trans hx0
   simp only [Int.toNat_natCast] at hx0
   have HLn : Aq ((x3_1.length + 1) * 16 ≤ 140737488355328) := ⟨by rw [HX3.out, List.length_map, List.length_take]; omega⟩
   have hPr : 0 ≤ P ∧ P ≤ 40 := by
    have z := (List.mem_filter.1 hmem).1
    obtain ⟨q, hq, rfl⟩ := List.mem_map.1 z
    have := List.mem_range.1 hq
    exact ⟨Int.natCast_nonneg _, by show (q : Int) ≤ 40; omega⟩
   have hkey : keyOf Tryz.prog 3 (.int .i64 P) = some (.int .i64 P) := keyOf_int_mk Tryz.underlying3 (wf_small hPr.1 hPr.2)
   have HT : Aq (x3_1 ++ [(⟨P, s P⟩ : S69)] = ((keysL s).take (kk + 1)).map fun p => (⟨p, s p⟩ : S69)) := ⟨by rw [HX3.out, take_snoc_drop HD, List.map_append]; rfl⟩
   clear HD hmem hPr
   go_wp2_with (first | ((with_reducible refine gD_ (N := 18) rfl ?_); at_lookup; go_must (refine wpList_lookup_own_int _ rfl _ _ 111 rfl 3 3 .i64 law3 Tryz.underlying111 Tryz.underlying3 (zero3 _) b n D rfl (own_below HO.out HB3.out) _ _ rfl hkey ?_; intro c1 hat hwc; rw [(HP.out.2 P).1] at hat; injection hat with e1; injection e1 with e2 e3; subst e3; clear hwc)) | ((with_reducible refine gate_builtin (b := .append) (xs := #[.tmp 14, .tmp 20]) rfl ?_); at_builtin; go_must (refine Kd.R_append k69 (w0 := w2) w2.heap.size rfl (.tmp 14) (.tmp 20) 45 69 (.agg #[(.int .i64 0), (.int .i64 0)]) 16 rfl Tryz.underlying45 info69 rfl (by decide) (by omega) u3 x3_1 (⟨P, s P⟩ : S69) [.int .i64 P, .int .i64 (s P)] (fun _ => True) (fun _ => False) rfl rfl ?aP (fun _ hk => hk.elim) ?aF ?aO ?aB ?aS ?aL ?_; (case aP => exact k69_mkM _ _ _ (⟨P, s P⟩ : S69)); (case aB => exact (by repeat (first | (with_reducible first | exact HB3.out | apply bA_) | exact HB3.out))); (case aF => exact (fun _ _ => trivial)); (case aO => exact (by (with_reducible repeat (first | apply Kd.R_alloc)); exact HO_3.out)); (case aS => exact (bZ_ (by repeat (first | (with_reducible first | exact HB3.out | apply bA_) | exact HB3.out)))); (case aL => exact HLn.out); intro v732 w6 ho hb hg hat; have HO733 := Aq.mk ho; replace HB3 := Aq.mk hb; clear HO_3; clear ho hb hg hat)))
   go_roundg ((keysL s).length - (kk + 1))
   case measure => omega
   case rel => exact ⟨kk + 1, _, by omega, by omega, by go_num, HT, HO733, HB3⟩
  ·have hltz : ¬ (kk : Int) < ((keysL s).length : Int) := by omega
   have HL : Aq (x3_1 = listF s) := ⟨by rw [HX3.out, List.take_of_length_le (by omega)]; rfl⟩
   go_wp2
   go_ret
   exact ⟨_, rfl, by rw [← HL.out]; exact Kd.R_lower HO_3.out HB.out.size, HB.out.trans (HB3.out.mono HB.out.size)⟩
end
section
open Go.Shelf
set_option maxRecDepth 100000 in
set_option maxHeartbeats 2000000 in
theorem index_Share (g : Nat) (lb : Array Value) (p : S69 → Bool) (A : Option Addr) (c : Nat) (l : List S69) (w : World)
  (eg : ∀ args w, (callFunc g args).run Tryz.prog w = .ok (.enter g args) w)
  (hp : ∀ (W : World) (x : S69), x ∈ l → Below w.heap.size w W → Calls Tryz.prog g (#[.agg #[.int .i64 x.f0, .int .i64 x.f1]] ++ lb) W fun e W' => e = .returned (.bool (p x)) ∧ Below w.heap.size w W')
  (hr : Kd.C k69 w A l.length l) :
  Calls Tryz.prog 156 #[.slice A l.length c, .func (.func g) #[] lb] w fun e w' => e = .returned (.int .i64 (idxOf p l)) ∧ Below w.heap.size w w' := by
 have hm : l.length ≤ 9223372036854775807 := hr.2.1
 have HR := Aq.mk hr
 have HP := Aq.mk hp
 clear hr hp
 go_enter Tryz.func156, Tryz.ntmps156
 go_wp2
 go_loopg [5, 8] l.length (fun gg _ s8 wr => ∃ kk : Nat, kk ≤ l.length ∧ l.length - kk ≤ gg ∧ s8 = .int .i64 kk ∧ Aq (Below w.heap.size w wr) ∧ Aq (idxOf p l = shifted kk (idxOf p (l.drop kk))))
 case atStart => exact ⟨0, Nat.zero_le _, by omega, rfl, ⟨Below.refl _ w⟩, ⟨shifted_start p l⟩⟩
 case round =>
  obtain ⟨kk, hkk, hg, rfl, BW, A0⟩ := hrel
  by_cases hlt : kk < l.length
  ·have hltz : (kk : Int) < (l.length : Int) := by omega
   have h0 : (0 : Int) ≤ (kk : Int) := by omega
   obtain ⟨ad, e_, hx0, hx1⟩ := at_T69 HR.out (kk : Int) h0 hltz
   cases e_
   obtain ⟨HX, HD⟩ := rdT69_drop l kk hlt
   generalize rd_T69 l (kk : Int) = X at hx0 hx1 HX HD
   replace hx0 := (BW.out.cell (World.block_lt_of_cell? w _ hx0)).trans hx0
   replace hx1 := (BW.out.cell (World.block_lt_of_cell? w _ hx1)).trans hx1
   simp only [Int.toNat_natCast] at hx0 hx1
   have hcall := HP.out wr X (by exact HX) BW.out
   have hd : l.drop kk = X :: l.drop (kk + 1) := HD
   cases hq : p X with
   | true =>
    rw [hq] at hcall
    have HF : Aq (idxOf p l = kk) := ⟨by rw [A0.out, hd, idxOf_yes hq]; simp [shifted]⟩
    clear hd A0 HX HD
    go_wp2_with (go_at_fn g; refine hcall.mono ?_; rintro e w' ⟨rfl, hb'⟩)
    go_ret
    exact ⟨by rw [HF.out]; rfl, hb'⟩
   | false =>
    rw [hq] at hcall
    have HF : Aq (idxOf p l = shifted (kk + 1) (idxOf p (l.drop (kk + 1)))) := ⟨by rw [A0.out, hd, idxOf_no hq, shifted_shifted]⟩
    clear hd A0 HX HD
    go_wp2_with (go_at_fn g; refine hcall.mono ?_; rintro e w' ⟨rfl, hb'⟩)
    go_roundg (l.length - (kk + 1))
    case measure => omega
    case rel => exact ⟨kk + 1, by omega, by omega, by go_num, ⟨hb'⟩, HF⟩
  ·have hltz : ¬ (kk : Int) < (l.length : Int) := by omega
   have HF : Aq (idxOf p l = -1) := ⟨by rw [A0.out, List.drop_eq_nil_of_le (by omega)]; rfl⟩
   clear A0
   go_wp2
   go_ret
   exact ⟨by rw [HF.out]; rfl, BW.out⟩
theorem contains_Share (g : Nat) (lb : Array Value) (p : S69 → Bool) (A : Option Addr) (c : Nat) (l : List S69) (w : World)
  (eg : ∀ args w, (callFunc g args).run Tryz.prog w = .ok (.enter g args) w)
  (hp : ∀ (W : World) (x : S69), x ∈ l → Below w.heap.size w W → Calls Tryz.prog g (#[.agg #[.int .i64 x.f0, .int .i64 x.f1]] ++ lb) W fun e W' => e = .returned (.bool (p x)) ∧ Below w.heap.size w W')
  (hr : Kd.C k69 w A l.length l) :
  Calls Tryz.prog 123 #[.slice A l.length c, .func (.func g) #[] lb] w fun e w' => e = .returned (.bool (l.any p)) ∧ Below w.heap.size w w' := by
 have HI := Aq.mk (index_Share g lb p A c l w eg hp hr)
 have HA := Aq.mk (idxOf_any p l)
 clear hp hr eg
 generalize idxOf p l = n at HI HA
 generalize l.any p = b at HA
 go_enter Tryz.func123, Tryz.ntmps123
 go_wp2_with (go_at_call 156; refine HI.out.mono ?_; rintro e w' ⟨rfl, hb'⟩)
 go_ret
 exact ⟨by rw [HA.out]; rfl, hb'⟩
end
section
open Go.Shelf
open Go.Maps Go.Proofs
def shareB (x : S69) : Bool := !inB x.f0 0 40 || !inB x.f1 (-1000000000) 1000000000
def mergeS (l : List S69) : Int := if 1000 < l.length then 2 else if l.any shareB then 1 else 0
def award_mergeable.f (l0 : List S69) : Option Int := some (mergeS l0)
theorem share_any (X : S69) (W : World) : Calls Tryz.prog 124 #[.agg #[.int .i64 X.f0, .int .i64 X.f1]] W fun e W' => e = .returned (.bool (shareB X)) ∧ Below W.heap.size W W' := by
 have h0 := fun w => in_any X.f0 0 40 w
 have h1 := fun w => in_any X.f1 (-1000000000) 1000000000 w
 unfold shareB
 cases hi : inB X.f0 0 40 with
 | true =>
  simp only [hi] at h0
  generalize inB X.f1 (-1000000000) 1000000000 = q at h1
  go_enter Tryz.func124, Tryz.ntmps124
  go_wp2_with (first | (go_at_call 66; with_reducible refine (h0 _).mono ?_; rintro e w' ⟨rfl, rfl⟩) | (go_at_call 66; with_reducible refine (h1 _).mono ?_; rintro e w' ⟨rfl, rfl⟩))
  go_ret
  exact ⟨by simp, bA_ (Below.refl _ _) _⟩
 | false =>
  simp only [hi] at h0
  clear h1
  go_enter Tryz.func124, Tryz.ntmps124
  go_wp2_with (first | (go_at_call 66; with_reducible refine (h0 _).mono ?_; rintro e w' ⟨rfl, rfl⟩))
  go_ret
  exact ⟨by simp, bA_ (Below.refl _ _) _⟩
theorem mergeable_any (A0 : Option Addr) (c0 : Nat) (l0 : List S69) (w : World) (hr0 : Kd.C k69 w A0 l0.length l0) :
  Calls Tryz.prog 82 #[.slice A0 l0.length c0] w fun e w' => e = .returned (.int .i64 (mergeS l0)) ∧ Below w.heap.size w w' := by
 have hm : l0.length ≤ 9223372036854775807 := hr0.2.1
 have hC := Aq.mk (contains_Share 124 #[] shareB A0 c0 l0 w (enters_of Tryz.func124 (by kernel_rfl) rfl) (fun W2 x _ hb2 => (share_any x W2).mono fun e W' ⟨he, hw⟩ => ⟨he, bS_ hb2 hw⟩) hr0)
 clear hr0
 unfold mergeS
 generalize l0.any shareB = q at hC
 by_cases hl : 1000 < l0.length
 ·have hlz : (1000 : Int) < (l0.length : Int) := by omega
  rw [if_pos hl]
  clear hC hl
  go_enter Tryz.func82, Tryz.ntmps82
  go_wp2
  go_ret
  exact ⟨rfl, Below.refl _ _⟩
 ·have hlz : ¬ (1000 : Int) < (l0.length : Int) := by omega
  rw [if_neg hl]
  clear hl
  cases q with
  | true =>
   go_enter Tryz.func82, Tryz.ntmps82
   go_wp2_with (first | (go_at_call 123; refine hC.out.mono ?_; rintro e w' ⟨rfl, hb⟩))
   go_ret
   exact ⟨rfl, hb⟩
  | false =>
   go_enter Tryz.func82, Tryz.ntmps82
   go_wp2_with (first | (go_at_call 123; refine hC.out.mono ?_; rintro e w' ⟨rfl, hb⟩))
   go_ret
   exact ⟨rfl, hb⟩
theorem award_mergeable.calls (A0 : Option Addr) (c0 : Nat) (l0 : List S69) (r : Int) (w : World) (hr0 : Kd.C k69 w A0 l0.length l0) (hc0 : l0.length ≤ c0) (h : award_mergeable.f l0 = some r) :
  Calls Tryz.prog 82 #[.slice A0 l0.length c0] w fun e w' => e = .returned (.int .i64 r) ∧ Below w.heap.size w w' := by
 obtain rfl := Option.some.inj h
 exact mergeable_any A0 c0 l0 w hr0
theorem sumsF_in (sg : Int) : ∀ (l : List S69) (s : Int → Int), (∀ x ∈ l, inB x.f0 0 40 = true) → (∀ p, s p ≠ 0 → 0 ≤ p ∧ p ≤ 40) → ∀ p, sumsF sg l s p ≠ 0 → 0 ≤ p ∧ p ≤ 40
 | [], s, _, hs => hs
 | x :: l, s, hl, hs => by
  refine sumsF_in sg l (stepS sg s x) (fun y hy => hl y (List.mem_cons_of_mem _ hy)) (fun p hp => ?_)
  unfold stepS at hp
  by_cases e : p = x.f0
  ·subst e
   have := inB_iff.1 (hl x (by simp))
   omega
  ·rw [if_neg e] at hp
   exact hs p hp
theorem wf_in {l : List S69} (h : ∀ x ∈ l, inB x.f0 0 40 = true) : ∀ x ∈ l, (Lit.int .i64 x.f0).wf = true := fun x hx => by
 have := inB_iff.1 (h x hx)
 exact wf_small (by omega) (by omega)
def mergedOk (l : List S69) : Bool := decide (l.length ≤ 100000) && l.all fun x => inB x.f0 0 40
def mergedL (l : List S69) : List S69 := listF (sumsF 1 l fun _ => 0)
def award_merged.f (l0 : List S69) : Option (List S69) := if mergedOk l0 then some (mergedL l0) else none
theorem award_merged.calls (A0 : Option Addr) (c0 : Nat) (l0 : List S69) (r : List S69) (w : World) (hr0 : Kd.C k69 w A0 l0.length l0) (hc0 : l0.length ≤ c0) (h : award_merged.f l0 = some r) :
  Calls Tryz.prog 78 #[.slice A0 l0.length c0] w fun e w' => ∃ v0_ : Value, e = .returned v0_ ∧ Kd.R k69 69 w' w.heap.size (fun _ => True) v0_ r ∧ Below w.heap.size w w' := by
 unfold award_merged.f at h
 by_cases hok : mergedOk l0 = true
 ·rw [if_pos hok] at h
  obtain rfl := Option.some.inj h
  unfold mergedOk at hok
  rw [Bool.and_eq_true, decide_eq_true_eq, List.all_eq_true] at hok
  have hS := Aq.mk (sums_any w A0 c0 l0 1 hr0 (w.alloc (.map #[] 0)) (bA_ (Below.refl _ _) _) w.heap.size 0 (.map []) (fun _ => 0) (Nat.le_refl _) (World.ownsMap_made _ _ _ _) repM_nil (wf_in hok.2) (by omega))
  have hL := Aq.mk (fun (W : World) (hB : Below w.heap.size w W) (D : MD) (hown : W.ownsMap Tryz.prog 3 (plainElem Tryz.prog 3) w.heap.size (0 + l0.length) D) (hrep : RepM D (sumsF 1 l0 fun _ => 0)) =>
   listed_any w W hB w.heap.size (0 + l0.length) D _ hown hrep (sumsF_in 1 l0 _ hok.2 (fun p hp => absurd rfl hp)) (by omega))
  clear hr0 hok
  have hmm := @run_makeMap Tryz.prog
  go_enter Tryz.func78, Tryz.ntmps78
  go_wp2_with (first | (go_at_call 84; refine hS.out.mono ?_; rintro e w1 ⟨rfl, hb, D, hown, hrep⟩; have HL := Aq.mk (hL.out w1 hb D hown hrep); clear hb hown hrep hS hL) | (go_at_call 83; refine HL.out.mono ?_; rintro e w2 ⟨v, rfl, hR, hb⟩))
  go_ret
  exact ⟨_, rfl, hR, hb⟩
 ·rw [if_neg hok] at h
  exact absurd h (by simp)
theorem mergeS_ok {l : List S69} (h : mergeS l = 0) : l.length ≤ 1000 ∧ ∀ x ∈ l, inB x.f0 0 40 = true := by
 unfold mergeS at h
 by_cases h1 : 1000 < l.length
 ·rw [if_pos h1] at h; exact absurd h (by decide)
 ·rw [if_neg h1] at h
  by_cases h2 : l.any shareB = true
  ·rw [if_pos h2] at h; exact absurd h (by decide)
  ·refine ⟨by omega, fun x hx => ?_⟩
   rw [Bool.not_eq_true, List.any_eq_false] at h2
   have := h2 x hx
   unfold shareB at this
   cases hi : inB x.f0 0 40 with
   | true => rfl
   | false => rw [hi] at this; exact absurd rfl this
def changeL (a b : List S69) : List S69 := listF (sumsF 1 b (sumsF (-1) a fun _ => 0))
def award_Change.f (l0 l1 : List S69) : Option (List S69 × Int) := some (if mergeS l0 ≠ 0 then ([], mergeS l0) else if mergeS l1 ≠ 0 then ([], mergeS l1) else (changeL l0 l1, 0))
set_option maxRecDepth 100000 in
set_option maxHeartbeats 4000000 in
theorem change_any (A0 : Option Addr) (c0 : Nat) (l0 : List S69) (A1 : Option Addr) (c1 : Nat) (l1 : List S69) (w : World) (hr0 : Kd.C k69 w A0 l0.length l0) (hr1 : Kd.C k69 w A1 l1.length l1) (r : List S69 × Int)
  (hr : r = if mergeS l0 ≠ 0 then ([], mergeS l0) else if mergeS l1 ≠ 0 then ([], mergeS l1) else (changeL l0 l1, 0)) :
  Calls Tryz.prog 42 #[.slice A0 l0.length c0, .slice A1 l1.length c1] w fun e w' => ∃ v0_ : Value, e = .returned (.tuple #[v0_, .int .i64 r.2]) ∧ Kd.R k69 69 w' w.heap.size (fun _ => True) v0_ r.1 ∧ Below w.heap.size w w' := by
 have hM0 := Aq.mk (fun W (hb : Below w.heap.size w W) => mergeable_any A0 c0 l0 W (Kd.C_below hr0 hb))
 have hM1 := Aq.mk (fun W (hb : Below w.heap.size w W) => mergeable_any A1 c1 l1 W (Kd.C_below hr1 hb))
 have hS := Aq.mk (fun (h0 : mergeS l0 = 0) (h1 : mergeS l1 = 0) (W : World) (hb : Below w.heap.size w W) => sums_any w A0 c0 l0 (-1) hr0 (W.alloc (.map #[] 0)) (bA_ hb _) W.heap.size 0 (.map []) (fun _ => 0) hb.size (World.ownsMap_made _ _ _ _) repM_nil (wf_in (mergeS_ok h0).2) (by have := (mergeS_ok h0).1; omega))
 have hT := Aq.mk (fun (h0 : mergeS l0 = 0) (h1 : mergeS l1 = 0) (W : World) (hb : Below w.heap.size w W) (b : Nat) (hbb : w.heap.size ≤ b) (D : MD) (hown : W.ownsMap Tryz.prog 3 (plainElem Tryz.prog 3) b (0 + l0.length) D) (hrep : RepM D (sumsF (-1) l0 fun _ => 0)) => sums_any w A1 c1 l1 1 hr1 W hb b _ D _ hbb hown hrep (wf_in (mergeS_ok h1).2) (by have := (mergeS_ok h0).1; have := (mergeS_ok h1).1; omega))
 have hL := Aq.mk (fun (h0 : mergeS l0 = 0) (h1 : mergeS l1 = 0) (W : World) (hB : Below w.heap.size w W) (b : Nat) (D : MD) (hown : W.ownsMap Tryz.prog 3 (plainElem Tryz.prog 3) b (0 + l0.length + l1.length) D) (hrep : RepM D (sumsF 1 l1 (sumsF (-1) l0 fun _ => 0))) =>
  listed_any w W hB b _ D _ hown hrep (sumsF_in 1 l1 _ (mergeS_ok h1).2 (sumsF_in (-1) l0 _ (mergeS_ok h0).2 (fun p hp => absurd rfl hp))) (by have := (mergeS_ok h0).1; have := (mergeS_ok h1).1; omega))
 have HR := Aq.mk hr
 clear hr0 hr1 hr
 have hmm := @run_makeMap Tryz.prog
 go_enter Tryz.func42, Tryz.ntmps42
 go_wp2
 go_loopg [13] 2 (fun gg s13 wr => ∃ kk : Nat, kk ≤ 2 ∧ 2 - kk ≤ gg ∧ s13 = .int .i64 kk ∧ Aq (Below w.heap.size w wr) ∧ Aq (wr.heap[w.heap.size]? = some (.cells #[.slice A0 l0.length c0, .slice A1 l1.length c1] 45 (0, 0))) ∧ Aq (1 ≤ kk → mergeS l0 = 0) ∧ Aq (2 ≤ kk → mergeS l1 = 0))
 case atStart => exact ⟨0, by omega, by omega, rfl, ⟨bA_ (Below.refl _ _) _⟩, ⟨heap_alloc_new w _⟩, ⟨fun h => absurd h (by omega)⟩, ⟨fun h => absurd h (by omega)⟩⟩
 case round =>
  obtain ⟨kk, hkk, hg, rfl, HB, HX, HQ0, HQ1⟩ := hrel
  rcases (by omega : kk = 0 ∨ kk = 1 ∨ kk = 2) with rfl | rfl | rfl
  ·skip
   have hs0 : wr.cell? ⟨w.heap.size, 0, none⟩ = some (.slice A0 l0.length c0) := (bC_ HX.out 0).trans rfl
   have hs1 : wr.cell? ⟨w.heap.size, 1, none⟩ = some (.slice A1 l1.length c1) := (bC_ HX.out 1).trans rfl
   have CA := Aq.mk (hM0.out wr HB.out)
   by_cases he : mergeS l0 = 0
   ·have hb1 : (mergeS l0 != 0) = false := bne_eq_false_iff_eq.mpr he
    have HE : Aq (mergeS l0 = 0) := ⟨he⟩
    clear he
    generalize mergeS l0 = q at CA hb1
    go_wp2_with (first | (go_at_call 82; go_must (with_reducible refine CA.out.mono ?_; rintro e w2 ⟨rfl, hb⟩; replace HB := Aq.mk (bS_ HB.out hb); replace HX := Aq.mk (bB_ HX.out hb); clear hb hs0 hs1)))
    go_roundg 1
    case measure => omega
    case rel => exact ⟨1, by omega, by omega, by go_num, HB, HX, ⟨fun _ => HE.out⟩, ⟨fun h => absurd h (by omega)⟩⟩
   ·have hb1 : (mergeS l0 != 0) = true := bne_iff_ne.mpr he
    have HE : Aq (r = ([], mergeS l0)) := ⟨by rw [HR.out, if_pos he]⟩
    clear he
    generalize mergeS l0 = q at CA hb1 HE
    go_wp2_with (first | (go_at_call 82; go_must (with_reducible refine CA.out.mono ?_; rintro e w2 ⟨rfl, hb⟩; replace HB := Aq.mk (bS_ HB.out hb); clear HX hb hs0 hs1)))
    go_ret2
    exact ⟨_, by rw [HE.out]; rfl, by rw [HE.out]; exact Kd.R_nil _ _ _ _ _, HB.out⟩
  ·skip
   have hs0 : wr.cell? ⟨w.heap.size, 0, none⟩ = some (.slice A0 l0.length c0) := (bC_ HX.out 0).trans rfl
   have hs1 : wr.cell? ⟨w.heap.size, 1, none⟩ = some (.slice A1 l1.length c1) := (bC_ HX.out 1).trans rfl
   have CA := Aq.mk (hM1.out wr HB.out)
   by_cases he : mergeS l1 = 0
   ·have hb1 : (mergeS l1 != 0) = false := bne_eq_false_iff_eq.mpr he
    have HE : Aq (mergeS l1 = 0) := ⟨he⟩
    clear he
    generalize mergeS l1 = q at CA hb1
    go_wp2_with (first | (go_at_call 82; go_must (with_reducible refine CA.out.mono ?_; rintro e w2 ⟨rfl, hb⟩; replace HB := Aq.mk (bS_ HB.out hb); replace HX := Aq.mk (bB_ HX.out hb); clear hb hs0 hs1)))
    go_roundg 0
    case measure => omega
    case rel => exact ⟨2, by omega, by omega, by go_num, HB, HX, ⟨fun _ => HQ0.out (by omega)⟩, ⟨fun h => HE.out⟩⟩
   ·have hb1 : (mergeS l1 != 0) = true := bne_iff_ne.mpr he
    have HE : Aq (r = ([], mergeS l1)) := ⟨by rw [HR.out, if_neg (by simp [HQ0.out (by omega)]), if_pos he]⟩
    clear he
    generalize mergeS l1 = q at CA hb1 HE
    go_wp2_with (first | (go_at_call 82; go_must (with_reducible refine CA.out.mono ?_; rintro e w2 ⟨rfl, hb⟩; replace HB := Aq.mk (bS_ HB.out hb); clear HX hb hs0 hs1)))
    go_ret2
    exact ⟨_, by rw [HE.out]; rfl, by rw [HE.out]; exact Kd.R_nil _ _ _ _ _, HB.out⟩
  ·have h0 := HQ0.out (by omega)
   have h1 := HQ1.out (by omega)
   have HE : Aq (r = (changeL l0 l1, 0)) := ⟨by rw [HR.out, if_neg (by simp [h0]), if_neg (by simp [h1])]⟩
   have CA := Aq.mk (hS.out h0 h1 wr HB.out)
   have CT := Aq.mk (hT.out h0 h1)
   have CL := Aq.mk (hL.out h0 h1)
   clear h0 h1 HX HQ0 HQ1
   go_wp2_with (first | (go_at_call 84; with_reducible refine CA.out.mono ?_; rintro e w2 ⟨rfl, hb, D, hown, hrep⟩; have CB := Aq.mk (CT.out w2 hb _ HB.out.size D hown hrep); clear hb hown hrep CT CA) | (go_at_call 84; with_reducible refine CB.out.mono ?_; rintro e w3 ⟨rfl, hb, D2, hown, hrep⟩; have CC := Aq.mk (CL.out w3 hb _ D2 hown hrep); clear hb hown hrep CB CL) | (go_at_call 83; with_reducible refine CC.out.mono ?_; rintro e w4 ⟨v, rfl, hR, hb⟩))
   go_ret2
   exact ⟨v, by rw [HE.out]; rfl, by rw [HE.out]; exact hR, hb⟩
theorem award_Change.calls (A0 : Option Addr) (c0 : Nat) (l0 : List S69) (A1 : Option Addr) (c1 : Nat) (l1 : List S69) (r1 : List S69) (r2 : Int) (w : World) (hr0 : Kd.C k69 w A0 l0.length l0) (hc0 : l0.length ≤ c0) (hr1 : Kd.C k69 w A1 l1.length l1) (hc1 : l1.length ≤ c1) (h : award_Change.f l0 l1 = some (r1, r2)) :
  Calls Tryz.prog 42 #[.slice A0 l0.length c0, .slice A1 l1.length c1] w fun e w' => ∃ v0_ : Value, e = .returned (.tuple #[v0_, .int .i64 r2]) ∧ Kd.R k69 69 w' w.heap.size (fun _ => True) v0_ r1 ∧ Below w.heap.size w w' :=
 change_any A0 c0 l0 A1 c1 l1 w hr0 hr1 (r1, r2) (Option.some.inj h).symm
end
section
open Go.Shelf
def potV (p c s f r : Int) (R : S26) (S : S39) (fv sv : Value) : Array Value := #[.int .i64 p, .int .i64 c, .int .i64 s, .int .i64 f, .int .i64 r, .slice none 0 0, .int .i64 R.f0, .int .i64 R.f1, .int .i64 R.f2, .string R.f3, .int .i64 R.f4.f0, .int .i64 R.f4.f1, .int .i64 R.f5, .int .i64 R.f6, .int .i64 R.f7, .int .i64 S.f0, .int .i64 S.f1, .int .i64 S.f2, .int .i64 S.f3, .int .i64 S.f4, .int .i64 S.f5, .int .i64 S.f6, .int .i64 S.f7, .int .i64 S.f8, fv, sv]
def Pot (w0 : World) (g : Nat) (p c s f r : Int) (R : S26) (S : S39) (fv : Value) (L : List S69) (W : World) : Prop :=
 ∃ sv, W.heap[g]? = some (.cells (potV p c s f r R S fv sv) 104 (0, 0)) ∧ Kd.R k69 69 W w0.heap.size (fun k => k ≠ g) sv L ∧ Below w0.heap.size w0 W ∧ w0.heap.size ≤ g
section
variable {w0 W w1 : World} {g : Nat} {p c s f r : Int} {R : S26} {S : S39} {fv : Value} {L : List S69}
theorem Pot.below (h : Pot w0 g p c s f r R S fv L W) (hb : Below W.heap.size W w1) : Pot w0 g p c s f r R S fv L w1 := by
 obtain ⟨sv, h1, h2, h3, h4⟩ := h
 exact ⟨sv, bB_ h1 hb, Kd.R_below h2 hb, bS_ h3 hb, h4⟩
theorem Pot.set {j : Nat} {p' c' s' f' r' : Int} {v : Value} (h : Pot w0 g p c s f r R S fv L W) (hv : ∀ sv, (potV p c s f r R S fv sv).setIfInBounds j v = potV p' c' s' f' r' R S fv sv) : Pot w0 g p' c' s' f' r' R S fv L (W.setCell ⟨g, j, none⟩ v) := by
 obtain ⟨sv, h1, h2, h3, h4⟩ := h
 exact ⟨sv, by have z := bP_ h1 j v rfl; rw [hv] at z; exact z, Kd.R_far (p := ⟨g, j, none⟩) h2 (fun k hk => hk) _, bT_ h3 h4, h4⟩
theorem Pot.cells (h : Pot w0 g p c s f r R S fv L W) : ∃ sv, W.heap[g]? = some (.cells #[.int .i64 p, .int .i64 c, .int .i64 s, .int .i64 f, .int .i64 r, .slice none 0 0, .int .i64 R.f0, .int .i64 R.f1, .int .i64 R.f2, .string R.f3, .int .i64 R.f4.f0, .int .i64 R.f4.f1, .int .i64 R.f5, .int .i64 R.f6, .int .i64 R.f7, .int .i64 S.f0, .int .i64 S.f1, .int .i64 S.f2, .int .i64 S.f3, .int .i64 S.f4, .int .i64 S.f5, .int .i64 S.f6, .int .i64 S.f7, .int .i64 S.f8, fv, sv] 104 (0, 0)) := by
 obtain ⟨sv, h1, _⟩ := h
 exact ⟨sv, h1⟩
end
theorem slice_any {α : Type} {d : Kd α} {e : Nat} {W : World} {base : Nat} {ok : Nat → Prop} {v : Value} {xs : List α} (h : Kd.R d e W base ok v xs) : ∃ A n c, v = .slice A n c := by
 obtain ⟨A, c, e⟩ := Kd.R_slice h
 exact ⟨A, _, c, e⟩
attribute [local go_sem] max2_int min2_int max_two min_two
set_option maxRecDepth 100000 in
set_option maxHeartbeats 1000000 in
theorem takes_any (w0 W : World) (g : Nat) (p c s f r : Int) (R : S26) (S : S39) (fv : Value) (L : List S69) (n : Int) (h : Pot w0 g p c s f r R S fv L W) (hw : IntKind.i64.wrap (r - mn n r) = r - mn n r) :
  Calls Tryz.prog 121 #[.pointer (some ⟨g, 0, none⟩), .int .i64 n] W fun e w' => e = .returned (.int .i64 (mn n r)) ∧ Pot w0 g p c s f (r - mn n r) R S fv L w' := by
 obtain ⟨sv, hX⟩ := h.cells
 have k4 : W.cell? ⟨g, 4, none⟩ = some (.int .i64 r) := (bC_ hX 4).trans rfl
 have q4 := bR_ hX 4
 have HP := Aq.mk h
 clear hX h
 unfold mn at hw ⊢
 by_cases hlt : r < n
 ·rw [if_pos hlt] at hw ⊢
  have HW : Aq (IntKind.i64.wrap (r - r) = r - r) := ⟨hw⟩
  have e0 : r - r = 0 := by omega
  clear hw
  go_enter Tryz.func121, Tryz.ntmps121
  go_wp2
  go_ret
  exact ⟨rfl, by have z := HP.out.set (j := 4) (v := .int .i64 0) (p' := p) (c' := c) (s' := s) (f' := f) (r' := 0) (fun sv => rfl); rw [e0]; exact z⟩
 ·rw [if_neg hlt] at hw ⊢
  go_enter Tryz.func121, Tryz.ntmps121
  go_wp2
  go_ret
  exact ⟨rfl, by have z := HP.out.set (j := 4) (v := .int .i64 (r - n)) (p' := p) (c' := c) (s' := s) (f' := f) (r' := r - n) (fun sv => rfl); exact z⟩
set_option maxRecDepth 100000 in
set_option maxHeartbeats 1000000 in
theorem gives_any (w0 W : World) (g : Nat) (p c s f r : Int) (R : S26) (S : S39) (fv : Value) (L : List S69) (party pence : Int) (h : Pot w0 g p c s f r R S fv L W) (hl : L.length ≤ 100000) :
  Calls Tryz.prog 122 #[.pointer (some ⟨g, 0, none⟩), .int .i64 party, .int .i64 pence] W fun e w' => e = .returned (.tuple #[]) ∧ Pot w0 g p c s f r R S fv (L ++ [⟨party, pence⟩]) w' ∧ ∀ (k : Nat) (cs : Array Value), k ≠ g → W.heap[k]? = some (.cells cs 3 (0, 0)) → w'.heap[k]? = some (.cells cs 3 (0, 0)) := by
 obtain ⟨sv, h1, h2, h3, h4⟩ := h
 have hX : W.heap[g]? = some (.cells #[.int .i64 p, .int .i64 c, .int .i64 s, .int .i64 f, .int .i64 r, .slice none 0 0, .int .i64 R.f0, .int .i64 R.f1, .int .i64 R.f2, .string R.f3, .int .i64 R.f4.f0, .int .i64 R.f4.f1, .int .i64 R.f5, .int .i64 R.f6, .int .i64 R.f7, .int .i64 S.f0, .int .i64 S.f1, .int .i64 S.f2, .int .i64 S.f3, .int .i64 S.f4, .int .i64 S.f5, .int .i64 S.f6, .int .i64 S.f7, .int .i64 S.f8, fv, sv] 104 (0, 0)) := h1
 have k25 : W.cell? ⟨g, 25, none⟩ = some sv := (bC_ hX 25).trans rfl
 have HX := Aq.mk h1
 have HO := Aq.mk h2
 have HB := Aq.mk h3
 have HG := Aq.mk h4
 have HNE : Aq (∀ k, sv.ownBlock = some k → k ≠ g) := ⟨h2.1⟩
 have HTy : Aq (∀ (k : Nat) (cs : Array Value), W.heap[k]? = some (.cells cs 3 (0, 0)) → sv.ownBlock ≠ some k) := ⟨fun k cs hk e => ((Kd.R_types h2 hk (by decide)).1 k e).2 rfl⟩
 have hgl : g < W.heap.size := (Array.getElem?_eq_some_iff.1 h1).1
 clear hX h1 h2 h3 h4
 go_enter Tryz.func122, Tryz.ntmps122
 go_wp2_with (first
  | ((with_reducible refine gate_builtin (b := .append) (xs := #[.tmp 10, .tmp 14]) rfl ?_); at_builtin; go_must (refine Kd.R_append k69 (w0 := w0) w0.heap.size rfl (.tmp 10) (.tmp 14) 45 69 (.agg #[(.int .i64 0), (.int .i64 0)]) 16 rfl Tryz.underlying45 info69 rfl (by decide) (by omega) sv L (⟨party, pence⟩ : S69) [.int .i64 party, .int .i64 pence] (fun k => k ≠ g) (fun _ => False) rfl (by first | (go_simp; done) | (go_simp; rfl)) ?aP (fun _ hk => hk.elim) ?aF HO.out HB.out HB.out.size ?aL ?_; (case aP => exact k69_mkM _ _ _ (⟨party, pence⟩ : S69)); (case aF => exact (fun k hk e => by subst e; omega)); (case aL => omega); intro v4 w4 ho hb hg2 hat; have HX4 := Aq.mk ((hg2.block g hgl (fun e => HNE.out _ e.symm rfl)).trans HX.out); have HO4 := Aq.mk ho; have HB4 := Aq.mk hb; have HTk : Aq (∀ (k : Nat) (cs : Array Value), W.heap[k]? = some (.cells cs 3 (0, 0)) → w4.heap[k]? = some (.cells cs 3 (0, 0))) := ⟨fun k cs hk => (hg2.block k (Array.getElem?_eq_some_iff.1 hk).1 (fun e => HTy.out k cs hk e.symm)).trans hk⟩; have q25 := bR_ HX4.out 25; have k26 : w4.cell? ⟨g, 25, none⟩ = some sv := (bC_ (show w4.heap[g]? = some (.cells #[.int .i64 p, .int .i64 c, .int .i64 s, .int .i64 f, .int .i64 r, .slice none 0 0, .int .i64 R.f0, .int .i64 R.f1, .int .i64 R.f2, .string R.f3, .int .i64 R.f4.f0, .int .i64 R.f4.f1, .int .i64 R.f5, .int .i64 R.f6, .int .i64 R.f7, .int .i64 S.f0, .int .i64 S.f1, .int .i64 S.f2, .int .i64 S.f3, .int .i64 S.f4, .int .i64 S.f5, .int .i64 S.f6, .int .i64 S.f7, .int .i64 S.f8, fv, sv] 104 (0, 0)) from HX4.out) 25).trans rfl; obtain ⟨A4, n4, c4, e4⟩ := slice_any HO4.out; subst e4; clear ho hb hg2 hat HO HB)))
 go_end0
 exact ⟨rfl, ⟨.slice A4 n4 c4, bP_ HX4.out 25 (.slice A4 n4 c4) rfl, Kd.R_far (p := ⟨g, 25, none⟩) HO4.out (fun k hk => hk) (.slice A4 n4 c4), bT_ HB4.out HG.out, HG.out⟩, fun k cs hne hk => bF_ (p := ⟨g, 25, none⟩) (HTk.out k cs hk) hne _⟩
set_option maxRecDepth 100000 in
set_option maxHeartbeats 4000000 in
theorem carting_any (w0 W : World) (g : Nat) (p c s f r : Int) (R : S26) (S : S39) (fv : Value) (L : List S69) (h : Pot w0 g p c s f r R S fv L W) (hl : L.length ≤ 100000) (k : Nat) (ca st : Int) (hF : award_Fees.f k R.f0 R.f1 R.f2 R.f3 R.f4.f0 R.f4.f1 R.f5 R.f6 R.f7 S.f0 S.f1 S.f2 S.f3 S.f4 S.f5 S.f6 S.f7 S.f8 = some (ca, st, 0)) (hw : IntKind.i64.wrap (r - mn ca r) = r - mn ca r) :
  Calls Tryz.prog 75 #[.pointer (some ⟨g, 0, none⟩)] W fun e w' => e = .returned (.tuple #[]) ∧ Pot w0 g p (mn ca r) s f (r - mn ca r) R S fv (L ++ [⟨S.f5, mn ca r⟩]) w' := by
 obtain ⟨sv, hX⟩ := h.cells
 have HP : Aq (Pot w0 g p c s f r R S fv L W.drew) := ⟨h.below (Below.drew (Below.refl _ _))⟩
 have HF := Aq.mk hF
 have HL := Aq.mk hl
 have HW := Aq.mk hw
 clear h hF hl hw
 go_enter Tryz.func75, Tryz.ntmps75
 go_wp2
 refine stT 16 (fun w' => w'.cell? ⟨g, 6, none⟩ = some (.int .i64 R.f0) ∧ w'.cell? ⟨g, 7, none⟩ = some (.int .i64 R.f1) ∧ w'.cell? ⟨g, 8, none⟩ = some (.int .i64 R.f2) ∧ w'.cell? ⟨g, 9, none⟩ = some (.string R.f3) ∧ w'.cell? ⟨g, 10, none⟩ = some (.int .i64 R.f4.f0) ∧ w'.cell? ⟨g, 11, none⟩ = some (.int .i64 R.f4.f1) ∧ w'.cell? ⟨g, 12, none⟩ = some (.int .i64 R.f5) ∧ w'.cell? ⟨g, 13, none⟩ = some (.int .i64 R.f6) ∧ w'.cell? ⟨g, 14, none⟩ = some (.int .i64 R.f7) ∧ w'.cell? ⟨g, 15, none⟩ = some (.int .i64 S.f0) ∧ w'.cell? ⟨g, 16, none⟩ = some (.int .i64 S.f1) ∧ w'.cell? ⟨g, 17, none⟩ = some (.int .i64 S.f2) ∧ w'.cell? ⟨g, 18, none⟩ = some (.int .i64 S.f3) ∧ w'.cell? ⟨g, 19, none⟩ = some (.int .i64 S.f4) ∧ w'.cell? ⟨g, 20, none⟩ = some (.int .i64 S.f5) ∧ w'.cell? ⟨g, 21, none⟩ = some (.int .i64 S.f6) ∧ w'.cell? ⟨g, 22, none⟩ = some (.int .i64 S.f7) ∧ w'.cell? ⟨g, 23, none⟩ = some (.int .i64 S.f8)) ⟨(bC_ (bD_ hX) 6).trans rfl, (bC_ (bD_ hX) 7).trans rfl, (bC_ (bD_ hX) 8).trans rfl, (bC_ (bD_ hX) 9).trans rfl, (bC_ (bD_ hX) 10).trans rfl, (bC_ (bD_ hX) 11).trans rfl, (bC_ (bD_ hX) 12).trans rfl, (bC_ (bD_ hX) 13).trans rfl, (bC_ (bD_ hX) 14).trans rfl, (bC_ (bD_ hX) 15).trans rfl, (bC_ (bD_ hX) 16).trans rfl, (bC_ (bD_ hX) 17).trans rfl, (bC_ (bD_ hX) 18).trans rfl, (bC_ (bD_ hX) 19).trans rfl, (bC_ (bD_ hX) 20).trans rfl, (bC_ (bD_ hX) 21).trans rfl, (bC_ (bD_ hX) 22).trans rfl, (bC_ (bD_ hX) 23).trans rfl⟩ (fun hHeld => ?_)
 clear hX
 generalize W.drew = w1 at HP hHeld ⊢
 refine pI 0 6 ?_
 refine pI 1 7 ?_
 refine pI 2 8 ?_
 refine pI 4 10 ?_
 refine pI 5 11 ?_
 refine pI 6 12 ?_
 refine tI 3 9 hHeld ?_
 refine tI 7 13 hHeld ?_
 refine one_ (i := 8) (N := some 14) #[true, true, true, true, true, true, true, true, true, false, false, false, false, false, false, false] rfl rfl (by kernel_rfl) (by decide) (fun K hK => ?_)
 refine goes_ Tryz.func24 (by kernel_rfl) rfl #[.agg #[.int .i64 R.f0, .int .i64 R.f1, .int .i64 R.f2, .string R.f3, .int .i64 R.f4.f0, .int .i64 R.f4.f1, .int .i64 R.f5, .int .i64 R.f6, .int .i64 R.f7], .agg #[.int .i64 S.f0, .int .i64 S.f1, .int .i64 S.f2, .int .i64 S.f3, .int .i64 S.f4, .int .i64 S.f5, .int .i64 S.f6, .int .i64 S.f7, .int .i64 S.f8]] (by rfl) rfl rfl (by simp only [List.map_toArray, List.map_cons, List.map_nil]; rfl) ?_
 with_reducible refine (award_Fees.calls k R.f0 R.f1 R.f2 R.f3 R.f4.f0 R.f4.f1 R.f5 R.f6 R.f7 S.f0 S.f1 S.f2 S.f3 S.f4 S.f5 S.f6 S.f7 S.f8 ca st 0 _ HF.out).mono ?_
 rintro e w2 ⟨rfl, hb⟩
 refine ⟨_, rfl, ?_⟩
 replace HP := Aq.mk (HP.out.below hb)
 refine hK.out _ _ (hh hb hHeld) (fun hHeld => ?_)
 clear hK K
 refine nM 14 ?_
 refine pI 9 5 ?_
 refine pI 10 15 ?_
 refine pI 11 16 ?_
 refine pI 12 17 ?_
 refine pI 13 2 ?_
 refine pI 14 3 ?_
 refine pI 15 4 ?_
 refine done_ (by kernel_rfl) ?_
 clear hHeld
 go_wp2_with (first | (go_at_call 121; go_must ((with_reducible refine (takes_any w0 _ g p c s f r R S fv L ca HP.out HW.out).mono ?_); rintro e w3 ⟨rfl, hp⟩; obtain ⟨sv3, hX3⟩ := hp.cells; have k1 : w3.cell? ⟨g, 1, none⟩ = some (.int .i64 c) := (bC_ hX3 1).trans rfl; have q1 := bR_ hX3 1; have HP3 := Aq.mk hp; clear HP hp hX3)))
 have HP4 := Aq.mk (HP3.out.set (j := 1) (v := .int .i64 (mn ca r)) (p' := p) (c' := (mn ca r)) (s' := s) (f' := f) (r' := r - mn ca r) (fun sv => rfl))
 clear HP3 k1 q1
 generalize w3.setCell ⟨g, 1, none⟩ (.int .i64 (mn ca r)) = w4 at HP4 ⊢
 obtain ⟨m, hm⟩ : ∃ m, m = mn ca r := ⟨_, rfl⟩
 rw [← hm] at HP4 ⊢
 have HM := Aq.mk hm
 clear hm
 obtain ⟨sv4, hX4⟩ := HP4.out.cells
 refine stT 12 (fun w' => w'.cell? ⟨g, 20, none⟩ = some (.int .i64 S.f5) ∧ w'.cell? ⟨g, 1, none⟩ = some (.int .i64 m)) ⟨(bC_ (bD_ hX4) 20).trans rfl, (bC_ (bD_ hX4) 1).trans rfl⟩ (fun hHeld => ?_)
 have HP5 := Aq.mk (HP4.out.below (Below.drew (Below.refl _ _)))
 clear hX4 HP4
 generalize w4.drew = w5 at HP5 hHeld ⊢
 refine pI 0 25 ?_
 refine pI 1 26 ?_
 refine pI 2 27 ?_
 refine pI 3 28 ?_
 refine pI 4 29 ?_
 refine pI 6 31 ?_
 refine pI 7 32 ?_
 refine pI 8 33 ?_
 refine pI 9 34 ?_
 refine tI 5 30 hHeld ?_
 refine tI 10 35 hHeld ?_
 refine one_ (i := 11) (N := some 36) #[true, true, true, true, true, true, true, true, true, true, true, true] rfl rfl (by kernel_rfl) (by decide) (fun K hK => ?_)
 refine goes_ Tryz.func122 (by kernel_rfl) rfl #[.pointer (some ⟨g, 0, none⟩), .int .i64 S.f5, .int .i64 m] (by rfl) rfl rfl (by simp only [List.map_toArray, List.map_cons, List.map_nil]; rfl) ?_
 with_reducible refine (gives_any w0 _ g p m s f (r - m) R S fv L S.f5 m HP5.out HL.out).mono ?_
 rintro e w6 ⟨rfl, hp, _⟩
 refine ⟨_, rfl, ?_⟩
 have HP6 := Aq.mk hp
 obtain ⟨sv6, hX6⟩ := hp.cells
 refine hK.out _ _ ⟨(bC_ hX6 20).trans rfl, (bC_ hX6 1).trans rfl⟩ (fun hHeld => ?_)
 clear hK K
 refine nM 36 ?_
 refine done_ (by kernel_rfl) ?_
 go_wp2
 go_end0
 exact ⟨rfl, by rw [← HM.out]; exact HP6.out⟩
set_option maxRecDepth 100000 in
set_option maxHeartbeats 4000000 in
theorem storing_any (w0 W : World) (g : Nat) (p c s f r : Int) (R : S26) (S : S39) (fv : Value) (L : List S69) (h : Pot w0 g p c s f r R S fv L W) (hl : L.length ≤ 100000) (k : Nat) (ca st : Int) (hF : award_Fees.f k R.f0 R.f1 R.f2 R.f3 R.f4.f0 R.f4.f1 R.f5 R.f6 R.f7 S.f0 S.f1 S.f2 S.f3 S.f4 S.f5 S.f6 S.f7 S.f8 = some (ca, st, 0)) (hw : IntKind.i64.wrap (r - mn st r) = r - mn st r) :
  Calls Tryz.prog 76 #[.pointer (some ⟨g, 0, none⟩)] W fun e w' => e = .returned (.tuple #[]) ∧ Pot w0 g p c (mn st r) f (r - mn st r) R S fv (L ++ [⟨S.f6, mn st r⟩]) w' := by
 obtain ⟨sv, hX⟩ := h.cells
 have HP : Aq (Pot w0 g p c s f r R S fv L W.drew) := ⟨h.below (Below.drew (Below.refl _ _))⟩
 have HF := Aq.mk hF
 have HL := Aq.mk hl
 have HW := Aq.mk hw
 clear h hF hl hw
 go_enter Tryz.func76, Tryz.ntmps76
 go_wp2
 refine stT 16 (fun w' => w'.cell? ⟨g, 6, none⟩ = some (.int .i64 R.f0) ∧ w'.cell? ⟨g, 7, none⟩ = some (.int .i64 R.f1) ∧ w'.cell? ⟨g, 8, none⟩ = some (.int .i64 R.f2) ∧ w'.cell? ⟨g, 9, none⟩ = some (.string R.f3) ∧ w'.cell? ⟨g, 10, none⟩ = some (.int .i64 R.f4.f0) ∧ w'.cell? ⟨g, 11, none⟩ = some (.int .i64 R.f4.f1) ∧ w'.cell? ⟨g, 12, none⟩ = some (.int .i64 R.f5) ∧ w'.cell? ⟨g, 13, none⟩ = some (.int .i64 R.f6) ∧ w'.cell? ⟨g, 14, none⟩ = some (.int .i64 R.f7) ∧ w'.cell? ⟨g, 15, none⟩ = some (.int .i64 S.f0) ∧ w'.cell? ⟨g, 16, none⟩ = some (.int .i64 S.f1) ∧ w'.cell? ⟨g, 17, none⟩ = some (.int .i64 S.f2) ∧ w'.cell? ⟨g, 18, none⟩ = some (.int .i64 S.f3) ∧ w'.cell? ⟨g, 19, none⟩ = some (.int .i64 S.f4) ∧ w'.cell? ⟨g, 20, none⟩ = some (.int .i64 S.f5) ∧ w'.cell? ⟨g, 21, none⟩ = some (.int .i64 S.f6) ∧ w'.cell? ⟨g, 22, none⟩ = some (.int .i64 S.f7) ∧ w'.cell? ⟨g, 23, none⟩ = some (.int .i64 S.f8)) ⟨(bC_ (bD_ hX) 6).trans rfl, (bC_ (bD_ hX) 7).trans rfl, (bC_ (bD_ hX) 8).trans rfl, (bC_ (bD_ hX) 9).trans rfl, (bC_ (bD_ hX) 10).trans rfl, (bC_ (bD_ hX) 11).trans rfl, (bC_ (bD_ hX) 12).trans rfl, (bC_ (bD_ hX) 13).trans rfl, (bC_ (bD_ hX) 14).trans rfl, (bC_ (bD_ hX) 15).trans rfl, (bC_ (bD_ hX) 16).trans rfl, (bC_ (bD_ hX) 17).trans rfl, (bC_ (bD_ hX) 18).trans rfl, (bC_ (bD_ hX) 19).trans rfl, (bC_ (bD_ hX) 20).trans rfl, (bC_ (bD_ hX) 21).trans rfl, (bC_ (bD_ hX) 22).trans rfl, (bC_ (bD_ hX) 23).trans rfl⟩ (fun hHeld => ?_)
 clear hX
 generalize W.drew = w1 at HP hHeld ⊢
 refine pI 0 6 ?_
 refine pI 1 7 ?_
 refine pI 2 8 ?_
 refine pI 4 10 ?_
 refine pI 5 11 ?_
 refine pI 6 12 ?_
 refine tI 3 9 hHeld ?_
 refine tI 7 13 hHeld ?_
 refine one_ (i := 8) (N := some 14) #[true, true, true, true, true, true, true, true, true, false, false, false, false, false, false, false] rfl rfl (by kernel_rfl) (by decide) (fun K hK => ?_)
 refine goes_ Tryz.func24 (by kernel_rfl) rfl #[.agg #[.int .i64 R.f0, .int .i64 R.f1, .int .i64 R.f2, .string R.f3, .int .i64 R.f4.f0, .int .i64 R.f4.f1, .int .i64 R.f5, .int .i64 R.f6, .int .i64 R.f7], .agg #[.int .i64 S.f0, .int .i64 S.f1, .int .i64 S.f2, .int .i64 S.f3, .int .i64 S.f4, .int .i64 S.f5, .int .i64 S.f6, .int .i64 S.f7, .int .i64 S.f8]] (by rfl) rfl rfl (by simp only [List.map_toArray, List.map_cons, List.map_nil]; rfl) ?_
 with_reducible refine (award_Fees.calls k R.f0 R.f1 R.f2 R.f3 R.f4.f0 R.f4.f1 R.f5 R.f6 R.f7 S.f0 S.f1 S.f2 S.f3 S.f4 S.f5 S.f6 S.f7 S.f8 ca st 0 _ HF.out).mono ?_
 rintro e w2 ⟨rfl, hb⟩
 refine ⟨_, rfl, ?_⟩
 replace HP := Aq.mk (HP.out.below hb)
 refine hK.out _ _ (hh hb hHeld) (fun hHeld => ?_)
 clear hK K
 refine nM 14 ?_
 refine pI 9 5 ?_
 refine pI 10 15 ?_
 refine pI 11 16 ?_
 refine pI 12 17 ?_
 refine pI 13 2 ?_
 refine pI 14 3 ?_
 refine pI 15 4 ?_
 refine done_ (by kernel_rfl) ?_
 clear hHeld
 go_wp2_with (first | (go_at_call 121; go_must ((with_reducible refine (takes_any w0 _ g p c s f r R S fv L st HP.out HW.out).mono ?_); rintro e w3 ⟨rfl, hp⟩; obtain ⟨sv3, hX3⟩ := hp.cells; have k2 : w3.cell? ⟨g, 2, none⟩ = some (.int .i64 s) := (bC_ hX3 2).trans rfl; have q2 := bR_ hX3 2; have HP3 := Aq.mk hp; clear HP hp hX3)))
 have HP4 := Aq.mk (HP3.out.set (j := 2) (v := .int .i64 (mn st r)) (p' := p) (c' := c) (s' := (mn st r)) (f' := f) (r' := r - mn st r) (fun sv => rfl))
 clear HP3 k2 q2
 generalize w3.setCell ⟨g, 2, none⟩ (.int .i64 (mn st r)) = w4 at HP4 ⊢
 obtain ⟨m, hm⟩ : ∃ m, m = mn st r := ⟨_, rfl⟩
 rw [← hm] at HP4 ⊢
 have HM := Aq.mk hm
 clear hm
 obtain ⟨sv4, hX4⟩ := HP4.out.cells
 refine stT 12 (fun w' => w'.cell? ⟨g, 21, none⟩ = some (.int .i64 S.f6) ∧ w'.cell? ⟨g, 2, none⟩ = some (.int .i64 m)) ⟨(bC_ (bD_ hX4) 21).trans rfl, (bC_ (bD_ hX4) 2).trans rfl⟩ (fun hHeld => ?_)
 have HP5 := Aq.mk (HP4.out.below (Below.drew (Below.refl _ _)))
 clear hX4 HP4
 generalize w4.drew = w5 at HP5 hHeld ⊢
 refine pI 0 25 ?_
 refine pI 1 26 ?_
 refine pI 2 27 ?_
 refine pI 3 28 ?_
 refine pI 4 29 ?_
 refine pI 6 31 ?_
 refine pI 7 32 ?_
 refine pI 8 33 ?_
 refine pI 9 34 ?_
 refine tI 5 30 hHeld ?_
 refine tI 10 35 hHeld ?_
 refine one_ (i := 11) (N := some 36) #[true, true, true, true, true, true, true, true, true, true, true, true] rfl rfl (by kernel_rfl) (by decide) (fun K hK => ?_)
 refine goes_ Tryz.func122 (by kernel_rfl) rfl #[.pointer (some ⟨g, 0, none⟩), .int .i64 S.f6, .int .i64 m] (by rfl) rfl rfl (by simp only [List.map_toArray, List.map_cons, List.map_nil]; rfl) ?_
 with_reducible refine (gives_any w0 _ g p c m f (r - m) R S fv L S.f6 m HP5.out HL.out).mono ?_
 rintro e w6 ⟨rfl, hp, _⟩
 refine ⟨_, rfl, ?_⟩
 have HP6 := Aq.mk hp
 obtain ⟨sv6, hX6⟩ := hp.cells
 refine hK.out _ _ ⟨(bC_ hX6 21).trans rfl, (bC_ hX6 2).trans rfl⟩ (fun hHeld => ?_)
 clear hK K
 refine nM 36 ?_
 refine done_ (by kernel_rfl) ?_
 go_wp2
 go_end0
 exact ⟨rfl, by rw [← HM.out]; exact HP6.out⟩
def zipS : List Int → List Int → List S69
 | x :: xs, n :: ns => ⟨x, n⟩ :: zipS xs ns
 | _, _ => []
theorem zip_snoc (x n : Int) : ∀ (a b : List Int), a.length = b.length → zipS (a ++ [x]) (b ++ [n]) = zipS a b ++ [⟨x, n⟩]
 | [], [], _ => rfl
 | y :: a, z :: b, h => by simp only [List.cons_append, zipS]; rw [zip_snoc x n a b (by simpa using h)]
 | [], z :: b, h => by simp at h
 | y :: a, [], h => by simp at h
theorem zip_len : ∀ (a b : List Int), (zipS a b).length ≤ a.length
 | [], b => by simp [zipS]
 | x :: a, [] => by simp [zipS]
 | x :: a, y :: b => by simp only [zipS, List.length_cons]; have := zip_len a b; omega
theorem row_blk {W : World} {base : Nat} {v : Value} {xs : List Int} (h : Kd.R (Kd.int .i64) 3 W base (fun _ => True) v xs) (h0 : 0 < xs.length) :
  ∃ g c cur, v = .slice (some ⟨g, 0, none⟩) xs.length c ∧ base ≤ g ∧ W.heap[g]? = some (.cells cur 3 (0, 0)) ∧ Kd.R (Kd.int .i64) 3 W base (fun k => k = g) (.slice (some ⟨g, 0, none⟩) xs.length c) xs := by
 have ho := Kd.own_of_R h
 rcases ho.2 with ⟨rfl, h1⟩ | ⟨g, cap, cur, rfl, hg, hc, _⟩
 ·omega
 ·exact ⟨g, cap, cur, rfl, hg, hc, Kd.R_of_own ho (fun k hk => by simpa [Value.ownBlock] using hk.symm)⟩
set_option maxRecDepth 100000 in
set_option maxHeartbeats 4000000 in
theorem finding_any (w0 W : World) (g : Nat) (p c s f r : Int) (R : S26) (S : S39) (A1 : Option Addr) (c1 : Nat) (F : List Int) (L : List S69) (h : Pot w0 g p c s f r R S (.slice A1 F.length c1) L W) (hl : L.length ≤ 50000) (hC : Kd.C (Kd.int .i64) w0 A1 F.length F) (hc1 : F.length ≤ c1) (hF40 : F.length ≤ 40)
  (hd : R.f4.f1 ≠ 0) (hw1 : IntKind.i64.wrap (p * R.f4.f0) = p * R.f4.f0) (hw2 : IntKind.i64.wrap ((p * R.f4.f0).tdiv R.f4.f1) = ((p * R.f4.f0).tdiv R.f4.f1)) (hw : IntKind.i64.wrap (r - mn ((p * R.f4.f0).tdiv R.f4.f1) r) = r - mn ((p * R.f4.f0).tdiv R.f4.f1) r) (k : Nat) (E : List Int) (hE : award_Equal.f k (mn ((p * R.f4.f0).tdiv R.f4.f1) r) F = some (E, 0)) (hEl : E.length = F.length) (hE0 : 0 < E.length) :
  Calls Tryz.prog 77 #[.pointer (some ⟨g, 0, none⟩)] W fun e w' => e = .returned (.tuple #[]) ∧ Pot w0 g p c s (mn ((p * R.f4.f0).tdiv R.f4.f1) r) (r - mn ((p * R.f4.f0).tdiv R.f4.f1) r) R S (.slice A1 F.length c1) (L ++ zipS F E) w' := by
 obtain ⟨sv, hX⟩ := h.cells
 have HP : Aq (Pot w0 g p c s f r R S (.slice A1 F.length c1) L W.drew) := ⟨h.below (Below.drew (Below.refl _ _))⟩
 have HL := Aq.mk hl
 have HW := Aq.mk hw
 have HC := Aq.mk hC
 have HC1 := Aq.mk hc1
 have HE := Aq.mk hE
 have HEl := Aq.mk hEl
 have hdz : (R.f4.f1 == 0) = false := beq_eq_false_iff_ne.mpr hd
 clear h hl hw hC hc1 hE hEl
 go_enter Tryz.func77, Tryz.ntmps77
 go_wp2
 refine start_ (n := 26) (S := fun w' => w'.cell? ⟨g, 0, none⟩ = some (.int .i64 p) ∧ w'.cell? ⟨g, 10, none⟩ = some (.int .i64 R.f4.f0) ∧ w'.cell? ⟨g, 11, none⟩ = some (.int .i64 R.f4.f1)) (ds := [25]) #[false, false, false, false, false, false, false, false, false, false, false, false, false, false, false, false, false, false, false, false, false, false, false, false, false, false] (by kernel_rfl) rfl rfl ⟨(bC_ (bD_ hX) 0).trans rfl, (bC_ (bD_ hX) 10).trans rfl, (bC_ (bD_ hX) 11).trans rfl⟩ (fun hHeld => ?_)
 clear hX
 generalize W.drew = w1 at HP hHeld ⊢
 refine pI 0 6 ?_
 refine pI 1 7 ?_
 refine pI 2 8 ?_
 refine pI 3 9 ?_
 refine pI 4 10 ?_
 refine pI 5 11 ?_
 refine pI 7 13 ?_
 refine pI 8 14 ?_
 refine pI 9 15 ?_
 refine pI 10 16 ?_
 refine pI 11 17 ?_
 refine pI 14 20 ?_
 refine pI 15 21 ?_
 refine pI 16 22 ?_
 refine pI 17 23 ?_
 refine pI 18 24 ?_
 refine tI 6 12 hHeld ?_
 refine tI 12 18 hHeld ?_
 refine pI 13 19 ?_
 refine tI 19 25 hHeld ?_
 refine pI 20 26 ?_
 refine one_ (i := 21) (N := some 27) #[true, true, true, true, true, true, true, true, true, true, true, true, true, true, true, true, true, true, true, true, true, true, false, false, false, false] rfl rfl (by kernel_rfl) (by decide) (fun K hK => ?_)
 refine goes_ Tryz.func121 (by kernel_rfl) rfl #[.pointer (some ⟨g, 0, none⟩), .int .i64 ((p * R.f4.f0).tdiv R.f4.f1)] (by rfl) rfl rfl (by simp only [List.map_toArray, List.map_cons, List.map_nil]; rfl) ?_
 with_reducible refine (takes_any w0 _ g p c s f r R S (.slice A1 F.length c1) L ((p * R.f4.f0).tdiv R.f4.f1) HP.out HW.out).mono ?_
 rintro e w3 ⟨rfl, hp⟩
 refine ⟨_, rfl, ?_⟩
 obtain ⟨sv3, hX3⟩ := hp.cells
 have HP3 := Aq.mk hp
 have k3 : w3.cell? ⟨g, 3, none⟩ = some (.int .i64 f) := (bC_ hX3 3).trans rfl
 have q3 := bR_ hX3 3
 refine hK.out _ _ ⟨(bC_ hX3 0).trans rfl, (bC_ hX3 10).trans rfl, (bC_ hX3 11).trans rfl⟩ (fun hHeld => ?_)
 clear hK K
 refine nM 27 ?_
 refine pI 22 28 ?_
 refine pI 23 29 ?_
 refine pI 24 30 ?_
 refine last_ (i := 25) (N := none) #[true, true, true, true, true, true, true, true, true, true, true, true, true, true, true, true, true, true, true, true, true, true, true, true, true, true] rfl rfl (by kernel_rfl) (by decide) (fun K hK => ?_)
 refine skip_ (w1 := ?_) (by rfl) rfl ?_ ?_
 rotate_left
 ·go_simp
  rfl
 refine hK.out _ _ ?_
 clear hK K
 refine done_ (by kernel_rfl) ?_
 go_wp2
 have HP4 := Aq.mk (HP3.out.set (j := 3) (v := .int .i64 (mn ((p * R.f4.f0).tdiv R.f4.f1) r)) (p' := p) (c' := c) (s' := s) (f' := mn ((p * R.f4.f0).tdiv R.f4.f1) r) (r' := r - mn ((p * R.f4.f0).tdiv R.f4.f1) r) (fun sv => rfl))
 clear HP3 k3 q3 hX3 hHeld
 generalize w3.setCell ⟨g, 3, none⟩ (.int .i64 (mn ((p * R.f4.f0).tdiv R.f4.f1) r)) = w4 at HP4 ⊢
 obtain ⟨m, hm⟩ : ∃ m, m = mn ((p * R.f4.f0).tdiv R.f4.f1) r := ⟨_, rfl⟩
 rw [← hm] at HP4 HE ⊢
 have HM := Aq.mk hm
 clear hm
 have HB4 : Aq (Below w0.heap.size w0 w4) := ⟨by obtain ⟨_, _, _, z, _⟩ := HP4.out; exact z⟩
 obtain ⟨sv4, hX4⟩ := HP4.out.cells
 refine stT 15 (fun w' => w'.cell? ⟨g, 3, none⟩ = some (.int .i64 m) ∧ w'.cell? ⟨g, 24, none⟩ = some (.slice A1 F.length c1)) ⟨(bC_ (bD_ hX4) 3).trans rfl, (bC_ (bD_ hX4) 24).trans rfl⟩ (fun hHeld => ?_)
 have HP5 := Aq.mk (HP4.out.below (Below.drew (Below.refl _ _)))
 have HB5 := Aq.mk (Below.drew HB4.out)
 clear hX4 HP4 HB4
 generalize w4.drew = w5 at HP5 HB5 hHeld ⊢
 refine pI 0 32 ?_
 refine pI 1 33 ?_
 refine pI 2 34 ?_
 refine pI 3 35 ?_
 refine pI 5 37 ?_
 refine pI 6 38 ?_
 refine pI 7 39 ?_
 refine tI 4 36 hHeld ?_
 refine tI 8 40 hHeld ?_
 refine one_ (i := 9) (N := some 41) #[true, true, true, true, true, true, true, true, true, true, false, false, false, false, false] rfl rfl (by kernel_rfl) (by decide) (fun K hK => ?_)
 refine goes_ Tryz.func26 (by kernel_rfl) rfl #[.int .i64 m, .slice A1 F.length c1] (by rfl) rfl rfl (by simp only [List.map_toArray, List.map_cons, List.map_nil]; rfl) ?_
 with_reducible refine (award_Equal.calls k m A1 c1 F E 0 _ (Kd.C_below HC.out HB5.out) HC1.out HE.out).mono ?_
 rintro e w6 ⟨ve, rfl, hRe, hb⟩
 refine ⟨_, rfl, ?_⟩
 have HP6 := Aq.mk (HP5.out.below hb)
 have HRe := Aq.mk hRe
 clear HP5 hRe
 refine hK.out _ _ (hh hb hHeld) (fun hHeld => ?_)
 clear hK K
 refine nM 41 ?_
 refine pI 10 31 ?_
 refine pI 11 42 ?_
 refine pI 12 43 ?_
 refine pI 13 2 ?_
 refine pI 14 3 ?_
 refine done_ (by kernel_rfl) ?_
 clear hHeld
 obtain ⟨ge, ce, cur, hve, hge, hce, hRe⟩ := row_blk HRe.out hE0
 subst hve
 have HRe := Aq.mk hRe
 have HCe := Aq.mk hce
 have HGE : Aq (ge ≠ g) := ⟨by obtain ⟨_, hx, _⟩ := HP6.out; intro e; rw [e] at hce; rw [hce] at hx; cases hx⟩
 clear hRe hce hge
 go_wp2
 go_loopg [46] E.length (fun gg s46 wr => ∃ (kk : Nat), kk ≤ E.length ∧ E.length - kk ≤ gg ∧ s46 = .int .i64 kk ∧ Aq (Pot w0 g p c s m (r - m) R S (.slice A1 F.length c1) (L ++ zipS (F.take kk) (E.take kk)) wr) ∧ Aq (Kd.R (Kd.int .i64) 3 wr w5.heap.size (fun k => k = ge) (.slice (some ⟨ge, 0, none⟩) E.length ce) E) ∧ Aq (wr.heap[ge]? = some (.cells cur 3 (0, 0))))
 case atStart => exact ⟨0, Nat.zero_le _, by omega, rfl, ⟨by simpa [zipS] using HP6.out⟩, HRe, HCe⟩
 case round =>
  clear HP6 HRe HCe
  obtain ⟨kk, hkk, hg, rfl, HP, HRe, HCe⟩ := hrel
  obtain ⟨svr, hXr⟩ := HP.out.cells
  have k24 : wr.cell? ⟨g, 24, none⟩ = some (.slice A1 F.length c1) := (bC_ hXr 24).trans rfl
  clear hXr
  by_cases hlt : kk < E.length
  ·have hltz : (kk : Int) < (E.length : Int) := by omega
   have h0 : (0 : Int) ≤ (kk : Int) := by omega
   have hltF : kk < F.length := by have := HEl.out; omega
   have hltFz : (kk : Int) < (F.length : Int) := by omega
   obtain ⟨ae, e_, hn0⟩ := at_int (Kd.R_reads' HRe.out).2.2 (kk : Int) h0 hltz
   cases e_
   obtain ⟨_, HD1⟩ := rd_drop E kk hlt
   generalize rd E (kk : Int) = N at hn0 HD1
   have hBr : Below w0.heap.size w0 wr := by obtain ⟨_, _, _, z, _⟩ := HP.out; exact z
   obtain ⟨af, e_, hf0⟩ := at_int (Kd.C_below HC.out hBr) (kk : Int) h0 hltFz
   cases e_
   obtain ⟨_, HD2⟩ := rd_drop F kk hltF
   generalize rd F (kk : Int) = Q at hf0 HD2
   simp only [Int.toNat_natCast] at hn0 hf0
   rw [add_plain] at hn0
   have HT : Aq (zipS (F.take (kk + 1)) (E.take (kk + 1)) = zipS (F.take kk) (E.take kk) ++ [⟨Q, N⟩]) := ⟨by rw [take_snoc_drop HD1, take_snoc_drop HD2, zip_snoc _ _ _ _ (by rw [List.length_take, List.length_take]; omega)]⟩
   have HLn : Aq ((L ++ zipS (F.take kk) (E.take kk)).length ≤ 100000) := ⟨by have h1 := zip_len (F.take kk) (E.take kk); have h2 := HL.out; rw [List.length_append]; rw [List.length_take] at h1; omega⟩
   clear HD1 HD2 hBr
   go_wp2_with (first | (go_at_call 122; go_must ((with_reducible refine (gives_any w0 _ g p c s m (r - m) R S (.slice (some af) F.length c1) _ Q N HP.out HLn.out).mono ?_); rintro e w7 ⟨rfl, hp, hk⟩; have HP7 := Aq.mk hp; have HC7 := Aq.mk (hk ge cur HGE.out HCe.out); have HR7 := Aq.mk (Kd.R_step HRe.out (fun k hk' hlt' => by rw [hk', HC7.out, HCe.out])); clear hp hk HP HRe HCe)))
   rw [List.append_assoc, ← HT.out] at HP7
   go_roundg (E.length - (kk + 1))
   case measure => omega
   case rel => exact ⟨kk + 1, by omega, by omega, by go_num, HP7, HR7, HC7⟩
  ·have hltz : ¬ (kk : Int) < (E.length : Int) := by omega
   obtain rfl : kk = E.length := by omega
   go_wp2
   go_end0
   exact ⟨rfl, by rw [← HM.out]; have z := HP.out; rw [List.take_length, HEl.out, List.take_length] at z; exact z⟩
end
section
open Go.Shelf
theorem zip_mem : ∀ {a b : List Int} {x : S69}, x ∈ zipS a b → x.f0 ∈ a
 | [], b, x, h => by simp [zipS] at h
 | y :: a, [], x, h => by simp [zipS] at h
 | y :: a, z :: b, x, h => by
  simp only [zipS, List.mem_cons] at h
  rcases h with rfl | h
  ·simp
  ·exact List.mem_cons_of_mem _ (zip_mem h)
theorem ix0 (f : Fn) (a b : Array Value) (y z : Value) (w : World) : (Instr.index 105 (.agg #[.func f a b, y, z]) (.int .i64 0)).run Tryz.prog w = .ok (.func f a b) w := by
 simp [Instr.index, run_underlying Tryz.underlying105, asIntOf, go_sem]
theorem ix1 (f : Fn) (a b : Array Value) (y z : Value) (w : World) : (Instr.index 105 (.agg #[y, .func f a b, z]) (.int .i64 1)).run Tryz.prog w = .ok (.func f a b) w := by
 simp [Instr.index, run_underlying Tryz.underlying105, asIntOf, go_sem]
theorem ix2 (f : Fn) (a b : Array Value) (y z : Value) (w : World) : (Instr.index 105 (.agg #[y, z, .func f a b]) (.int .i64 2)).run Tryz.prog w = .ok (.func f a b) w := by
 simp [Instr.index, run_underlying Tryz.underlying105, asIntOf, go_sem]
def awardedF (R : S26) (S : S39) (F : List Int) : Int × Int × Int × Int × Int × List S69 × Int :=
 if feesB R S && partiesB F then
  (S.f4, mn (cartF R S) S.f4, mn (storeF R S) (S.f4 - mn (cartF R S) S.f4), mn (S.f4 * R.f4.f0 / R.f4.f1) (S.f4 - mn (cartF R S) S.f4 - mn (storeF R S) (S.f4 - mn (cartF R S) S.f4)),
   S.f4 - mn (cartF R S) S.f4 - mn (storeF R S) (S.f4 - mn (cartF R S) S.f4) - mn (S.f4 * R.f4.f0 / R.f4.f1) (S.f4 - mn (cartF R S) S.f4 - mn (storeF R S) (S.f4 - mn (cartF R S) S.f4)),
   mergedL ([] ++ [⟨S.f5, mn (cartF R S) S.f4⟩] ++ [⟨S.f6, mn (storeF R S) (S.f4 - mn (cartF R S) S.f4)⟩] ++ zipS F (equalL (mn (S.f4 * R.f4.f0 / R.f4.f1) (S.f4 - mn (cartF R S) S.f4 - mn (storeF R S) (S.f4 - mn (cartF R S) S.f4))) F.length)), 0)
 else (0, 0, 0, 0, 0, [], 1)
set_option maxRecDepth 100000 in
set_option maxHeartbeats 4000000 in
theorem awarded_any (R : S26) (S : S39) (A : Option Addr) (c : Nat) (F : List Int) (w : World) (hr : Kd.C (Kd.int .i64) w A F.length F) (hc : F.length ≤ c) (r : Int × Int × Int × Int × Int × List S69 × Int) (hq : r = awardedF R S F) :
  Calls Tryz.prog 37 #[.agg #[.int .i64 R.f0, .int .i64 R.f1, .int .i64 R.f2, .string R.f3, .int .i64 R.f4.f0, .int .i64 R.f4.f1, .int .i64 R.f5, .int .i64 R.f6, .int .i64 R.f7], .agg #[.int .i64 S.f0, .int .i64 S.f1, .int .i64 S.f2, .int .i64 S.f3, .int .i64 S.f4, .int .i64 S.f5, .int .i64 S.f6, .int .i64 S.f7, .int .i64 S.f8], .slice A F.length c] w fun e w' => ∃ v, e = .returned (.tuple #[.agg #[.int .i64 r.1, .int .i64 r.2.1, .int .i64 r.2.2.1, .int .i64 r.2.2.2.1, .int .i64 r.2.2.2.2.1, v], .int .i64 r.2.2.2.2.2.2]) ∧ Kd.R k69 69 w' w.heap.size (fun _ => True) v r.2.2.2.2.2.1 ∧ Below w.heap.size w w' := by
 have HC := Aq.mk hr
 have HC1 := Aq.mk hc
 have HQ := Aq.mk hq
 clear hr hc hq
 have P3 : Aq ((((w.alloc (.cells #[.int .i64 R.f0, .int .i64 R.f1, .int .i64 R.f2, .string R.f3, .int .i64 R.f4.f0, .int .i64 R.f4.f1, .int .i64 R.f5, .int .i64 R.f6, .int .i64 R.f7] 26)).alloc (.cells #[.int .i64 S.f0, .int .i64 S.f1, .int .i64 S.f2, .int .i64 S.f3, .int .i64 S.f4, .int .i64 S.f5, .int .i64 S.f6, .int .i64 S.f7, .int .i64 S.f8] 39)).alloc (.cells #[.int .i64 0, .int .i64 0, .int .i64 0, .int .i64 0, .int .i64 0, .slice none 0 0] 59)).heap[w.heap.size]? = some (.cells #[.int .i64 R.f0, .int .i64 R.f1, .int .i64 R.f2, .string R.f3, .int .i64 R.f4.f0, .int .i64 R.f4.f1, .int .i64 R.f5, .int .i64 R.f6, .int .i64 R.f7] 26 (0, 0))) := ⟨bL_ (bL_ (heap_alloc_new w _) _) _⟩
 have P4 : Aq ((((w.alloc (.cells #[.int .i64 R.f0, .int .i64 R.f1, .int .i64 R.f2, .string R.f3, .int .i64 R.f4.f0, .int .i64 R.f4.f1, .int .i64 R.f5, .int .i64 R.f6, .int .i64 R.f7] 26)).alloc (.cells #[.int .i64 S.f0, .int .i64 S.f1, .int .i64 S.f2, .int .i64 S.f3, .int .i64 S.f4, .int .i64 S.f5, .int .i64 S.f6, .int .i64 S.f7, .int .i64 S.f8] 39)).alloc (.cells #[.int .i64 0, .int .i64 0, .int .i64 0, .int .i64 0, .int .i64 0, .slice none 0 0] 59)).heap[w.heap.size + 1]? = some (.cells #[.int .i64 S.f0, .int .i64 S.f1, .int .i64 S.f2, .int .i64 S.f3, .int .i64 S.f4, .int .i64 S.f5, .int .i64 S.f6, .int .i64 S.f7, .int .i64 S.f8] 39 (0, 0))) := ⟨bL_ (blk_at _ _ _ (by simp)) _⟩
 have P6 : Aq ((((w.alloc (.cells #[.int .i64 R.f0, .int .i64 R.f1, .int .i64 R.f2, .string R.f3, .int .i64 R.f4.f0, .int .i64 R.f4.f1, .int .i64 R.f5, .int .i64 R.f6, .int .i64 R.f7] 26)).alloc (.cells #[.int .i64 S.f0, .int .i64 S.f1, .int .i64 S.f2, .int .i64 S.f3, .int .i64 S.f4, .int .i64 S.f5, .int .i64 S.f6, .int .i64 S.f7, .int .i64 S.f8] 39)).alloc (.cells #[.int .i64 0, .int .i64 0, .int .i64 0, .int .i64 0, .int .i64 0, .slice none 0 0] 59)).heap[w.heap.size + 1 + 1]? = some (.cells #[.int .i64 0, .int .i64 0, .int .i64 0, .int .i64 0, .int .i64 0, .slice none 0 0] 59 (0, 0))) := ⟨blk_at _ _ _ (by simp)⟩
 have HB : Aq (Below w.heap.size w (((w.alloc (.cells #[.int .i64 R.f0, .int .i64 R.f1, .int .i64 R.f2, .string R.f3, .int .i64 R.f4.f0, .int .i64 R.f4.f1, .int .i64 R.f5, .int .i64 R.f6, .int .i64 R.f7] 26)).alloc (.cells #[.int .i64 S.f0, .int .i64 S.f1, .int .i64 S.f2, .int .i64 S.f3, .int .i64 S.f4, .int .i64 S.f5, .int .i64 S.f6, .int .i64 S.f7, .int .i64 S.f8] 39)).alloc (.cells #[.int .i64 0, .int .i64 0, .int .i64 0, .int .i64 0, .int .i64 0, .slice none 0 0] 59))) := ⟨bA_ (bA_ (bA_ (Below.refl _ _) _) _) _⟩
 cases hfb : feesB R S with
 | false =>
  have HE : Aq (r = (0, 0, 0, 0, 0, [], 1)) := ⟨by rw [HQ.out]; unfold awardedF; rw [hfb]; rfl⟩
  have HFe := Aq.mk (award_Fees.calls 1 R.f0 R.f1 R.f2 R.f3 R.f4.f0 R.f4.f1 R.f5 R.f6 R.f7 S.f0 S.f1 S.f2 S.f3 S.f4 S.f5 S.f6 S.f7 S.f8 0 0 1 (((w.alloc (.cells #[.int .i64 R.f0, .int .i64 R.f1, .int .i64 R.f2, .string R.f3, .int .i64 R.f4.f0, .int .i64 R.f4.f1, .int .i64 R.f5, .int .i64 R.f6, .int .i64 R.f7] 26)).alloc (.cells #[.int .i64 S.f0, .int .i64 S.f1, .int .i64 S.f2, .int .i64 S.f3, .int .i64 S.f4, .int .i64 S.f5, .int .i64 S.f6, .int .i64 S.f7, .int .i64 S.f8] 39)).alloc (.cells #[.int .i64 0, .int .i64 0, .int .i64 0, .int .i64 0, .int .i64 0, .slice none 0 0] 59)) (by rw [fees_f, hfb]; rfl))
  clear hfb HQ HC HC1
  go_enter Tryz.func37, Tryz.ntmps37
  go_wp2_with (first | (go_at_call 24; go_must ((with_reducible refine HFe.out.mono ?_); rintro e w2 ⟨rfl, hb⟩; have HB2 := Aq.mk (bS_ HB.out hb); have X3 := Aq.mk (bB_ P3.out hb); have X4 := Aq.mk (bB_ P4.out hb); have X6 := Aq.mk (bB_ P6.out hb); have z0 : w2.cell? ⟨w.heap.size + 1 + 1, 0, none⟩ = some (.int .i64 0) := (bC_ X6.out 0).trans rfl; have z1 : w2.cell? ⟨w.heap.size + 1 + 1, 1, none⟩ = some (.int .i64 0) := (bC_ X6.out 1).trans rfl; have z2 : w2.cell? ⟨w.heap.size + 1 + 1, 2, none⟩ = some (.int .i64 0) := (bC_ X6.out 2).trans rfl; have z3 : w2.cell? ⟨w.heap.size + 1 + 1, 3, none⟩ = some (.int .i64 0) := (bC_ X6.out 3).trans rfl; have z4 : w2.cell? ⟨w.heap.size + 1 + 1, 4, none⟩ = some (.int .i64 0) := (bC_ X6.out 4).trans rfl; have z5 : w2.cell? ⟨w.heap.size + 1 + 1, 5, none⟩ = some (.slice none 0 0) := (bC_ X6.out 5).trans rfl; have q0 := bR_ X6.out 0; have q1 := bR_ X6.out 1; have q2 := bR_ X6.out 2; have q3 := bR_ X6.out 3; have q4 := bR_ X6.out 4; have q5 := bR_ X6.out 5; clear hb P3 P4 P6 HB)))
  have X7 : Aq (((((((w2.setCell ⟨w.heap.size + 1 + 1, 0, none⟩ (.int .i64 0)).setCell ⟨w.heap.size + 1 + 1, 1, none⟩ (.int .i64 0)).setCell ⟨w.heap.size + 1 + 1, 2, none⟩ (.int .i64 0)).setCell ⟨w.heap.size + 1 + 1, 3, none⟩ (.int .i64 0)).setCell ⟨w.heap.size + 1 + 1, 4, none⟩ (.int .i64 0)).setCell ⟨w.heap.size + 1 + 1, 5, none⟩ (.slice none 0 0)).heap[w.heap.size + 1 + 1]? = some (.cells #[.int .i64 0, .int .i64 0, .int .i64 0, .int .i64 0, .int .i64 0, .slice none 0 0] 59 (0, 0))) := ⟨bP_ (bP_ (bP_ (bP_ (bP_ (bP_ (X6.out) 0 _ rfl) 1 _ rfl) 2 _ rfl) 3 _ rfl) 4 _ rfl) 5 _ rfl⟩
  have HB7 : Aq (Below w.heap.size w ((((((w2.setCell ⟨w.heap.size + 1 + 1, 0, none⟩ (.int .i64 0)).setCell ⟨w.heap.size + 1 + 1, 1, none⟩ (.int .i64 0)).setCell ⟨w.heap.size + 1 + 1, 2, none⟩ (.int .i64 0)).setCell ⟨w.heap.size + 1 + 1, 3, none⟩ (.int .i64 0)).setCell ⟨w.heap.size + 1 + 1, 4, none⟩ (.int .i64 0)).setCell ⟨w.heap.size + 1 + 1, 5, none⟩ (.slice none 0 0))) := ⟨bT_ (bT_ (bT_ (bT_ (bT_ (bT_ (HB2.out) (by omega)) (by omega)) (by omega)) (by omega)) (by omega)) (by omega)⟩
  generalize ((((((w2.setCell ⟨w.heap.size + 1 + 1, 0, none⟩ (.int .i64 0)).setCell ⟨w.heap.size + 1 + 1, 1, none⟩ (.int .i64 0)).setCell ⟨w.heap.size + 1 + 1, 2, none⟩ (.int .i64 0)).setCell ⟨w.heap.size + 1 + 1, 3, none⟩ (.int .i64 0)).setCell ⟨w.heap.size + 1 + 1, 4, none⟩ (.int .i64 0)).setCell ⟨w.heap.size + 1 + 1, 5, none⟩ (.slice none 0 0)) = w4 at X7 HB7 ⊢
  exact bodyPost_ret (results_ct rfl _ _ (w.heap.size + 1 + 1) 59 #[.int .i64 0, .int .i64 0, .int .i64 0, .int .i64 0, .int .i64 0, .slice none 0 0] (0, 0) _ rfl X7.out (Tryz.underlying59) rfl (by kernel_rfl)) rfl ⟨.slice none 0 0, by rw [HE.out]; rfl, by rw [HE.out]; exact Kd.R_nil _ _ _ _ _, HB7.out⟩
 | true =>
  have ho := fees_ok hfb
  have HFe := Aq.mk (award_Fees.calls 1 R.f0 R.f1 R.f2 R.f3 R.f4.f0 R.f4.f1 R.f5 R.f6 R.f7 S.f0 S.f1 S.f2 S.f3 S.f4 S.f5 S.f6 S.f7 S.f8 (cartF R S) (storeF R S) 0 (((w.alloc (.cells #[.int .i64 R.f0, .int .i64 R.f1, .int .i64 R.f2, .string R.f3, .int .i64 R.f4.f0, .int .i64 R.f4.f1, .int .i64 R.f5, .int .i64 R.f6, .int .i64 R.f7] 26)).alloc (.cells #[.int .i64 S.f0, .int .i64 S.f1, .int .i64 S.f2, .int .i64 S.f3, .int .i64 S.f4, .int .i64 S.f5, .int .i64 S.f6, .int .i64 S.f7, .int .i64 S.f8] 39)).alloc (.cells #[.int .i64 0, .int .i64 0, .int .i64 0, .int .i64 0, .int .i64 0, .slice none 0 0] 59)) (by rw [fees_f, hfb]; rfl))
  have HPa := Aq.mk (fun W (hb : Below w.heap.size w W) => award_areParties.calls A c F (partiesB F) W (Kd.C_below HC.out hb) HC1.out rfl)
  cases hpb : partiesB F with
  | false =>
   rw [hpb] at HPa
   have HE : Aq (r = (0, 0, 0, 0, 0, [], 1)) := ⟨by rw [HQ.out]; unfold awardedF; rw [hfb, hpb]; rfl⟩
   clear hfb hpb HQ HC HC1 ho
   generalize cartF R S = ca at HFe
   generalize storeF R S = st at HFe
   go_enter Tryz.func37, Tryz.ntmps37
   go_wp2_with (first | (go_at_call 24; go_must ((with_reducible refine HFe.out.mono ?_); rintro e w2 ⟨rfl, hb⟩; have HB2 := Aq.mk (bS_ HB.out hb); have X3 := Aq.mk (bB_ P3.out hb); have X4 := Aq.mk (bB_ P4.out hb); have X6 := Aq.mk (bB_ P6.out hb); clear hb P3 P4 P6 HB)) | (go_at_call 67; go_must ((with_reducible refine (HPa.out _ HB2.out).mono ?_); rintro e w3 ⟨rfl, hb⟩; have HB3 := Aq.mk (bS_ HB2.out hb); have Y6 := Aq.mk (bB_ X6.out hb); have z0 : w3.cell? ⟨w.heap.size + 1 + 1, 0, none⟩ = some (.int .i64 0) := (bC_ Y6.out 0).trans rfl; have z1 : w3.cell? ⟨w.heap.size + 1 + 1, 1, none⟩ = some (.int .i64 0) := (bC_ Y6.out 1).trans rfl; have z2 : w3.cell? ⟨w.heap.size + 1 + 1, 2, none⟩ = some (.int .i64 0) := (bC_ Y6.out 2).trans rfl; have z3 : w3.cell? ⟨w.heap.size + 1 + 1, 3, none⟩ = some (.int .i64 0) := (bC_ Y6.out 3).trans rfl; have z4 : w3.cell? ⟨w.heap.size + 1 + 1, 4, none⟩ = some (.int .i64 0) := (bC_ Y6.out 4).trans rfl; have z5 : w3.cell? ⟨w.heap.size + 1 + 1, 5, none⟩ = some (.slice none 0 0) := (bC_ Y6.out 5).trans rfl; have q0 := bR_ Y6.out 0; have q1 := bR_ Y6.out 1; have q2 := bR_ Y6.out 2; have q3 := bR_ Y6.out 3; have q4 := bR_ Y6.out 4; have q5 := bR_ Y6.out 5; clear hb)))
   have X7 : Aq (((((((w3.setCell ⟨w.heap.size + 1 + 1, 0, none⟩ (.int .i64 0)).setCell ⟨w.heap.size + 1 + 1, 1, none⟩ (.int .i64 0)).setCell ⟨w.heap.size + 1 + 1, 2, none⟩ (.int .i64 0)).setCell ⟨w.heap.size + 1 + 1, 3, none⟩ (.int .i64 0)).setCell ⟨w.heap.size + 1 + 1, 4, none⟩ (.int .i64 0)).setCell ⟨w.heap.size + 1 + 1, 5, none⟩ (.slice none 0 0)).heap[w.heap.size + 1 + 1]? = some (.cells #[.int .i64 0, .int .i64 0, .int .i64 0, .int .i64 0, .int .i64 0, .slice none 0 0] 59 (0, 0))) := ⟨bP_ (bP_ (bP_ (bP_ (bP_ (bP_ (Y6.out) 0 _ rfl) 1 _ rfl) 2 _ rfl) 3 _ rfl) 4 _ rfl) 5 _ rfl⟩
   have HB7 : Aq (Below w.heap.size w ((((((w3.setCell ⟨w.heap.size + 1 + 1, 0, none⟩ (.int .i64 0)).setCell ⟨w.heap.size + 1 + 1, 1, none⟩ (.int .i64 0)).setCell ⟨w.heap.size + 1 + 1, 2, none⟩ (.int .i64 0)).setCell ⟨w.heap.size + 1 + 1, 3, none⟩ (.int .i64 0)).setCell ⟨w.heap.size + 1 + 1, 4, none⟩ (.int .i64 0)).setCell ⟨w.heap.size + 1 + 1, 5, none⟩ (.slice none 0 0))) := ⟨bT_ (bT_ (bT_ (bT_ (bT_ (bT_ (HB3.out) (by omega)) (by omega)) (by omega)) (by omega)) (by omega)) (by omega)⟩
   generalize ((((((w3.setCell ⟨w.heap.size + 1 + 1, 0, none⟩ (.int .i64 0)).setCell ⟨w.heap.size + 1 + 1, 1, none⟩ (.int .i64 0)).setCell ⟨w.heap.size + 1 + 1, 2, none⟩ (.int .i64 0)).setCell ⟨w.heap.size + 1 + 1, 3, none⟩ (.int .i64 0)).setCell ⟨w.heap.size + 1 + 1, 4, none⟩ (.int .i64 0)).setCell ⟨w.heap.size + 1 + 1, 5, none⟩ (.slice none 0 0)) = w4 at X7 HB7 ⊢
   exact bodyPost_ret (results_ct rfl _ _ (w.heap.size + 1 + 1) 59 #[.int .i64 0, .int .i64 0, .int .i64 0, .int .i64 0, .int .i64 0, .slice none 0 0] (0, 0) _ rfl X7.out (Tryz.underlying59) rfl (by kernel_rfl)) rfl ⟨.slice none 0 0, by rw [HE.out]; rfl, by rw [HE.out]; exact Kd.R_nil _ _ _ _ _, HB7.out⟩
  | true =>
   rw [hpb] at HPa
   have HQ2 : Aq (r = awardedF R S F) := HQ
   have HFB := Aq.mk hfb
   have HPB := Aq.mk hpb
   clear hfb hpb HQ
   go_enter Tryz.func37, Tryz.ntmps37
   go_wp2_with (first | (go_at_call 24; go_must ((with_reducible refine HFe.out.mono ?_); rintro e w2 ⟨rfl, hb⟩; have HB2 := Aq.mk (bS_ HB.out hb); have X3 := Aq.mk (bB_ P3.out hb); have X4 := Aq.mk (bB_ P4.out hb); have X6 := Aq.mk (bB_ P6.out hb); clear hb P3 P4 P6 HB)) | (go_at_call 67; go_must ((with_reducible refine (HPa.out _ HB2.out).mono ?_); rintro e w3 ⟨rfl, hb⟩; have HB3 := Aq.mk (bS_ HB2.out hb); have Y6 := Aq.mk (bB_ X6.out hb); have Y3 := Aq.mk (bB_ X3.out hb); have Y4 := Aq.mk (bB_ X4.out hb); have k0 : w3.cell? ⟨w.heap.size, 0, none⟩ = some (.int .i64 R.f0) := (bC_ Y3.out 0).trans rfl; have k1 : w3.cell? ⟨w.heap.size, 1, none⟩ = some (.int .i64 R.f1) := (bC_ Y3.out 1).trans rfl; have k2 : w3.cell? ⟨w.heap.size, 2, none⟩ = some (.int .i64 R.f2) := (bC_ Y3.out 2).trans rfl; have k3 : w3.cell? ⟨w.heap.size, 3, none⟩ = some (.string R.f3) := (bC_ Y3.out 3).trans rfl; have k4 : w3.cell? ⟨w.heap.size, 4, none⟩ = some (.int .i64 R.f4.f0) := (bC_ Y3.out 4).trans rfl; have k5 : w3.cell? ⟨w.heap.size, 5, none⟩ = some (.int .i64 R.f4.f1) := (bC_ Y3.out 5).trans rfl; have k6 : w3.cell? ⟨w.heap.size, 6, none⟩ = some (.int .i64 R.f5) := (bC_ Y3.out 6).trans rfl; have k7 : w3.cell? ⟨w.heap.size, 7, none⟩ = some (.int .i64 R.f6) := (bC_ Y3.out 7).trans rfl; have k8 : w3.cell? ⟨w.heap.size, 8, none⟩ = some (.int .i64 R.f7) := (bC_ Y3.out 8).trans rfl; have m0 : w3.cell? ⟨w.heap.size + 1, 0, none⟩ = some (.int .i64 S.f0) := (bC_ Y4.out 0).trans rfl; have m1 : w3.cell? ⟨w.heap.size + 1, 1, none⟩ = some (.int .i64 S.f1) := (bC_ Y4.out 1).trans rfl; have m2 : w3.cell? ⟨w.heap.size + 1, 2, none⟩ = some (.int .i64 S.f2) := (bC_ Y4.out 2).trans rfl; have m3 : w3.cell? ⟨w.heap.size + 1, 3, none⟩ = some (.int .i64 S.f3) := (bC_ Y4.out 3).trans rfl; have m4 : w3.cell? ⟨w.heap.size + 1, 4, none⟩ = some (.int .i64 S.f4) := (bC_ Y4.out 4).trans rfl; have m5 : w3.cell? ⟨w.heap.size + 1, 5, none⟩ = some (.int .i64 S.f5) := (bC_ Y4.out 5).trans rfl; have m6 : w3.cell? ⟨w.heap.size + 1, 6, none⟩ = some (.int .i64 S.f6) := (bC_ Y4.out 6).trans rfl; have m7 : w3.cell? ⟨w.heap.size + 1, 7, none⟩ = some (.int .i64 S.f7) := (bC_ Y4.out 7).trans rfl; have m8 : w3.cell? ⟨w.heap.size + 1, 8, none⟩ = some (.int .i64 S.f8) := (bC_ Y4.out 8).trans rfl; clear hb X3 X4 X6 HB2)))
   have HPot : Aq (Pot w3 w3.heap.size 0 0 0 0 0 R S (.slice A F.length c) [] (w3.alloc (.cells (potV 0 0 0 0 0 R S (.slice A F.length c) (.slice none 0 0)) 104))) := ⟨.slice none 0 0, heap_alloc_new w3 _, Kd.R_nil _ _ _ _ _, bA_ (Below.refl _ _) _, Nat.le_refl _⟩
   have Z6 := Aq.mk (bL_ Y6.out (.cells (potV 0 0 0 0 0 R S (.slice A F.length c) (.slice none 0 0)) 104))
   have Z4 := Aq.mk (bL_ Y4.out (.cells (potV 0 0 0 0 0 R S (.slice A F.length c) (.slice none 0 0)) 104))
   have HBg : Aq (w.heap.size + 1 + 1 < w3.heap.size) := ⟨(Array.getElem?_eq_some_iff.1 Y6.out).1⟩
   clear k0 k1 k2 k3 k4 k5 k6 k7 k8 m0 m1 m2 m3 m4 m5 m6 m7 m8 Y3 Y4
   unfold potV at HPot Z6 Z4
   generalize w3.alloc (.cells #[.int .i64 0, .int .i64 0, .int .i64 0, .int .i64 0, .int .i64 0, .slice none 0 0, .int .i64 R.f0, .int .i64 R.f1, .int .i64 R.f2, .string R.f3, .int .i64 R.f4.f0, .int .i64 R.f4.f1, .int .i64 R.f5, .int .i64 R.f6, .int .i64 R.f7, .int .i64 S.f0, .int .i64 S.f1, .int .i64 S.f2, .int .i64 S.f3, .int .i64 S.f4, .int .i64 S.f5, .int .i64 S.f6, .int .i64 S.f7, .int .i64 S.f8, .slice A F.length c, .slice none 0 0] 104) = w5 at HPot Z6 Z4 ⊢
   obtain ⟨g, hg⟩ : ∃ g, g = w3.heap.size := ⟨_, rfl⟩
   rw [← hg] at HPot HBg ⊢
   clear hg
   have m4 : w5.cell? ⟨w.heap.size + 1, 4, none⟩ = some (.int .i64 S.f4) := (bC_ Z4.out 4).trans rfl
   obtain ⟨sv5, hX5⟩ := HPot.out.cells
   have c0 : w5.cell? ⟨g, 0, none⟩ = some (.int .i64 0) := (bC_ hX5 0).trans rfl
   have c4 : w5.cell? ⟨g, 4, none⟩ = some (.int .i64 0) := (bC_ hX5 4).trans rfl
   have d0 := bR_ hX5 0
   have d4 := bR_ hX5 4
   clear hX5
   go_region
   rename_i hK2
   refine hK2 _ _ ?_
   clear hK2 Z6 Z4 m4 c0 c4 d0 d4
   have HPc := Aq.mk ((((HPot.out.set (j := 0) (v := .int .i64 S.f4) (p' := S.f4) (c' := 0) (s' := 0) (f' := 0) (r' := 0) (fun sv => rfl)).set (j := 4) (v := .int .i64 S.f4) (p' := S.f4) (c' := 0) (s' := 0) (f' := 0) (r' := S.f4) (fun sv => rfl))).below (Below.drew (Below.refl _ _)))
   clear HPot
   generalize ((w5.setCell ⟨g, 0, none⟩ (.int .i64 S.f4)).setCell ⟨g, 4, none⟩ (.int .i64 S.f4)).drew = w6 at HPc ⊢
   have hmf : ∀ (fn : Fn) (first cap : Array Value) (w : World), (Instr.makeFunc fn first cap).run Tryz.prog w = .ok (.func fn first cap) w := fun _ _ _ _ => rfl
   have HC3 := Aq.mk (Kd.C_below HC.out HB3.out)
   clear HC HPa HFe
   obtain ⟨ca, hca⟩ : ∃ ca, ca = cartF R S := ⟨_, rfl⟩
   obtain ⟨st, hst⟩ : ∃ st, st = storeF R S := ⟨_, rfl⟩
   have HFf := Aq.mk (show award_Fees.f 1 R.f0 R.f1 R.f2 R.f3 R.f4.f0 R.f4.f1 R.f5 R.f6 R.f7 S.f0 S.f1 S.f2 S.f3 S.f4 S.f5 S.f6 S.f7 S.f8 = some (ca, st, 0) by rw [fees_f, HFB.out, hca, hst]; rfl)
   have hcb := cartF_bd ho
   have hsb := storeF_bd ho
   rw [← hca] at hcb
   rw [← hst] at hsb
   obtain ⟨c1, hc1⟩ : ∃ c1, c1 = mn ca S.f4 := ⟨_, rfl⟩
   have b1 : 0 ≤ c1 ∧ c1 ≤ S.f4 := by rw [hc1]; unfold mn; have := ho.price0; split <;> omega
   obtain ⟨s1, hs1⟩ : ∃ s1, s1 = mn st (S.f4 - c1) := ⟨_, rfl⟩
   have b2 : 0 ≤ s1 ∧ s1 ≤ S.f4 - c1 := by rw [hs1]; unfold mn; split <;> omega
   have hpn0 : 0 ≤ S.f4 * R.f4.f0 := Int.mul_nonneg (by have := ho.price0; omega) ho.num0
   have hpn1 : S.f4 * R.f4.f0 ≤ 1000000000 * 1000000 := Int.mul_le_mul ho.price1 (by have := ho.num1; have := ho.den1; omega) ho.num0 (by omega)
   have htd : (S.f4 * R.f4.f0).tdiv R.f4.f1 = S.f4 * R.f4.f0 / R.f4.f1 := Int.tdiv_eq_ediv_of_nonneg hpn0
   have hq0 : 0 ≤ S.f4 * R.f4.f0 / R.f4.f1 := Int.ediv_nonneg hpn0 (by have := ho.den0; omega)
   have hq1 : S.f4 * R.f4.f0 / R.f4.f1 ≤ S.f4 * R.f4.f0 := Int.ediv_le_self _ hpn0
   obtain ⟨f1, hf1⟩ : ∃ f1, f1 = mn ((S.f4 * R.f4.f0).tdiv R.f4.f1) (S.f4 - c1 - s1) := ⟨_, rfl⟩
   have b3 : 0 ≤ f1 ∧ f1 ≤ S.f4 - c1 - s1 := by rw [hf1, htd]; unfold mn; split <;> omega
   have HE : Aq (r = (S.f4, c1, s1, f1, S.f4 - c1 - s1 - f1, mergedL ([] ++ [⟨S.f5, c1⟩] ++ [⟨S.f6, s1⟩] ++ zipS F (equalL f1 F.length)), 0)) := ⟨by
    rw [HQ2.out]
    unfold awardedF
    rw [HFB.out, HPB.out, ← hca, ← hst, ← hc1, ← hs1, ← htd, ← hf1]
    rfl⟩
   have hpl := parties_len HPB.out
   have H0 : Aq (∀ W, Pot w3 g S.f4 0 0 0 S.f4 R S (.slice A F.length c) [] W → Calls Tryz.prog 75 #[.pointer (some ⟨g, 0, none⟩)] W fun e w' => e = .returned (.tuple #[]) ∧ Pot w3 g S.f4 c1 0 0 (S.f4 - c1) R S (.slice A F.length c) ([] ++ [⟨S.f5, c1⟩]) w') := ⟨fun W h => by
    have z := carting_any w3 W g S.f4 0 0 0 S.f4 R S (.slice A F.length c) [] h (by simp) 1 ca st HFf.out (by rw [← hc1]; exact IntWalk.i64_in _ (by have := ho.price1; omega))
    rw [← hc1] at z
    exact z⟩
   have H1 : Aq (∀ W, Pot w3 g S.f4 c1 0 0 (S.f4 - c1) R S (.slice A F.length c) ([] ++ [⟨S.f5, c1⟩]) W → Calls Tryz.prog 76 #[.pointer (some ⟨g, 0, none⟩)] W fun e w' => e = .returned (.tuple #[]) ∧ Pot w3 g S.f4 c1 s1 0 (S.f4 - c1 - s1) R S (.slice A F.length c) ([] ++ [⟨S.f5, c1⟩] ++ [⟨S.f6, s1⟩]) w') := ⟨fun W h => by
    have z := storing_any w3 W g S.f4 c1 0 0 (S.f4 - c1) R S (.slice A F.length c) _ h (by simp) 1 ca st HFf.out (by rw [← hs1]; exact IntWalk.i64_in _ (by have := ho.price1; omega))
    rw [← hs1] at z
    exact z⟩
   have H2 : Aq (∀ W, Pot w3 g S.f4 c1 s1 0 (S.f4 - c1 - s1) R S (.slice A F.length c) ([] ++ [⟨S.f5, c1⟩] ++ [⟨S.f6, s1⟩]) W → Calls Tryz.prog 77 #[.pointer (some ⟨g, 0, none⟩)] W fun e w' => e = .returned (.tuple #[]) ∧ Pot w3 g S.f4 c1 s1 f1 (S.f4 - c1 - s1 - f1) R S (.slice A F.length c) ([] ++ [⟨S.f5, c1⟩] ++ [⟨S.f6, s1⟩] ++ zipS F (equalL f1 F.length)) w') := ⟨fun W h => by
    have z := finding_any w3 W g S.f4 c1 s1 0 (S.f4 - c1 - s1) R S A c F _ h (by simp) HC3.out HC1.out hpl.2 (by have := ho.den0; omega) (IntWalk.i64_in _ (by omega)) (IntWalk.i64_in _ (by rw [htd]; omega)) (by rw [← hf1]; exact IntWalk.i64_in _ (by have := ho.price1; omega)) 50 (equalL f1 F.length) (by rw [← hf1, equal_f _ _ _ (Nat.le_refl _), inB_iff.2 ⟨b3.1, by have := ho.price1; omega⟩, HPB.out]; rfl) (equal_len _ _) (by rw [equal_len]; omega)
    rw [← hf1] at z
    exact z⟩
   have HPr := Aq.mk (show 0 ≤ S.f5 ∧ S.f5 ≤ 40 ∧ 0 ≤ S.f6 ∧ S.f6 ≤ 40 from ⟨ho.carter0, ho.carter1, ho.keeper0, ho.keeper1⟩)
   clear HFf hca hst hcb hsb hc1 hs1 hf1 b1 b2 b3 hpn0 hpn1 htd hq0 hq1 ho HFB HQ2
   have e75 : ∀ args w, (callFunc 75 args).run Tryz.prog w = .ok (.enter 75 args) w := enters_of Tryz.func75 (by kernel_rfl) rfl
   have e76 : ∀ args w, (callFunc 76 args).run Tryz.prog w = .ok (.enter 76 args) w := enters_of Tryz.func76 (by kernel_rfl) rfl
   have e77 : ∀ args w, (callFunc 77 args).run Tryz.prog w = .ok (.enter 77 args) w := enters_of Tryz.func77 (by kernel_rfl) rfl
   go_wp2
   go_loopg [53] 3 (fun gg s53 wr => ∃ kk : Nat, kk ≤ 3 ∧ 3 - kk ≤ gg ∧ s53 = .int .i64 kk ∧ Aq (kk = 0 → Pot w3 g S.f4 0 0 0 S.f4 R S (.slice A F.length c) [] wr) ∧ Aq (kk = 1 → Pot w3 g S.f4 c1 0 0 (S.f4 - c1) R S (.slice A F.length c) ([] ++ [⟨S.f5, c1⟩]) wr) ∧ Aq (kk = 2 → Pot w3 g S.f4 c1 s1 0 (S.f4 - c1 - s1) R S (.slice A F.length c) ([] ++ [⟨S.f5, c1⟩] ++ [⟨S.f6, s1⟩]) wr) ∧ Aq (kk = 3 → Pot w3 g S.f4 c1 s1 f1 (S.f4 - c1 - s1 - f1) R S (.slice A F.length c) ([] ++ [⟨S.f5, c1⟩] ++ [⟨S.f6, s1⟩] ++ zipS F (equalL f1 F.length)) wr))
   case atStart => exact ⟨0, by omega, by omega, rfl, ⟨fun _ => HPc.out⟩, ⟨fun h => absurd h (by omega)⟩, ⟨fun h => absurd h (by omega)⟩, ⟨fun h => absurd h (by omega)⟩⟩
   case round =>
    clear HPc
    obtain ⟨kk, hkk, hg, rfl, K0, K1, K2, K3⟩ := hrel
    rcases (by omega : kk = 0 ∨ kk = 1 ∨ kk = 2 ∨ kk = 3) with rfl | rfl | rfl | rfl
    ·have HH := Aq.mk (H0.out wr (K0.out rfl))
     have hix := fun w y z => ix0 (.func 75) #[.pointer (some ⟨g, 0, none⟩)] #[] y z w
     clear K0 K1 K2 K3
     go_wp2_with (first | (go_at_call 75; go_must ((with_reducible refine HH.out.mono ?_); rintro e w7 ⟨rfl, hp⟩; have HP7 := Aq.mk hp; clear hp HH)))
     go_roundg 2
     case measure => omega
     case rel => exact ⟨1, by omega, by omega, by go_num, ⟨fun h => absurd h (by omega)⟩, ⟨fun _ => HP7.out⟩, ⟨fun h => absurd h (by omega)⟩, ⟨fun h => absurd h (by omega)⟩⟩
    ·have HH := Aq.mk (H1.out wr (K1.out rfl))
     have hix := fun w y z => ix1 (.func 76) #[.pointer (some ⟨g, 0, none⟩)] #[] y z w
     clear K0 K1 K2 K3
     go_wp2_with (first | (go_at_call 76; go_must ((with_reducible refine HH.out.mono ?_); rintro e w7 ⟨rfl, hp⟩; have HP7 := Aq.mk hp; clear hp HH)))
     go_roundg 1
     case measure => omega
     case rel => exact ⟨2, by omega, by omega, by go_num, ⟨fun h => absurd h (by omega)⟩, ⟨fun h => absurd h (by omega)⟩, ⟨fun _ => HP7.out⟩, ⟨fun h => absurd h (by omega)⟩⟩
    ·have HH := Aq.mk (H2.out wr (K2.out rfl))
     have hix := fun w y z => ix2 (.func 77) #[.pointer (some ⟨g, 0, none⟩)] #[] y z w
     clear K0 K1 K2 K3
     go_wp2_with (first | (go_at_call 77; go_must ((with_reducible refine HH.out.mono ?_); rintro e w7 ⟨rfl, hp⟩; have HP7 := Aq.mk hp; clear hp HH)))
     go_roundg 0
     case measure => omega
     case rel => exact ⟨3, by omega, by omega, by go_num, ⟨fun h => absurd h (by omega)⟩, ⟨fun h => absurd h (by omega)⟩, ⟨fun h => absurd h (by omega)⟩, ⟨fun _ => HP7.out⟩⟩
    ·have HP := Aq.mk (K3.out rfl)
     clear K0 K1 K2 K3 H0 H1 H2 e75 e76 e77
     obtain ⟨LL, hLL⟩ : ∃ LL, LL = ([] ++ [⟨S.f5, c1⟩] ++ [⟨S.f6, s1⟩] ++ zipS F (equalL f1 F.length) : List S69) := ⟨_, rfl⟩
     have hmo : mergedOk LL = true := by
      rw [hLL]
      unfold mergedOk
      rw [Bool.and_eq_true, decide_eq_true_eq, List.all_eq_true]
      refine ⟨by have := zip_len F (equalL f1 F.length); simp; omega, fun x hx => ?_⟩
      simp only [List.nil_append, List.cons_append, List.mem_cons] at hx
      obtain ⟨h1, h2, h3, h4⟩ := HPr.out
      rcases hx with rfl | rfl | hx
      ·exact inB_iff.2 ⟨h1, h2⟩
      ·exact inB_iff.2 ⟨h3, h4⟩
      ·have hm := zip_mem hx
       have hp := HPB.out
       unfold partiesB at hp
       rw [Bool.and_eq_true, Bool.not_eq_true', List.any_eq_false] at hp
       have hq := inB_iff.1 (by simpa using hp.2 _ hm : inB x.f0 1 40 = true)
       exact inB_iff.2 ⟨by omega, hq.2⟩
     rw [← hLL] at HE HP
     obtain ⟨sv, hX, hRs, hBw, hge⟩ := HP.out
     obtain ⟨As, cs, hsv, hcs, hks⟩ := Kd.R_reads hRs
     subst hsv
     have HM := Aq.mk (award_merged.calls As cs LL (mergedL LL) wr hks hcs (by unfold award_merged.f; rw [if_pos hmo]))
     have HX : Aq (wr.heap[g]? = some (.cells #[.int .i64 S.f4, .int .i64 c1, .int .i64 s1, .int .i64 f1, .int .i64 (S.f4 - c1 - s1 - f1), .slice none 0 0, .int .i64 R.f0, .int .i64 R.f1, .int .i64 R.f2, .string R.f3, .int .i64 R.f4.f0, .int .i64 R.f4.f1, .int .i64 R.f5, .int .i64 R.f6, .int .i64 R.f7, .int .i64 S.f0, .int .i64 S.f1, .int .i64 S.f2, .int .i64 S.f3, .int .i64 S.f4, .int .i64 S.f5, .int .i64 S.f6, .int .i64 S.f7, .int .i64 S.f8, .slice A F.length c, .slice As LL.length cs] 104 (0, 0))) := ⟨hX⟩
     have HBw := Aq.mk hBw
     have HGE := Aq.mk hge
     have k25 : wr.cell? ⟨g, 25, none⟩ = some (.slice As LL.length cs) := (bC_ HX.out 25).trans rfl
     have hb6 : w.heap.size + 1 + 1 < w3.heap.size := (Array.getElem?_eq_some_iff.1 Y6.out).1
     have W6 := Aq.mk ((hBw.block _ hb6).trans Y6.out)
     clear hX hRs hBw hge hks hmo hLL hcs HP
     go_wp2_with (first | (go_at_call 78; go_must ((with_reducible refine HM.out.mono ?_); rintro e w8 ⟨vm, rfl, hRm, hbm⟩; obtain ⟨Am, nm, cm, em⟩ := slice_any hRm; subst em; have HRm := Aq.mk hRm; have HB8 := Aq.mk (bS_ HBw.out hbm); have X8 := Aq.mk (bB_ HX.out hbm); have V6 := Aq.mk (bB_ W6.out hbm); have hgw : g < wr.heap.size := (Array.getElem?_eq_some_iff.1 HX.out).1; have a0 : w8.cell? ⟨g, 0, none⟩ = some (.int .i64 S.f4) := (bC_ X8.out 0).trans rfl; have a1 : w8.cell? ⟨g, 1, none⟩ = some (.int .i64 c1) := (bC_ X8.out 1).trans rfl; have a2 : w8.cell? ⟨g, 2, none⟩ = some (.int .i64 s1) := (bC_ X8.out 2).trans rfl; have a3 : w8.cell? ⟨g, 3, none⟩ = some (.int .i64 f1) := (bC_ X8.out 3).trans rfl; have a4 : w8.cell? ⟨g, 4, none⟩ = some (.int .i64 (S.f4 - c1 - s1 - f1)) := (bC_ X8.out 4).trans rfl; have a5 : w8.cell? ⟨g, 5, none⟩ = some (.slice none 0 0) := (bC_ X8.out 5).trans rfl; have af5 := bR_ X8.out 5; have z0 : w8.cell? ⟨w.heap.size + 1 + 1, 0, none⟩ = some (.int .i64 0) := (bC_ V6.out 0).trans rfl; have z1 : w8.cell? ⟨w.heap.size + 1 + 1, 1, none⟩ = some (.int .i64 0) := (bC_ V6.out 1).trans rfl; have z2 : w8.cell? ⟨w.heap.size + 1 + 1, 2, none⟩ = some (.int .i64 0) := (bC_ V6.out 2).trans rfl; have z3 : w8.cell? ⟨w.heap.size + 1 + 1, 3, none⟩ = some (.int .i64 0) := (bC_ V6.out 3).trans rfl; have z4 : w8.cell? ⟨w.heap.size + 1 + 1, 4, none⟩ = some (.int .i64 0) := (bC_ V6.out 4).trans rfl; have z5 : w8.cell? ⟨w.heap.size + 1 + 1, 5, none⟩ = some (.slice none 0 0) := (bC_ V6.out 5).trans rfl; have q0 := bR_ V6.out 0; have q1 := bR_ V6.out 1; have q2 := bR_ V6.out 2; have q3 := bR_ V6.out 3; have q4 := bR_ V6.out 4; have q5 := bR_ V6.out 5; have hne : w.heap.size + 1 + 1 ≠ g := Nat.ne_of_lt HBg.out; clear hRm hbm HM HX W6)))
     have HR9 := Aq.mk (Kd.R_far (p := ⟨g, 5, none⟩) (Kd.R_mono (ok' := fun k => k ≠ g ∧ k ≠ w.heap.size + 1 + 1) (Kd.R_bound HRm.out) (fun k hk => ⟨by have := hk.2.1; omega, by have := hk.2.1; have := HBg.out; omega⟩)) (fun k hk => hk.1) (.slice Am nm cm))
     have HB9 := Aq.mk (HB3.out.trans ((bT_ (g := g) (j := 5) HB8.out HGE.out (v := .slice Am nm cm)).mono HB3.out.size))
     have V9 := Aq.mk (bF_ (p := ⟨g, 5, none⟩) V6.out hne (.slice Am nm cm))
     clear HRm HB8 X8 V6 a0 a1 a2 a3 a4 a5 af5 z0 q0 z1 q1 z2 q2 z3 q3 z4 q4 z5 q5
     generalize w8.setCell ⟨g, 5, none⟩ (.slice Am nm cm) = w9 at HR9 HB9 V9 ⊢
     have HR10 := Aq.mk (Kd.R_far (p := ⟨w.heap.size + 1 + 1, 5, none⟩) (Kd.R_far (p := ⟨w.heap.size + 1 + 1, 4, none⟩) (Kd.R_far (p := ⟨w.heap.size + 1 + 1, 3, none⟩) (Kd.R_far (p := ⟨w.heap.size + 1 + 1, 2, none⟩) (Kd.R_far (p := ⟨w.heap.size + 1 + 1, 1, none⟩) (Kd.R_far (p := ⟨w.heap.size + 1 + 1, 0, none⟩) (HR9.out) (fun k hk => hk.2) (.int .i64 S.f4)) (fun k hk => hk.2) (.int .i64 c1)) (fun k hk => hk.2) (.int .i64 s1)) (fun k hk => hk.2) (.int .i64 f1)) (fun k hk => hk.2) (.int .i64 (S.f4 - c1 - s1 - f1))) (fun k hk => hk.2) (.slice Am nm cm))
     have V10 : Aq (((((((w9.setCell ⟨w.heap.size + 1 + 1, 0, none⟩ (.int .i64 S.f4)).setCell ⟨w.heap.size + 1 + 1, 1, none⟩ (.int .i64 c1)).setCell ⟨w.heap.size + 1 + 1, 2, none⟩ (.int .i64 s1)).setCell ⟨w.heap.size + 1 + 1, 3, none⟩ (.int .i64 f1)).setCell ⟨w.heap.size + 1 + 1, 4, none⟩ (.int .i64 (S.f4 - c1 - s1 - f1))).setCell ⟨w.heap.size + 1 + 1, 5, none⟩ (.slice Am nm cm)).heap[w.heap.size + 1 + 1]? = some (.cells #[.int .i64 S.f4, .int .i64 c1, .int .i64 s1, .int .i64 f1, .int .i64 (S.f4 - c1 - s1 - f1), .slice Am nm cm] 59 (0, 0))) := ⟨bP_ (bP_ (bP_ (bP_ (bP_ (bP_ (V9.out) 0 _ rfl) 1 _ rfl) 2 _ rfl) 3 _ rfl) 4 _ rfl) 5 _ rfl⟩
     have HB10 : Aq (Below w.heap.size w ((((((w9.setCell ⟨w.heap.size + 1 + 1, 0, none⟩ (.int .i64 S.f4)).setCell ⟨w.heap.size + 1 + 1, 1, none⟩ (.int .i64 c1)).setCell ⟨w.heap.size + 1 + 1, 2, none⟩ (.int .i64 s1)).setCell ⟨w.heap.size + 1 + 1, 3, none⟩ (.int .i64 f1)).setCell ⟨w.heap.size + 1 + 1, 4, none⟩ (.int .i64 (S.f4 - c1 - s1 - f1))).setCell ⟨w.heap.size + 1 + 1, 5, none⟩ (.slice Am nm cm))) := ⟨bT_ (bT_ (bT_ (bT_ (bT_ (bT_ (HB9.out) (by omega)) (by omega)) (by omega)) (by omega)) (by omega)) (by omega)⟩
     generalize ((((((w9.setCell ⟨w.heap.size + 1 + 1, 0, none⟩ (.int .i64 S.f4)).setCell ⟨w.heap.size + 1 + 1, 1, none⟩ (.int .i64 c1)).setCell ⟨w.heap.size + 1 + 1, 2, none⟩ (.int .i64 s1)).setCell ⟨w.heap.size + 1 + 1, 3, none⟩ (.int .i64 f1)).setCell ⟨w.heap.size + 1 + 1, 4, none⟩ (.int .i64 (S.f4 - c1 - s1 - f1))).setCell ⟨w.heap.size + 1 + 1, 5, none⟩ (.slice Am nm cm)) = w10 at V10 HB10 HR10 ⊢
     exact bodyPost_ret (results_ct rfl _ _ (w.heap.size + 1 + 1) 59 #[.int .i64 S.f4, .int .i64 c1, .int .i64 s1, .int .i64 f1, .int .i64 (S.f4 - c1 - s1 - f1), .slice Am nm cm] (0, 0) _ rfl V10.out (Tryz.underlying59) rfl (by kernel_rfl)) rfl ⟨.slice Am nm cm, by rw [HE.out]; rfl, by rw [HE.out]; exact Kd.R_mono (Kd.R_lower HR10.out (by have := HB3.out.size; have := HBw.out.size; omega)) (fun _ _ => trivial), HB10.out⟩
def award_Awarded.f (a0_0 : Int) (a0_1 : Int) (a0_2 : Int) (a0_3 : ByteArray) (a0_4 : Int) (a0_5 : Int) (a0_6 : Int) (a0_7 : Int) (a0_8 : Int) (a1_0 : Int) (a1_1 : Int) (a1_2 : Int) (a1_3 : Int) (a1_4 : Int) (a1_5 : Int) (a1_6 : Int) (a1_7 : Int) (a1_8 : Int) (l2 : List Int) : Option (Int × Int × Int × Int × Int × (List (S69)) × Int) := some (awardedF ⟨a0_0, a0_1, a0_2, a0_3, ⟨a0_4, a0_5⟩, a0_6, a0_7, a0_8⟩ ⟨a1_0, a1_1, a1_2, a1_3, a1_4, a1_5, a1_6, a1_7, a1_8⟩ l2)
theorem award_Awarded.calls (a0_0 : Int) (a0_1 : Int) (a0_2 : Int) (a0_3 : ByteArray) (a0_4 : Int) (a0_5 : Int) (a0_6 : Int) (a0_7 : Int) (a0_8 : Int) (a1_0 : Int) (a1_1 : Int) (a1_2 : Int) (a1_3 : Int) (a1_4 : Int) (a1_5 : Int) (a1_6 : Int) (a1_7 : Int) (a1_8 : Int) (A2 : Option Addr) (c2 : Nat) (l2 : List Int) (r1 : Int) (r2 : Int) (r3 : Int) (r4 : Int) (r5 : Int) (r6 : List (S69)) (r7 : Int) (w : World) (hr2 : Kd.C (Kd.int .i64) w A2 l2.length l2) (hc2 : l2.length ≤ c2) (h : award_Awarded.f a0_0 a0_1 a0_2 a0_3 a0_4 a0_5 a0_6 a0_7 a0_8 a1_0 a1_1 a1_2 a1_3 a1_4 a1_5 a1_6 a1_7 a1_8 l2 = some (r1, r2, r3, r4, r5, r6, r7)) :
  Calls Tryz.prog 37 #[.agg #[.int .i64 a0_0, .int .i64 a0_1, .int .i64 a0_2, .string a0_3, .int .i64 a0_4, .int .i64 a0_5, .int .i64 a0_6, .int .i64 a0_7, .int .i64 a0_8], .agg #[.int .i64 a1_0, .int .i64 a1_1, .int .i64 a1_2, .int .i64 a1_3, .int .i64 a1_4, .int .i64 a1_5, .int .i64 a1_6, .int .i64 a1_7, .int .i64 a1_8], .slice A2 l2.length c2] w fun e w' => ∃ v0_ : Value, e = .returned (.tuple #[.agg #[.int .i64 r1, .int .i64 r2, .int .i64 r3, .int .i64 r4, .int .i64 r5, v0_], .int .i64 r7]) ∧ Kd.R k69 69 w' w.heap.size (fun _ => True) v0_ r6 ∧ Below w.heap.size w w' :=
 awarded_any ⟨a0_0, a0_1, a0_2, a0_3, ⟨a0_4, a0_5⟩, a0_6, a0_7, a0_8⟩ ⟨a1_0, a1_1, a1_2, a1_3, a1_4, a1_5, a1_6, a1_7, a1_8⟩ A2 c2 l2 w hr2 hc2 (r1, r2, r3, r4, r5, r6, r7) (Option.some.inj h).symm
end
end Go.Proofs.YtbicfbnempiocaaGreat.G
