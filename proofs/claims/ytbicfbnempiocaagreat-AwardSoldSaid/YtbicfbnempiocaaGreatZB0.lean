/- Part 1 of what the law's proof rests on: what each function of the program computes, and that the machine's call of it comes to just that. -/
import Derived.SizedLaws
import Derived.ChangeSlices
import Derived.Below
import Derived.Deep.Draws
import Derived.Deep.AppendLies
import Derived.Maps.AppendAt
import Derived.OwnWalk
import Derived.Laws.BytesArg
import Derived.Laws.MakeOwn
import Derived.Laws.OwnMore
import Derived.Tactics
import Derived.Lib.ConvBytes
import Derived.Laws.Slices
import Derived.WalkKit
import Derived.KernelRfl
import Derived.RowKit3
import Derived.Deep.LoopGhost
import Derived.Deep.QuietTactic
import Derived.BigQuiet
import Derived.WideLaws
import Derived.Deep.DeepCutAuto
import Derived.Deep.CutBlock
import Derived.Deep.RegionHeld3
import Derived.Lib.AppendStr
import Derived.ArgAppend
import Derived.Laws.IdiomCopy
import Derived.RowKit
import Derived.OrdersHeld
import Derived.Laws.BitsLemmas
import Derived.Laws.StructEq
import Derived.Test.YtbicfbnempiocaaGreatProg
import Derived.Shelf.Abstract
import Derived.Defers
import Derived.Recover
import Derived.Laws.Pointers
import Derived.WalkLawsBesides
set_option linter.unusedVariables false
set_option linter.unusedSimpArgs false
section
namespace Go.Proofs.YtbicfbnempiocaaGreatW.PrintWords
open Go.ChangeShapes Go.WideShapes
theorem sized_ints {H : Type} {enc : TypeId × Value → H} {P : Program} {W : World} {base : Nat} {spare : Nat → Bool} {held : Bool} {t e : TypeId} {k : IntKind} {a : Option Addr} {len cap : Nat} {d : DataW H} {ps : List MemPlace} {ts : List TypeId} {ds : List (DataW H)} {j : Nat}
  (hsz : (DataW.weightsEach P ts ds).all (· ≤ reachBytes) = true) (ht : ts[j]? = some t) (hd : ds[j]? = some d) (hu : P.underlying t = some (.slice e)) (he : P.underlying e = some (.int k)) (hc : P.cellsOf e = 1) {B : Nat} (hB : P.bytesOf e = B)
  (h : DataW.Trod enc P W base spare held t (.slice a len cap) d ps) : len * B ≤ 140737488351232 := by
 obtain ⟨fuel, hf⟩ := h
 rcases open_ints hu he hc hf with ⟨hcs, _⟩ | ⟨x, l, c, zs, hcs, _, hl, _, hz, hx, _, _⟩
 ·simp [Value.cells] at hcs
  obtain ⟨rfl, rfl, rfl⟩ := hcs
  simp
 ·simp [Value.cells] at hcs
  obtain ⟨rfl, rfl, rfl⟩ := hcs
  obtain ⟨hx, _⟩ := Prod.mk.inj hx
  subst hx
  have z := sized_slice hsz ht hd hu
  rw [hB] at z
  have hl2 : len ≤ zs.length := by
   rw [hz]
   split
   ·exact hl
   ·exact Nat.le_refl _
  have h1 : (lits (H := H) k (zs.take len)).length + (lits (H := H) k (zs.drop len)).length = zs.length := by
   simp [lits]
   omega
  rw [h1] at z
  exact Nat.le_trans (Nat.mul_le_mul_right _ hl2) z
end Go.Proofs.YtbicfbnempiocaaGreatW.PrintWords
end
section
namespace Go.Proofs.YtbicfbnempiocaaGreatW.PrintWords
open Go.RowKit
structure Aq (p : Prop) : Prop where mk :: (out : p)
structure Drawn0 (w w' : World) : Prop where mk :: (out : ∃ n, w' = w.drewN n)
theorem Drawn0.refl (w : World) : Drawn0 w w := ⟨⟨0, rfl⟩⟩
theorem Drawn0.step {w w' : World} (h : Drawn0 w w') (n : Nat) : Drawn0 w (w'.drewN n) := by
 obtain ⟨m, rfl⟩ := h
 exact ⟨⟨m + n, World.drewN_drewN ..⟩⟩
theorem Drawn0.below {w w' : World} (h : Drawn0 w w') : Below w.heap.size w w' := by
 obtain ⟨n, rfl⟩ := h
 induction n with
 | zero => exact Below.refl _ _
 | succ n ih => rw [← World.drew_drewN]; exact ih.drew
def rd (xs : List Int) (i : Int) : Int := xs.getD i.toNat 0
def bt (s : ByteArray) (i : Int) : Int := if h : i.toNat < s.size then ((s[i.toNat]'h).toNat : Int) else 0
theorem bt_at (s : ByteArray) (i : Int) : ∀ h : i.toNat < s.size, ((s[i.toNat]'h).toNat : Int) = bt s i := fun h => by simp [bt, h]
theorem bA_ {w W : World} (h : Below w.heap.size w W) (o : Obj) : Below w.heap.size w (W.alloc o) := h.alloc h.size o
theorem below_drew {B : Nat} {w W : World} (h : Below B w W) : Below B w W.drew := ⟨h.os, h.tape, h.output, h.size, h.block⟩
theorem pN_ {B : Nat} {w W : World} (h : Below B w W) (n : Nat) : Below B w (W.drewN n) := ⟨h.os, h.tape, h.output, h.size, h.block⟩
theorem below_then {B : Nat} {w w1 w2 : World} (h : Below B w w1) (hB : B ≤ w1.heap.size) (k : Below w1.heap.size w1 w2) : Below B w w2 :=
 h.trans ⟨k.os, k.tape, k.output, k.size, fun i hi => k.block i (Nat.lt_of_lt_of_le hi hB)⟩
theorem pw_below_grown {B : Nat} {w w1 : World} (h : Below B w w1) (row : Option Nat) (hB : B ≤ w1.heap.size) {w2 : World} (hg : w1.grownBy w2 row) (hr : ∀ k, row = some k → B ≤ k) : Below B w w2 := h.grown hg hB hr
theorem pC_ {w w1 : World} (h : Below w.heap.size w w1) {a : Addr} {v : Value} (hc : w.cell? a = some v) : w1.cell? a = some v := (h.cell (World.block_lt_of_cell? w a hc)).trans hc
theorem add_plain (g j : Nat) : (⟨g, 0, none⟩ : Addr).add j = ⟨g, j, none⟩ := by unfold Addr.add; split <;> simp_all
def ReadsInt (w : World) (k : IntKind) (A : Option Addr) (n : Nat) (xs : List Int) : Prop :=
 xs.length = n ∧ n ≤ 9223372036854775807 ∧ (0 < n → ∃ ad, A = some ad ∧ ∀ j, j < n → w.cell? (ad.add j) = some (.int k (xs.getD j 0)))
theorem ReadsInt.at_ {w : World} {k : IntKind} {A : Option Addr} {n : Nat} {xs : List Int} (h : ReadsInt w k A n xs) (i : Int) (h0 : 0 ≤ i) (h1 : i < n) : ∃ ad, A = some ad ∧ w.cell? (ad.add i.toNat) = some (.int k (rd xs i)) := by
 obtain ⟨ad, e, hc⟩ := h.2.2 (by omega)
 exact ⟨ad, e, hc _ (by omega)⟩
theorem own_nil (W : World) (base : Nat) (e : TypeId) (size : Nat) : W.ownsRow base e size (.slice none 0 0) 0 [] := ⟨by simp, .inl ⟨rfl, rfl⟩⟩
theorem own_base {w : World} {base : Nat} {e : TypeId} {size n : Nat} {v : Value} {xs : List Value} (h : w.ownsRow base e size v n xs) (k : Nat) (hk : v.ownBlock = some k) : base ≤ k := by
 rcases h.2 with ⟨rfl, _⟩ | ⟨g, cap, cur, rfl, hb, _⟩
 ·simp [Value.ownBlock] at hk
 ·have : g = k := by simpa [Value.ownBlock] using hk
  omega
theorem own_lt {w : World} {base : Nat} {e : TypeId} {size n : Nat} {v : Value} {xs : List Value} (h : w.ownsRow base e size v n xs) (k : Nat) (hk : v.ownBlock = some k) : k < w.heap.size := by
 rcases h.2 with ⟨rfl, _⟩ | ⟨g, cap, cur, rfl, hb, hh, _⟩
 ·simp [Value.ownBlock] at hk
 ·have : g = k := by simpa [Value.ownBlock] using hk
  subst this
  exact (Array.getElem?_eq_some_iff.1 hh).1
def bytesOf (s : ByteArray) : List Int := s.data.toList.map fun b => (b.toNat : Int)
theorem data_length (s : ByteArray) : s.data.toList.length = s.size := by rw [Array.length_toList]; rfl
theorem bytesOf_length (s : ByteArray) : (bytesOf s).length = s.size := by rw [bytesOf, List.length_map, data_length]
def Reps {α : Type} (R : α → List Value → Prop) (size : Nat) (ps : List α) (cs : List Value) : Prop :=
 cs.length = ps.length * size ∧ ∀ j p, ps[j]? = some p → R p ((cs.drop (j * size)).take size)
theorem Reps.none {α : Type} (R : α → List Value → Prop) (size : Nat) : Reps R size [] [] := ⟨by simp, fun j p h => by simp at h⟩
theorem Reps.snoc {α : Type} {R : α → List Value → Prop} {size : Nat} {ps : List α} {cs c : List Value} {p : α} (h : Reps R size ps cs) (hp : R p c) (hc : c.length = size) : Reps R size (ps ++ [p]) (cs ++ c) := by
 refine ⟨by rw [List.length_append, h.1, hc, List.length_append, List.length_singleton, Nat.add_mul, Nat.one_mul], fun j q hq => ?_⟩
 rcases Nat.lt_or_ge j ps.length with hj | hj
 ·rw [List.getElem?_append_left hj] at hq
  have h1 : j * size + size ≤ cs.length := by rw [h.1, ← Nat.succ_mul]; exact Nat.mul_le_mul_right _ hj
  have h2 := h.2 j q hq
  rw [List.drop_append_of_le_length (by omega), List.take_append_of_le_length (by rw [List.length_drop]; omega)]
  exact h2
 ·have hj' : j = ps.length := by
   have := (List.getElem?_eq_some_iff.1 hq).1
   rw [List.length_append, List.length_singleton] at this
   omega
  subst hj'
  have hq' : p = q := by simpa using hq
  subst hq'
  rw [← h.1, List.drop_left, ← hc, List.take_length]
  exact hp
theorem Reps.imp_ {α : Type} {R R' : α → List Value → Prop} {size : Nat} {ps : List α} {cs : List Value} (h : Reps R size ps cs) (hR : ∀ p c, R p c → R' p c) : Reps R' size ps cs := ⟨h.1, fun j p hj => hR _ _ (h.2 j p hj)⟩
def ReadsRow {α : Type} (R : α → List Value → Prop) (size : Nat) (w : World) (A : Option Addr) (n : Nat) (ps : List α) : Prop :=
 ps.length = n ∧ n ≤ 9223372036854775807 ∧ (0 < n → ∃ ad, A = some ad ∧ ∀ j p, ps[j]? = some p → ∃ c, c.length = size ∧ R p c ∧ ∀ i u, c[i]? = some u → w.cell? (ad.add (j * size + i)) = some u)
theorem ReadsRow.get_ {α : Type} {R : α → List Value → Prop} {size : Nat} {w : World} {A : Option Addr} {n : Nat} {ps : List α} (h : ReadsRow R size w A n ps) (d : α) (i : Int) (h0 : 0 ≤ i) (h1 : i < n) :
  ∃ ad c, A = some ad ∧ c.length = size ∧ R (ps.getD i.toNat d) c ∧ ∀ j u, c[j]? = some u → w.cell? (ad.add (i.toNat * size + j)) = some u := by
 obtain ⟨ad, e, hc⟩ := h.2.2 (by omega)
 have hl : i.toNat < ps.length := by have := h.1; omega
 obtain ⟨c, hs, hr, hcell⟩ := hc i.toNat _ (List.getElem?_eq_getElem hl)
 refine ⟨ad, c, e, hs, ?_, hcell⟩
 rw [List.getD_eq_getElem?_getD, List.getElem?_eq_getElem hl]
 exact hr
theorem ReadsRow.imp_ {α : Type} {R R' : α → List Value → Prop} {size : Nat} {w w1 : World} {A : Option Addr} {n : Nat} {ps : List α} (h : ReadsRow R size w A n ps) (hb : Below w.heap.size w w1) (hR : ∀ p c, R p c → R' p c) : ReadsRow R' size w1 A n ps :=
 ⟨h.1, h.2.1, fun hn => by
  obtain ⟨ad, e, hc⟩ := h.2.2 hn
  refine ⟨ad, e, fun j p hj => ?_⟩
  obtain ⟨c, hs, hr, hcell⟩ := hc j p hj
  exact ⟨c, hs, hR _ _ hr, fun i u hu => pC_ hb (hcell i u hu)⟩⟩
theorem own_reads_row {α : Type} {R : α → List Value → Prop} {w : World} {base n size : Nat} {e : TypeId} {v : Value} {ps : List α} {cs : List Value} (h : w.ownsRow base e size v n cs) (hR : Reps R size ps cs) (hn : ps.length = n) :
  ∃ A c, v = .slice A n c ∧ ReadsRow R size w A n ps := by
 rcases Nat.eq_zero_or_pos n with h0 | h0
 ·rcases h.2 with ⟨rfl, rfl⟩ | ⟨g, cap, cur, rfl, _⟩
  ·exact ⟨none, 0, rfl, hn, by omega, fun hp => absurd hp (by omega)⟩
  ·exact ⟨_, cap, rfl, hn, by omega, fun hp => absurd hp (by omega)⟩
 ·obtain ⟨g, cap, rfl, _, _⟩ := h.form h0
  have hm : n ≤ 9223372036854775807 := by
   rcases h.2 with ⟨_, h1⟩ | ⟨g', cap', cur, he, _, _, h1, h2, _⟩
   ·omega
   ·simp only [maxLen] at h2
    omega
  refine ⟨_, cap, rfl, hn, hm, fun _ => ⟨_, rfl, fun j p hj => ⟨(cs.drop (j * size)).take size, ?_, hR.2 j p hj, fun i u hu => ?_⟩⟩⟩
  ·have hjl := (List.getElem?_eq_some_iff.1 hj).1
   have h1 : j * size + size ≤ cs.length := by rw [hR.1, ← Nat.succ_mul]; exact Nat.mul_le_mul_right _ hjl
   rw [List.length_take, List.length_drop]
   omega
  ·refine h.cells (g := g) rfl _ u ?_
   rw [List.getElem?_take] at hu
   split at hu
   ·rw [List.getElem?_drop] at hu
    exact hu
   ·cases hu
theorem add_field (ad : Addr) (m j : Nat) (hj : 0 < j) : ad.add (m + j) = ⟨(ad.add m).block, (ad.add m).off + j, none⟩ := by
 unfold Addr.add
 by_cases hm : m = 0
 ·subst hm
  simp [Nat.ne_of_gt hj]
 ·simp [hm, Nat.add_assoc]
section
variable {P : Program} {ops : Array Oper} {rest : List Oper} {o : Oper} {a : Act} {Q : Exit → Act → World → Prop}
theorem print_append_cells {w0 W : World} (base : Nat) (hgd : o.guard = none) (s x : Operand) (t e : TypeId) (z : Value) (size bytes : Nat)
  (ho : o.op = .call { callee := .builtin .append, args := #[s, x], argTypes := #[t, t] })
  (ht : P.underlying t = some (.slice e)) (hinfo : (P.info? e).map (fun i => (i.zero, i.size, i.bytes)) = some (some z, size, bytes)) (hz : z.cells.size = size) (hs0 : 0 < size) (hb0 : 0 < bytes)
  (v : Value) (n : Nat) (xs ys : List Value) (hs : a.eval s = v) (hx : a.eval x = .slice (some ⟨W.heap.size, 0, none⟩) 1 1) (hys : ys.length = size) (h1 : ∀ u ∈ ys, u.oneCell' = true)
  (HO : W.ownsRow base e size v n xs) (HB : Below base w0 W) (hbase : base ≤ W.heap.size) (hl : (n + 1) * bytes ≤ 140737488355328)
  (h : ∀ v1 w1, w1.ownsRow base e size v1 (n + 1) (xs ++ ys) → Below base w0 w1 → W.grownBy w1 v.ownBlock → (v1.ownBlock = v.ownBlock ∨ ∃ b, v1.ownBlock = some b ∧ W.heap.size ≤ b) → wpList P ops Q rest (a.put o.dst v1) w1) :
  wpList P ops Q (o :: rest) a (W.alloc (.cells ys.toArray e)) := by
 obtain ⟨i0, hi, hzz⟩ := Option.map_eq_some_iff.1 hinfo
 simp only [Prod.mk.injEq] at hzz
 obtain ⟨hz0, hz1, hz2⟩ := hzz
 have hlen : n + 1 ≤ 140737488355328 := Nat.le_trans (Nat.le_mul_of_pos_right _ hb0) hl
 refine wpList_append_own_at (W.alloc (.cells ys.toArray e)) hgd s x t ho base e i0 z size bytes ht hi hz0 hz1 hz2 hz hs0 v n xs hs (HO.alloc _) ⟨W.heap.size, 0, none⟩ 1 1 ys hx (by rw [hys]; simp)
  (by simpa using World.news_of_block (cs := ys.toArray) (t := e) (fr := (0, 0)) (heap_alloc_new W (.cells ys.toArray e))) h1 (by simp only [maxLen]; omega) hl (by simp; omega) ?_
 intro v1 w1 hown hg _ hat
 refine h v1 w1 hown ((HB.alloc hbase _).grown hg (by simp; omega) (own_base HO)) (World.grownBy.trans (World.grownBy_alloc W _ _) hg) ?_
 rcases hat with hat | hat
 ·exact .inl hat
 ·exact .inr ⟨_, hat, by simp⟩
end
theorem own_ne {w : World} {base : Nat} {e t : TypeId} {size n g : Nat} {v : Value} {xs : List Value} {cs : Array Value} (h : w.ownsRow base e size v n xs) (hg : w.heap[g]? = some (.cells cs t (0, 0))) (hne : e ≠ t) : some g ≠ v.ownBlock := by
 rcases h.2 with ⟨rfl, _⟩ | ⟨g', cap, cur, rfl, _, hh, _⟩
 ·simp [Value.ownBlock]
 ·intro he
  have : g = g' := by simpa [Value.ownBlock] using he
  subst this
  rw [hg] at hh
  injection hh with hh
  injection hh with _ ht
  exact hne ht.symm
theorem blk_set {w : World} {g : Nat} {t : TypeId} {cs : Array Value} (h : w.heap[g]? = some (.cells cs t (0, 0))) (i : Nat) (u : Value) : (w.setCell ⟨g, i, none⟩ u).heap[g]? = some (.cells (cs.setIfInBounds i u) t (0, 0)) := by
 simp [World.setCell, Array.getElem?_modify, h]
theorem bF_ {w : World} {g : Nat} {t : TypeId} {cs : Array Value} (h : w.heap[g]? = some (.cells cs t (0, 0))) {p : Addr} (hp : g ≠ p.block) (u : Value) : (w.setCell p u).heap[g]? = some (.cells cs t (0, 0)) := (Below.heap_setCell w p u g hp).trans h
theorem blk_lt {w : World} {g : Nat} {o : Obj} (h : w.heap[g]? = some o) : g < w.heap.size := (Array.getElem?_eq_some_iff.1 h).1
theorem bC_ {w : World} {g : Nat} {t : TypeId} {cs : Array Value} (h : w.heap[g]? = some (.cells cs t (0, 0))) (i : Nat) : w.cell? ⟨g, i, none⟩ = cs[i]? := cell_of_row w g i cs t (0, 0) h
theorem bR_ {w : World} {g : Nat} {t : TypeId} {cs : Array Value} (h : w.heap[g]? = some (.cells cs t (0, 0))) (i : Nat) : w.frozen? ⟨g, i, none⟩ = false := by simp [World.frozen?, h]
theorem blk_grown {w w1 : World} {g : Nat} {o : Obj} {row : Option Nat} (h : w.heap[g]? = some o) (hg : w.grownBy w1 row) (hne : some g ≠ row) : w1.heap[g]? = some o := (hg.block g (blk_lt h) hne).trans h
def KeepBut (w w' : World) (g : Nat) (row : Option Nat) : Prop := w.heap.size ≤ w'.heap.size ∧ ∀ i, i < w.heap.size → i ≠ g → some i ≠ row → w'.heap[i]? = w.heap[i]?
theorem KeepBut.trans {w w1 w2 : World} {g : Nat} {row row1 : Option Nat} (h : KeepBut w w1 g row) (k : KeepBut w1 w2 g row1) (hr : row1 = row ∨ ∃ b, row1 = some b ∧ w.heap.size ≤ b) : KeepBut w w2 g row :=
 ⟨Nat.le_trans h.1 k.1, fun i hi hg hn => by
  refine (k.2 i (Nat.lt_of_lt_of_le hi h.1) hg ?_).trans (h.2 i hi hg hn)
  rcases hr with rfl | ⟨b, rfl, hb⟩
  ·exact hn
  ·intro e
   injection e with e
   omega⟩
section
variable {P : Program} {ops : Array Oper} {o : Oper} {a : Act} {Q : Exit → Act → World → Prop} {K : Act → World → Prop}
theorem step_append_cells {w0 W : World} (base : Nat) (hw : Region.wanted o (yielded ops a.tmps) = true) (s x : Operand) (t e : TypeId) (z : Value) (size bytes : Nat)
  (ho : o.op = .call { callee := .builtin .append, args := #[s, x], argTypes := #[t, t] })
  (ht : P.underlying t = some (.slice e)) (hinfo : (P.info? e).map (fun i => (i.zero, i.size, i.bytes)) = some (some z, size, bytes)) (hz : z.cells.size = size) (hs0 : 0 < size) (hb0 : 0 < bytes)
  (v : Value) (n : Nat) (xs ys : List Value) (hs : a.eval s = v) (hx : a.eval x = .slice (some ⟨W.heap.size, 0, none⟩) 1 1) (hys : ys.length = size) (h1 : ∀ u ∈ ys, u.oneCell' = true)
  (HO : W.ownsRow base e size v n xs) (HB : Below base w0 W) (hbase : base ≤ W.heap.size) (hl : (n + 1) * bytes ≤ 140737488355328)
  (h : ∀ v1 w1, w1.ownsRow base e size v1 (n + 1) (xs ++ ys) → Below base w0 w1 → W.grownBy w1 v.ownBlock → (v1.ownBlock = v.ownBlock ∨ ∃ b, v1.ownBlock = some b ∧ W.heap.size ≤ b) → K (a.put o.dst v1) w1) :
  if Region.wanted o (yielded ops a.tmps) = true then Oper.wp P o a (W.alloc (.cells ys.toArray e)) K Q else K (a.put o.dst undef) (W.alloc (.cells ys.toArray e)) := by
 obtain ⟨i0, hi, hzz⟩ := Option.map_eq_some_iff.1 hinfo
 simp only [Prod.mk.injEq] at hzz
 obtain ⟨hz0, hz1, hz2⟩ := hzz
 have hlen : n + 1 ≤ 140737488355328 := Nat.le_trans (Nat.le_mul_of_pos_right _ hb0) hl
 rw [if_pos hw]
 obtain ⟨v1, w1, hr, hown, hg, _, hat⟩ := run_append_own_at (P := P) (W.alloc (.cells ys.toArray e)) base t o.type e i0 z size bytes ht hi hz0 hz1 hz2 hz hs0 v n xs (HO.alloc _) ⟨W.heap.size, 0, none⟩ 1 1 ys (by rw [hys]; simp)
  (by simpa using World.news_of_block (cs := ys.toArray) (t := e) (fr := (0, 0)) (heap_alloc_new W (.cells ys.toArray e))) h1 (by simp only [maxLen]; omega) hl (by simp; omega)
 unfold Oper.wp execOp
 simp only [ho, resolve, invoke, builtin, Sem.run_bind, Sem.run_pure, Result.andThen_ok, List.map_toArray, List.map_cons, List.map_nil, hs, hx, hr]
 refine h v1 w1 hown ((HB.alloc hbase _).grown hg (by simp; omega) (own_base HO)) (World.grownBy.trans (World.grownBy_alloc W _ _) hg) ?_
 rcases hat with hat | hat
 ·exact .inl hat
 ·exact .inr ⟨_, hat, by simp⟩
end
theorem own_weaken {w : World} {base base' : Nat} {e : TypeId} {size n : Nat} {v : Value} {xs : List Value} (h : w.ownsRow base e size v n xs) (hb : base' ≤ base) : w.ownsRow base' e size v n xs := by
 obtain ⟨h1, h2⟩ := h
 refine ⟨h1, ?_⟩
 rcases h2 with h2 | ⟨g, cap, cur, rfl, hg, r⟩
 ·exact .inl h2
 ·exact .inr ⟨g, cap, cur, rfl, Nat.le_trans hb hg, r⟩
section
variable {α : Type} {enc : α → Value} {d : α}
def encs (enc : α → Value) (xs : List α) : List Value := xs.map enc
def rdOf (d : α) (xs : List α) (i : Int) : α := xs.getD i.toNat d
theorem encs_length (xs : List α) : (encs enc xs).length = xs.length := by simp [encs]
theorem encs_get (xs : List α) (j : Nat) (h : j < xs.length) : (encs enc xs)[j]? = some (enc (xs.getD j d)) := by
 simp [encs, List.getElem?_eq_getElem h, List.getD_eq_getElem?_getD]
def ReadsOf (enc : α → Value) (d : α) (w : World) (A : Option Addr) (n : Nat) (xs : List α) : Prop :=
 xs.length = n ∧ n ≤ 9223372036854775807 ∧ (0 < n → ∃ ad, A = some ad ∧ ∀ j, j < n → w.cell? (ad.add j) = some (enc (xs.getD j d)))
theorem ReadsOf.at_ {w : World} {A : Option Addr} {n : Nat} {xs : List α} (h : ReadsOf enc d w A n xs) (i : Int) (h0 : 0 ≤ i) (h1 : i < n) : ∃ ad, A = some ad ∧ w.cell? (ad.add i.toNat) = some (enc (rdOf d xs i)) := by
 obtain ⟨ad, e, hc⟩ := h.2.2 (by omega)
 exact ⟨ad, e, hc _ (by omega)⟩
theorem own_at_of {W : World} {base g n cap : Nat} {e : TypeId} {xs : List α} (h : W.ownsRow base e 1 (.slice (some ⟨g, 0, none⟩) n cap) n (encs enc xs)) (i : Int) (h0 : 0 ≤ i) (h1 : i < n) :
  W.cell? ⟨g, i.toNat, none⟩ = some (enc (rdOf d xs i)) ∧ W.frozen? ⟨g, i.toNat, none⟩ = false := by
 have hl : xs.length = n := by have := h.1; simp [encs] at this; exact this
 constructor
 ·have hc := h.cells (g := g) rfl i.toNat _ (encs_get (d := d) xs i.toNat (by omega))
  rwa [add_plain] at hc
 ·rcases h.2 with ⟨h', _⟩ | ⟨g', cap', cur, h', _, hh, _⟩
  ·cases h'
  ·have : g = g' := by injection h' with h'; injection h' with h'; injection h' with h'
   subst this
   simp [World.frozen?, hh]
theorem own_store_of {W : World} {base g n cap : Nat} {e : TypeId} {xs : List α} (h : W.ownsRow base e 1 (.slice (some ⟨g, 0, none⟩) n cap) n (encs enc xs)) (i : Int) (x : α) :
  (W.setCell ⟨g, i.toNat, none⟩ (enc x)).ownsRow base e 1 (.slice (some ⟨g, 0, none⟩) n cap) n (encs enc (xs.set i.toNat x)) ∧ W.grownBy (W.setCell ⟨g, i.toNat, none⟩ (enc x)) (some g) := by
 have hs := h.stored i.toNat (enc x)
 have he : (encs enc xs).set i.toNat (enc x) = encs enc (xs.set i.toNat x) := by simp [encs, List.map_set]
 rwa [he] at hs
end
def NeRow (v v' : Value) : Prop := ∀ k, v.ownBlock = some k → v'.ownBlock ≠ some k
theorem ne_below {W w1 : World} {v1 v' : Value} {base n size n1 size1 : Nat} {e e1 : TypeId} {xs xs1 : List Value} (h1 : w1.ownsRow W.heap.size e1 size1 v1 n1 xs1) (ho : W.ownsRow base e size v' n xs) : NeRow v1 v' := by
 intro k hk hk'
 have h2 := own_base h1 k hk
 have h3 := own_lt ho k hk'
 omega
theorem bL_ {w : World} {g : Nat} {o : Obj} (h : w.heap[g]? = some o) (o' : Obj) : (w.alloc o').heap[g]? = some o := (Below.heap_alloc w o' g (blk_lt h)).trans h
theorem bD_ {w : World} {g : Nat} {o : Obj} (h : w.heap[g]? = some o) : w.drew.heap[g]? = some o := h
theorem bN_ {w : World} {g : Nat} {o : Obj} (h : w.heap[g]? = some o) (n : Nat) : (w.drewN n).heap[g]? = some o := h
theorem bB_ {w w1 : World} {g : Nat} {o : Obj} (h : w.heap[g]? = some o) (hb : Below w.heap.size w w1) : w1.heap[g]? = some o := (hb.block g (blk_lt h)).trans h
theorem blk_new (w : World) (o : Obj) : (w.alloc o).heap[w.heap.size]? = some o := heap_alloc_new w o
section
variable {P : Program}
theorem results_ct {fn : Func} {p u : Tmp} {ty : TypeId} (h : fn.results = #[.cell p ty, .tmp u]) (tmps : Array Value) (w : World) (g : Nat) (t : TypeId) (cs : Array Value) (fr : Nat × Nat) (d : TypeDesc)
  (hp : tmps.getD p undef = .pointer (some ⟨g, 0, none⟩)) (hg : w.heap[g]? = some (.cells cs t fr))
  (hu : P.underlying ty = some d) (hd : (match d with | .struct _ | .array _ _ => true | _ => false) = true) (hi : (P.info? ty).map (·.size) = some cs.size) :
  (results fn tmps).run P w = .ok (.tuple #[.agg cs, tmps.getD u undef]) w := by
 have hp' : tmps[p]?.getD undef = .pointer (some ⟨g, 0, none⟩) := by simpa using hp
 simp [results, h, hp', asAddr, run_loadVar_row w g t ty cs fr d hg hu hd hi]
end
theorem own_le {w : World} {base n m c size : Nat} {e : TypeId} {A : Option Addr} {xs : List Value} (h : w.ownsRow base e size (.slice A m c) n xs) : m ≤ c := by
 rcases h.2 with ⟨he, _⟩ | ⟨g, cap, cur, he, _, _, hnc, _⟩
 ·injection he with _ h2 h3
  omega
 ·injection he with _ h2 h3
  omega
def OwnRow {α : Type} (R : α → List Value → Prop) (e : TypeId) (size : Nat) (w : World) (base : Nat) (v : Value) (ps : List α) : Prop :=
 ∃ inner, w.ownsRow base e size v ps.length inner ∧ Reps R size ps inner
section
variable {α : Type} {R R' : α → List Value → Prop} {e : TypeId} {size : Nat} {w w1 : World} {base : Nat} {v : Value} {ps : List α}
theorem OwnRow.none_ (R : α → List Value → Prop) (e : TypeId) (size : Nat) (w : World) (base : Nat) : OwnRow R e size w base (.slice none 0 0) [] := ⟨[], own_nil _ _ _ _, Reps.none _ _⟩
theorem OwnRow.imp_ (h : OwnRow R e size w base v ps) (hR : ∀ p c, R p c → R' p c) : OwnRow R' e size w base v ps := by
 obtain ⟨inner, ho, hr⟩ := h
 exact ⟨inner, ho, hr.imp_ hR⟩
theorem OwnRow.reads (h : OwnRow R e size w base v ps) : ∃ A c, v = .slice A ps.length c ∧ ps.length ≤ c ∧ ReadsRow R size w A ps.length ps := by
 obtain ⟨inner, ho, hr⟩ := h
 obtain ⟨A, c, rfl, hrow⟩ := own_reads_row ho hr rfl
 exact ⟨A, c, rfl, own_le ho, hrow⟩
theorem OwnRow.ne_block (h : OwnRow R e size w base v ps) {g : Nat} {t : TypeId} {cells : Array Value} (hb : w.heap[g]? = some (.cells cells t (0, 0))) (ht : e ≠ t) : some g ≠ v.ownBlock := by
 obtain ⟨inner, ho, hr⟩ := h
 exact own_ne ho hb ht
end
theorem ReadsRow.inner_ {α : Type} {R : α → List Value → Prop} {size : Nat} {w : World} {ad : Addr} {n : Nat} {ps : List α} (h : ReadsRow R size w (some ad) n ps) :
  ∃ inner, Reps R size ps inner ∧ ∀ j u, inner[j]? = some u → w.cell? (ad.add j) = some u := by
 have key : ∀ m, m ≤ ps.length → ∃ inner, Reps R size (ps.take m) inner ∧ ∀ j u, inner[j]? = some u → w.cell? (ad.add j) = some u := by
  intro m
  induction m with
  | zero => exact fun _ => ⟨[], Reps.none _ _, fun j u hu => by simp at hu⟩
  | succ m ih =>
   intro hm
   obtain ⟨inner, hr, hc⟩ := ih (by omega)
   obtain ⟨ad', he, hcell⟩ := h.2.2 (by have := h.1; omega)
   injection he with he
   subst he
   obtain ⟨c, hcl, hp, hcc⟩ := hcell m _ (List.getElem?_eq_getElem (show m < ps.length by omega))
   refine ⟨inner ++ c, ?_, fun j u hu => ?_⟩
   ·rw [List.take_succ_eq_append_getElem (show m < ps.length by omega)]
    exact hr.snoc hp hcl
   ·have hil : inner.length = m * size := by rw [hr.1, List.length_take, Nat.min_eq_left (by omega)]
    rcases Nat.lt_or_ge j inner.length with hj | hj
    ·rw [List.getElem?_append_left hj] at hu
     exact hc j u hu
    ·rw [List.getElem?_append_right hj] at hu
     have := hcc (j - inner.length) u hu
     rwa [hil, Nat.add_sub_cancel' (by omega)] at this
 obtain ⟨inner, hr, hc⟩ := key ps.length (Nat.le_refl _)
 rw [List.take_length] at hr
 exact ⟨inner, hr, hc⟩
structure Kd (α : Type) where
 sz : Nat
 E : List Nat
 K : World → α → List Value → Prop
 M : World → Nat → (Nat → Prop) → α → List Value → Prop
 K_len : ∀ {w x cs}, K w x cs → cs.length = sz
 K_one : ∀ {w x cs}, K w x cs → ∀ u ∈ cs, u.oneCell' = true
 K_below : ∀ {w w1 : World} {x cs}, Below w.heap.size w w1 → K w x cs → K w1 x cs
 K_of_M : ∀ {w base ok x cs}, M w base ok x cs → K w x cs
 M_mono : ∀ {w base ok ok' x cs}, (∀ k, ok k → ok' k) → M w base ok x cs → M w base ok' x cs
 M_bound : ∀ {w : World} {base ok x cs}, M w base ok x cs → M w base (fun k => ok k ∧ base ≤ k ∧ k < w.heap.size ∧ ∃ q, q ∈ E ∧ ∃ cells, w.heap[k]? = some (.cells cells q (0, 0))) x cs
 M_move : ∀ {w w1 : World} {base ok x cs}, (∀ k, ok k → w1.heap[k]? = w.heap[k]?) → M w base ok x cs → M w1 base ok x cs
 M_lower : ∀ {w base base' ok x cs}, base' ≤ base → M w base ok x cs → M w base' ok x cs
theorem own_move {w w1 : World} {base : Nat} {e : TypeId} {size n : Nat} {v : Value} {xs : List Value} (h : w.ownsRow base e size v n xs) (hm : ∀ k, v.ownBlock = some k → w1.heap[k]? = w.heap[k]?) : w1.ownsRow base e size v n xs := by
 obtain ⟨h1, h2⟩ := h
 refine ⟨h1, ?_⟩
 rcases h2 with h2 | ⟨g, cap, cur, rfl, hg, hh, r⟩
 ·exact .inl h2
 ·exact .inr ⟨g, cap, cur, rfl, hg, (hm g (by simp [Value.ownBlock])).trans hh, r⟩
theorem own_typed {w : World} {base : Nat} {e : TypeId} {size n : Nat} {v : Value} {xs : List Value} (h : w.ownsRow base e size v n xs) (k : Nat) (hk : v.ownBlock = some k) : ∃ cells, w.heap[k]? = some (.cells cells e (0, 0)) := by
 rcases h.2 with ⟨rfl, _⟩ | ⟨g, cap, cur, rfl, hg, hh, r⟩
 ·simp [Value.ownBlock] at hk
 ·have : g = k := by simpa [Value.ownBlock] using hk
  subst this
  exact ⟨cur, hh⟩
namespace Kd
def C {α : Type} (d : Kd α) (w : World) (A : Option Addr) (n : Nat) (xs : List α) : Prop := ReadsRow (d.K w) d.sz w A n xs
def R {α : Type} (d : Kd α) (e : Nat) (w : World) (base : Nat) (ok : Nat → Prop) (v : Value) (xs : List α) : Prop :=
 (∀ k, v.ownBlock = some k → ok k) ∧ OwnRow (d.M w base (fun k => ok k ∧ some k ≠ v.ownBlock)) e d.sz w base v xs
section
variable {α : Type} {d : Kd α} {e : Nat} {w w1 : World} {base : Nat} {ok ok' : Nat → Prop} {v : Value} {xs : List α}
theorem C_below {A : Option Addr} {n : Nat} (h : d.C w A n xs) (hb : Below w.heap.size w w1) : d.C w1 A n xs := ReadsRow.imp_ h hb (fun _ _ hp => d.K_below hb hp)
theorem R_nil (d : Kd α) (e : Nat) (w : World) (base : Nat) (ok : Nat → Prop) : d.R e w base ok (.slice none 0 0) [] := ⟨fun k hk => by simp [Value.ownBlock] at hk, OwnRow.none_ _ _ _ _ _⟩
theorem R_mono (h : d.R e w base ok v xs) (hok : ∀ k, ok k → ok' k) : d.R e w base ok' v xs := ⟨fun k hk => hok k (h.1 k hk), h.2.imp_ (fun _ _ hp => d.M_mono (fun k hk => ⟨hok k hk.1, hk.2⟩) hp)⟩
theorem R_bound (h : d.R e w base ok v xs) : d.R e w base (fun k => ok k ∧ base ≤ k ∧ k < w.heap.size ∧ ∃ q, q ∈ e :: d.E ∧ ∃ cells, w.heap[k]? = some (.cells cells q (0, 0))) v xs := by
 obtain ⟨h0, inner, ho, hr⟩ := h
 refine ⟨fun k hk => ?_, inner, ho, hr.imp_ (fun _ _ hp => d.M_mono (fun k hk => ?_) (d.M_bound hp))⟩
 ·obtain ⟨cells, hc⟩ := own_typed ho k hk
  exact ⟨h0 k hk, own_base ho k hk, own_lt ho k hk, e, List.mem_cons_self, cells, hc⟩
 ·obtain ⟨⟨h1, h2⟩, h3, h4, q, hq, hc⟩ := hk
  exact ⟨⟨h1, h3, h4, q, List.mem_cons_of_mem _ hq, hc⟩, h2⟩
theorem R_move (h : d.R e w base ok v xs) (hm : ∀ k, ok k → w1.heap[k]? = w.heap[k]?) : d.R e w1 base ok v xs := by
 obtain ⟨h0, inner, ho, hr⟩ := h
 exact ⟨h0, inner, own_move ho (fun k hk => hm k (h0 k hk)), hr.imp_ (fun _ _ hp => d.M_move (fun k hk => hm k hk.1) hp)⟩
theorem R_lower {base' : Nat} (h : d.R e w base ok v xs) (hb : base' ≤ base) : d.R e w base' ok v xs := by
 obtain ⟨h0, inner, ho, hr⟩ := h
 exact ⟨h0, inner, own_weaken ho hb, hr.imp_ (fun _ _ hp => d.M_lower hb hp)⟩
theorem R_step (h : d.R e w base ok v xs) (hm : ∀ k, ok k → k < w.heap.size → w1.heap[k]? = w.heap[k]?) : d.R e w1 base ok v xs :=
 R_mono (R_move (R_bound h) (fun k hk => hm k hk.1 hk.2.2.1)) (fun _ hk => hk.1)
theorem M_step {x : α} {cs : List Value} (h : d.M w base ok x cs) (hm : ∀ k, ok k → k < w.heap.size → w1.heap[k]? = w.heap[k]?) : d.M w1 base ok x cs :=
 d.M_mono (fun _ hk => hk.1) (d.M_move (fun k hk => hm k hk.1 hk.2.2.1) (d.M_bound h))
theorem R_below (h : d.R e w base ok v xs) (hb : Below w.heap.size w w1) : d.R e w1 base ok v xs := R_step h (fun k _ hk => hb.block k hk)
theorem M_below {x : α} {cs : List Value} (h : d.M w base ok x cs) (hb : Below w.heap.size w w1) : d.M w1 base ok x cs := M_step h (fun k _ hk => hb.block k hk)
theorem R_far (h : d.R e w base ok v xs) {p : Addr} (hok : ∀ k, ok k → k ≠ p.block) (u : Value) : d.R e (w.setCell p u) base ok v xs := R_step h (fun k ho _ => Below.heap_setCell w p u k (hok k ho))
theorem R_types (h : d.R e w base ok v xs) {g t : Nat} {cells : Array Value} (hb : w.heap[g]? = some (.cells cells t (0, 0))) (ht : ∀ q, q ∈ e :: d.E → q ≠ t) : d.R e w base (fun k => ok k ∧ k ≠ g) v xs :=
 R_mono (R_bound h) (fun k hk => ⟨hk.1, by
  obtain ⟨_, _, _, q, hq, cells', hc⟩ := hk
  rintro rfl
  rw [hc] at hb
  injection hb with hb
  injection hb with _ hb
  exact ht q hq hb⟩)
theorem R_set (h : d.R e w base ok v xs) {g t : Nat} {cells : Array Value} (hb : w.heap[g]? = some (.cells cells t (0, 0))) (ht : ∀ q, q ∈ e :: d.E → q ≠ t) (j : Nat) (u : Value) : d.R e (w.setCell ⟨g, j, none⟩ u) base ok v xs :=
 R_mono (R_far (p := ⟨g, j, none⟩) (R_types h hb ht) (fun _ hk => hk.2) u) (fun _ hk => hk.1)
theorem R_reads (h : d.R e w base ok v xs) : ∃ A c, v = .slice A xs.length c ∧ xs.length ≤ c ∧ d.C w A xs.length xs := by
 obtain ⟨A, c, he, hl, hr⟩ := OwnRow.reads h.2
 exact ⟨A, c, he, hl, hr.imp_ (Below.refl _ _) (fun _ _ hp => d.K_of_M hp)⟩
theorem R_slice (h : d.R e w base ok v xs) : ∃ A c, v = .slice A xs.length c := by
 obtain ⟨A, c, he, _⟩ := R_reads h
 exact ⟨A, c, he⟩
theorem R_own (h : d.R e w base ok v xs) : ∃ inner, w.ownsRow base e d.sz v xs.length inner := by
 obtain ⟨_, inner, ho, _⟩ := h
 exact ⟨inner, ho⟩
theorem R_ne (h : d.R e w base ok v xs) {g t : Nat} {cells : Array Value} (hb : w.heap[g]? = some (.cells cells t (0, 0))) (ht : e ≠ t) : some g ≠ v.ownBlock := OwnRow.ne_block h.2 hb ht
end
def scalar {α : Type} (enc : α → Value) (h1 : ∀ x, (enc x).oneCell' = true) : Kd α where
 sz := 1
 E := []
 K := fun _ x cs => cs = [enc x]
 M := fun _ _ _ x cs => cs = [enc x]
 K_len := fun h => by rw [h]; rfl
 K_one := fun h u hu => by
  rw [h] at hu
  rw [List.mem_singleton.1 hu]
  exact h1 _
 K_below := fun _ h => h
 K_of_M := fun h => h
 M_mono := fun _ h => h
 M_bound := fun h => h
 M_move := fun _ h => h
 M_lower := fun _ h => h
def int (k : IntKind) : Kd Int := scalar (Value.int k) (fun _ => rfl)
def string : Kd ByteArray := scalar Value.string (fun _ => rfl)
def pair {α β : Type} (a : Kd α) (b : Kd β) : Kd (α × β) where
 sz := a.sz + b.sz
 E := a.E ++ b.E
 K := fun w x cs => ∃ c0 c1, cs = c0 ++ c1 ∧ a.K w x.1 c0 ∧ b.K w x.2 c1
 M := fun w base ok x cs => ∃ c0 c1, cs = c0 ++ c1 ∧ a.M w base ok x.1 c0 ∧ b.M w base ok x.2 c1
 K_len := by
  rintro w x cs ⟨c0, c1, rfl, h0, h1⟩
  rw [List.length_append, a.K_len h0, b.K_len h1]
 K_one := by
  rintro w x cs ⟨c0, c1, rfl, h0, h1⟩ u hu
  rcases List.mem_append.1 hu with hu | hu
  ·exact a.K_one h0 u hu
  ·exact b.K_one h1 u hu
 K_below := by
  rintro w w1 x cs hb ⟨c0, c1, rfl, h0, h1⟩
  exact ⟨c0, c1, rfl, a.K_below hb h0, b.K_below hb h1⟩
 K_of_M := by
  rintro w base ok x cs ⟨c0, c1, rfl, h0, h1⟩
  exact ⟨c0, c1, rfl, a.K_of_M h0, b.K_of_M h1⟩
 M_mono := by
  rintro w base ok ok' x cs hok ⟨c0, c1, rfl, h0, h1⟩
  exact ⟨c0, c1, rfl, a.M_mono hok h0, b.M_mono hok h1⟩
 M_bound := by
  rintro w base ok x cs ⟨c0, c1, rfl, h0, h1⟩
  refine ⟨c0, c1, rfl, a.M_mono ?_ (a.M_bound h0), b.M_mono ?_ (b.M_bound h1)⟩
  ·rintro k ⟨h2, h3, h4, q, hq, hc⟩
   exact ⟨h2, h3, h4, q, List.mem_append_left _ hq, hc⟩
  ·rintro k ⟨h2, h3, h4, q, hq, hc⟩
   exact ⟨h2, h3, h4, q, List.mem_append_right _ hq, hc⟩
 M_move := by
  rintro w w1 base ok x cs hm ⟨c0, c1, rfl, h0, h1⟩
  exact ⟨c0, c1, rfl, a.M_move hm h0, b.M_move hm h1⟩
 M_lower := by
  rintro w base base' ok x cs hb ⟨c0, c1, rfl, h0, h1⟩
  exact ⟨c0, c1, rfl, a.M_lower hb h0, b.M_lower hb h1⟩
def iso {α β : Type} (d : Kd α) (f : β → α) : Kd β where
 sz := d.sz
 E := d.E
 K := fun w x cs => d.K w (f x) cs
 M := fun w base ok x cs => d.M w base ok (f x) cs
 K_len := d.K_len
 K_one := d.K_one
 K_below := d.K_below
 K_of_M := d.K_of_M
 M_mono := d.M_mono
 M_bound := d.M_bound
 M_move := d.M_move
 M_lower := d.M_lower
theorem C_get {α : Type} {d : Kd α} {w : World} {A : Option Addr} {n : Nat} {xs : List α} (h : d.C w A n xs) (z : α) (i : Int) (h0 : 0 ≤ i) (h1 : i < n) :
  ∃ ad c, A = some ad ∧ c.length = d.sz ∧ d.K w (xs.getD i.toNat z) c ∧ ∀ j u, c[j]? = some u → w.cell? (ad.add (i.toNat * d.sz + j)) = some u := ReadsRow.get_ h z i h0 h1
theorem R_appended {α : Type} {d : Kd α} {e base : Nat} {ok okp : Nat → Prop} {W w1 : World} {v v1 : Value} {xs : List α} {p : α} {inner cs : List Value} (h0 : ∀ k, v.ownBlock = some k → ok k) (hr : Reps (d.M W base (fun k => ok k ∧ some k ≠ v.ownBlock)) d.sz xs inner) (hp : d.M W base okp p cs) (hokp : ∀ k, okp k → ok k ∧ some k ≠ v.ownBlock) (hfresh : ∀ k, W.heap.size ≤ k → ok k)
  (hown : w1.ownsRow base e d.sz v1 (xs.length + 1) (inner ++ cs)) (hg : W.grownBy w1 v.ownBlock) (hat : v1.ownBlock = v.ownBlock ∨ ∃ b, v1.ownBlock = some b ∧ W.heap.size ≤ b) : d.R e w1 base ok v1 (xs ++ [p]) := by
 have hne : ∀ k, some k ≠ v.ownBlock → k < W.heap.size → some k ≠ v1.ownBlock := by
  intro k hk hlt
  rcases hat with hat | ⟨b, hb, hle⟩
  ·rw [hat]; exact hk
  ·rw [hb]
   intro he
   injection he with he
   omega
 have step : ∀ {q : α} {c : List Value} {o : Nat → Prop}, d.M W base o q c → (∀ k, o k → ok k ∧ some k ≠ v.ownBlock) → d.M w1 base (fun k => ok k ∧ some k ≠ v1.ownBlock) q c := by
  intro q c o hq ho
  have h1 := d.M_move (w1 := w1) (fun k hk => hg.block k hk.2.2.1 (ho k hk.1).2) (d.M_bound hq)
  exact d.M_mono (fun k hk => ⟨(ho k hk.1).1, hne k (ho k hk.1).2 hk.2.2.1⟩) h1
 refine ⟨fun k hk => ?_, inner ++ cs, by rw [List.length_append, List.length_singleton]; exact hown, ?_⟩
 ·rcases hat with hat | ⟨b, hb, hle⟩
  ·exact h0 k (hat ▸ hk)
  ·rw [hb] at hk
   injection hk with hk
   exact hfresh k (by omega)
 ·exact (hr.imp_ (fun _ _ hq => step hq (fun _ hk => hk))).snoc (step hp hokp) (d.K_len (d.K_of_M hp))
section
variable {P : Program} {ops : Array Oper} {rest : List Oper} {o : Oper} {a : Act} {Q : Exit → Act → World → Prop} {α : Type}
theorem R_append (d : Kd α) {w0 W : World} (base : Nat) (hgd : o.guard = none) (s x : Operand) (t e : TypeId) (z : Value) (bytes : Nat)
  (ho : o.op = .call { callee := .builtin .append, args := #[s, x], argTypes := #[t, t] })
  (ht : P.underlying t = some (.slice e)) (hinfo : (P.info? e).map (fun i => (i.zero, i.size, i.bytes)) = some (some z, d.sz, bytes)) (hz : z.cells.size = d.sz) (hs0 : 0 < d.sz) (hb0 : 0 < bytes)
  (v : Value) (xs : List α) (p : α) (cs : List Value) (ok okp : Nat → Prop) (hs : a.eval s = v) (hx : a.eval x = .slice (some ⟨W.heap.size, 0, none⟩) 1 1) (hp : d.M W base okp p cs) (hokp : ∀ k, okp k → ok k ∧ some k ≠ v.ownBlock) (hfresh : ∀ k, W.heap.size ≤ k → ok k)
  (HO : d.R e W base ok v xs) (HB : Below base w0 W) (hbase : base ≤ W.heap.size) (hl : (xs.length + 1) * bytes ≤ 140737488355328)
  (h : ∀ v1 w1, d.R e w1 base ok v1 (xs ++ [p]) → Below base w0 w1 → W.grownBy w1 v.ownBlock → (v1.ownBlock = v.ownBlock ∨ ∃ b, v1.ownBlock = some b ∧ W.heap.size ≤ b) → wpList P ops Q rest (a.put o.dst v1) w1) :
  wpList P ops Q (o :: rest) a (W.alloc (.cells cs.toArray e)) := by
 obtain ⟨h0, inner, hown, hr⟩ := HO
 refine print_append_cells base hgd s x t e z d.sz bytes ho ht hinfo hz hs0 hb0 v xs.length inner cs hs hx (d.K_len (d.K_of_M hp)) (d.K_one (d.K_of_M hp)) hown HB hbase hl ?_
 intro v1 w1 hown1 hb1 hg1 hat1
 exact h v1 w1 (R_appended h0 hr hp hokp hfresh hown1 hg1 hat1) hb1 hg1 hat1
end
section
variable {P : Program} {ops : Array Oper} {o : Oper} {a : Act} {Q : Exit → Act → World → Prop} {Kc : Act → World → Prop} {α : Type}
theorem R_append_step (d : Kd α) {w0 W : World} (base : Nat) (hw : Region.wanted o (yielded ops a.tmps) = true) (s x : Operand) (t e : TypeId) (z : Value) (bytes : Nat)
  (ho : o.op = .call { callee := .builtin .append, args := #[s, x], argTypes := #[t, t] })
  (ht : P.underlying t = some (.slice e)) (hinfo : (P.info? e).map (fun i => (i.zero, i.size, i.bytes)) = some (some z, d.sz, bytes)) (hz : z.cells.size = d.sz) (hs0 : 0 < d.sz) (hb0 : 0 < bytes)
  (v : Value) (xs : List α) (p : α) (cs : List Value) (ok okp : Nat → Prop) (hs : a.eval s = v) (hx : a.eval x = .slice (some ⟨W.heap.size, 0, none⟩) 1 1) (hp : d.M W base okp p cs) (hokp : ∀ k, okp k → ok k ∧ some k ≠ v.ownBlock) (hfresh : ∀ k, W.heap.size ≤ k → ok k)
  (HO : d.R e W base ok v xs) (HB : Below base w0 W) (hbase : base ≤ W.heap.size) (hl : (xs.length + 1) * bytes ≤ 140737488355328)
  (h : ∀ v1 w1, d.R e w1 base ok v1 (xs ++ [p]) → Below base w0 w1 → W.grownBy w1 v.ownBlock → (v1.ownBlock = v.ownBlock ∨ ∃ b, v1.ownBlock = some b ∧ W.heap.size ≤ b) → Kc (a.put o.dst v1) w1) :
  if Region.wanted o (yielded ops a.tmps) = true then Oper.wp P o a (W.alloc (.cells cs.toArray e)) Kc Q else Kc (a.put o.dst undef) (W.alloc (.cells cs.toArray e)) := by
 obtain ⟨h0, inner, hown, hr⟩ := HO
 refine step_append_cells base hw s x t e z d.sz bytes ho ht hinfo hz hs0 hb0 v xs.length inner cs hs hx (d.K_len (d.K_of_M hp)) (d.K_one (d.K_of_M hp)) hown HB hbase hl ?_
 intro v1 w1 hown1 hb1 hg1 hat1
 exact h v1 w1 (R_appended h0 hr hp hokp hfresh hown1 hg1 hat1) hb1 hg1 hat1
end
theorem reps_scalar {α : Type} {enc : α → Value} (xs : List α) : Reps (fun (x : α) (cs : List Value) => cs = [enc x]) 1 xs (encs enc xs) := by
 refine ⟨by simp [encs], fun j p hj => ?_⟩
 obtain ⟨hl, hp⟩ := List.getElem?_eq_some_iff.1 hj
 have hl' : j < (encs enc xs).length := by rw [encs_length]; exact hl
 rw [Nat.mul_one, List.drop_eq_getElem_cons hl']
 simp [encs, hp]
theorem R_of_own {α : Type} {enc : α → Value} {h1 : ∀ x, (enc x).oneCell' = true} {e : Nat} {w : World} {base : Nat} {ok : Nat → Prop} {v : Value} {xs : List α} (ho : w.ownsRow base e 1 v xs.length (encs enc xs)) (hok : ∀ k, v.ownBlock = some k → ok k) : (scalar enc h1).R e w base ok v xs := ⟨hok, encs enc xs, ho, reps_scalar xs⟩
theorem own_of_R {α : Type} {enc : α → Value} {h1 : ∀ x, (enc x).oneCell' = true} {e : Nat} {w : World} {base : Nat} {ok : Nat → Prop} {v : Value} {xs : List α} (h : (scalar enc h1).R e w base ok v xs) : w.ownsRow base e 1 v xs.length (encs enc xs) := by
 obtain ⟨_, inner, ho, hr⟩ := h
 have : inner = encs enc xs := by
  apply List.ext_getElem?
  intro j
  rcases Nat.lt_or_ge j xs.length with hj | hj
  ·have h2 := hr.2 j _ (List.getElem?_eq_getElem hj)
   have hl : j < inner.length := by have := hr.1; simp [scalar] at this; omega
   have h3 : (inner.drop (j * 1)).take 1 = [enc xs[j]] := h2
   rw [Nat.mul_one, List.drop_eq_getElem_cons hl] at h3
   have h4 : inner[j] = enc xs[j] := by
    have h5 := congrArg List.head? h3
    rw [List.take_succ_cons] at h5
    exact Option.some.inj h5
   rw [List.getElem?_eq_getElem hl, h4]
   simp [encs, List.getElem?_eq_getElem hj]
  ·have h3 : inner.length = xs.length := by have := hr.1; simp [scalar] at this; omega
   rw [List.getElem?_eq_none (by omega), List.getElem?_eq_none (by rw [encs_length]; omega)]
 rw [← this]
 exact ho
theorem C_of_reads {α : Type} {enc : α → Value} {d : α} {h1 : ∀ x, (enc x).oneCell' = true} {w : World} {A : Option Addr} {n : Nat} {xs : List α} (h : ReadsOf enc d w A n xs) : (scalar enc h1).C w A n xs := by
 refine ⟨h.1, h.2.1, fun hn => ?_⟩
 obtain ⟨ad, e, hc⟩ := h.2.2 hn
 refine ⟨ad, e, fun j p hj => ⟨[enc p], rfl, rfl, fun i u hu => ?_⟩⟩
 obtain ⟨hl, hp⟩ := List.getElem?_eq_some_iff.1 hj
 have h2 := hc j (by have := h.1; omega)
 rw [List.getD_eq_getElem?_getD, hj] at h2
 cases i with
 | zero =>
  have : enc p = u := by simpa using hu
  subst this
  simpa [scalar] using h2
 | succ i => simp at hu
theorem reads_of_C {α : Type} {enc : α → Value} {d : α} {h1 : ∀ x, (enc x).oneCell' = true} {w : World} {A : Option Addr} {n : Nat} {xs : List α} (h : (scalar enc h1).C w A n xs) : ReadsOf enc d w A n xs := by
 refine ⟨h.1, h.2.1, fun hn => ?_⟩
 obtain ⟨ad, e, hc⟩ := h.2.2 hn
 refine ⟨ad, e, fun j hj => ?_⟩
 have hl : j < xs.length := by have := h.1; omega
 obtain ⟨c, _, hK, hcell⟩ := hc j _ (List.getElem?_eq_getElem hl)
 have hK' : c = [enc xs[j]] := hK
 subst hK'
 have := hcell 0 _ rfl
 simpa [scalar, List.getD_eq_getElem?_getD, List.getElem?_eq_getElem hl] using this
end Kd
namespace Kd
end Kd
namespace Kd
theorem R_after {α : Type} {d : Kd α} {e base : Nat} {ok : Nat → Prop} {W w1 : World} {u v v1 : Value} {xs : List α} (h : d.R e W base (fun k => ok k ∧ some k ≠ v.ownBlock) u xs) (hg : W.grownBy w1 v.ownBlock) (hat : v1.ownBlock = v.ownBlock ∨ ∃ b, v1.ownBlock = some b ∧ W.heap.size ≤ b) : d.R e w1 base (fun k => ok k ∧ some k ≠ v1.ownBlock) u xs := by
 refine R_mono (R_move (R_bound h) (fun k hk => hg.block k hk.2.2.1 hk.1.2)) (fun k hk => ⟨hk.1.1, ?_⟩)
 rcases hat with hat | ⟨b, hb, hle⟩
 ·rw [hat]; exact hk.1.2
 ·rw [hb]
  intro he
  injection he with he
  have := hk.2.2.1
  omega
end Kd
namespace Kd
section
variable {α β : Type} {d : Kd α} {d' : Kd β} {e e' : Nat} {w w1 W : World} {base b b' : Nat} {ok ok' okv oku : Nat → Prop} {v u : Value} {xs : List α} {ys : List β}
theorem R_alloc (h : d.R e w base ok v xs) (o : Obj) : d.R e (w.alloc o) base ok v xs := R_below h (bA_ (Below.refl _ _) o)
theorem R_drew (h : d.R e w base ok v xs) : d.R e w.drew base ok v xs := R_below h (below_drew (Below.refl _ _))
theorem R_drewN (h : d.R e w base ok v xs) (m : Nat) : d.R e (w.drewN m) base ok v xs := R_below h (pN_ (Below.refl _ _) m)
theorem R_reads' {A : Option Addr} {n c : Nat} (h : d.R e w base ok (.slice A n c) xs) : n = xs.length ∧ n ≤ c ∧ d.C w A xs.length xs := by
 obtain ⟨A', c', he, hl, hr⟩ := R_reads h
 injection he with h1 h2 h3
 subst h1
 exact ⟨h2, by omega, hr⟩
theorem R_lt (h : d.R e w base ok v xs) : ∀ k, v.ownBlock = some k → k < w.heap.size := by
 obtain ⟨inner, ho⟩ := R_own h
 exact own_lt ho
theorem R_base (h : d.R e w base ok v xs) : ∀ k, v.ownBlock = some k → base ≤ k := by
 obtain ⟨inner, ho⟩ := R_own h
 exact own_base ho
theorem R_away (h : d.R e w base ok v xs) {g : Nat} (hok : ∀ k, ok k → k ≠ g) : some g ≠ v.ownBlock := fun e => hok g (h.1 g e.symm) rfl
theorem R_form (h : d.R e w base ok v xs) (hp : 0 < xs.length) : ∃ g cap, v = .slice (some ⟨g, 0, none⟩) xs.length cap ∧ base ≤ g ∧ g < w.heap.size ∧ ∃ cells, w.heap[g]? = some (.cells cells e (0, 0)) := by
 obtain ⟨inner, ho⟩ := R_own h
 obtain ⟨g, cap, he, hb, hl⟩ := ho.form hp
 obtain ⟨cells, hc⟩ := own_typed ho g (by rw [he]; simp [Value.ownBlock])
 exact ⟨g, cap, he, hb, hl, cells, hc⟩
theorem R_elder (hu : d'.R e' W b oku u ys) (h : d.R e w1 W.heap.size okv v xs) (hb : Below W.heap.size W w1) : d'.R e' w1 b (fun k => oku k ∧ some k ≠ v.ownBlock) u ys := by
 obtain ⟨inner, ho⟩ := R_own h
 exact R_mono (R_move (R_bound hu) (fun k hk => hb.block k hk.2.2.1)) (fun k hk => ⟨hk.1, fun he => by have := own_base ho k he.symm; have := hk.2.2.1; omega⟩)
end
section
variable {w W : World} {A : Option Addr} {n : Nat}
theorem at_int {k : IntKind} {xs : List Int} (h : (Kd.int k).C w A n xs) (i : Int) (h0 : 0 ≤ i) (h1 : i < n) : ∃ ad, A = some ad ∧ w.cell? (ad.add i.toNat) = some (.int k (rd xs i)) :=
 ReadsOf.at_ (reads_of_C (enc := Value.int k) (d := (0 : Int)) (h1 := fun _ => rfl) h) i h0 h1
variable {α : Type} {enc : α → Value} {h1 : ∀ x, (enc x).oneCell' = true} {e base g cap : Nat} {ok : Nat → Prop} {xs : List α}
theorem R_cell (d : α) (h : (scalar enc h1).R e W base ok (.slice (some ⟨g, 0, none⟩) xs.length cap) xs) (i : Int) (h0 : 0 ≤ i) (hi : i < xs.length) : W.cell? ⟨g, i.toNat, none⟩ = some (enc (rdOf d xs i)) ∧ W.frozen? ⟨g, i.toNat, none⟩ = false := own_at_of (own_of_R h) i h0 hi
theorem R_put (h : (scalar enc h1).R e W base ok (.slice (some ⟨g, 0, none⟩) xs.length cap) xs) (i : Int) (x : α) : (scalar enc h1).R e (W.setCell ⟨g, i.toNat, none⟩ (enc x)) base ok (.slice (some ⟨g, 0, none⟩) xs.length cap) (xs.set i.toNat x) ∧ W.grownBy (W.setCell ⟨g, i.toNat, none⟩ (enc x)) (some g) := by
 obtain ⟨ho, hg⟩ := own_store_of (own_of_R h) i x
 exact ⟨R_of_own (by rw [List.length_set]; exact ho) h.1, hg⟩
end
section
variable {P : Program} {ops : Array Oper} {rest : List Oper} {o : Oper} {a : Act} {Q : Exit → Act → World → Prop}
theorem event_run {W w1 : World} {v : Value} (hgd : o.guard = none) (hrun : (execOp a.eval o).run P W = .ok (.value v) w1) (h : wpList P ops Q rest (a.put o.dst v) w1) : wpList P ops Q (o :: rest) a W := by
 refine wpList_plain hgd fun K hK => ?_
 unfold Oper.wp
 rw [hrun]
 exact hK _ _ h
variable {α : Type}
theorem R_lit (d : Kd α) {w0 W : World} (base e : Nat) (hgd : o.guard = none) {N : Tmp} (_hd : o.dst = some N) {xs : List α} {inner : List Value} {ok okp : Nat → Prop}
  (hrun : (execOp a.eval o).run P W = .ok (.value (.slice (some ⟨W.heap.size, 0, none⟩) xs.length xs.length)) (W.alloc (.cells inner.toArray e)))
  (hrep : Reps (d.M W base okp) d.sz xs inner) (hok : ∀ k, okp k → ok k) (hfresh : ok W.heap.size) (HB : Below base w0 W) (hbase : base ≤ W.heap.size) (hm : xs.length ≤ 9223372036854775807)
  (h : ∀ v1 w1, d.R e w1 base ok v1 xs → Below base w0 w1 → W.grownBy w1 none → (∃ b, v1.ownBlock = some b ∧ W.heap.size ≤ b) → wpList P ops Q rest (a.put o.dst v1) w1) : wpList P ops Q (o :: rest) a W := by
 refine event_run hgd hrun (h _ _ ⟨fun k hk => ?_, inner, ?_, ?_⟩ (HB.alloc hbase _) (World.grownBy_alloc W _ none) ⟨W.heap.size, by simp [Value.ownBlock], Nat.le_refl _⟩)
 ·have : W.heap.size = k := by simpa [Value.ownBlock] using hk
  subst this
  exact hfresh
 ·have h2 := World.ownsRow_lit (base := base) (e := e) (size := d.sz) W inner.toArray xs.length hbase (by simpa [maxLen] using hm) (by simpa using hrep.1)
  simpa using h2
 ·refine hrep.imp_ (fun p c hp => d.M_mono (fun k hk => ⟨hok k hk.1, fun he => ?_⟩) (M_below (d.M_bound hp) (bA_ (Below.refl _ _) _)))
  have h3 : k = W.heap.size := by simpa [Value.ownBlock] using he
  have := hk.2.2.1
  omega
theorem reps_made {α : Type} {R : α → List Value → Prop} {z : Value} {size : Nat} {z0 : α} (hz : z.cells.size = size) (hs : 0 < size) (h0 : R z0 z.cells.toList) (m : Nat) : Reps R size (List.replicate m z0) (madeCells z.cells (m * size)).toList := by
 refine ⟨by simp [size_madeCells], fun j p hj => ?_⟩
 obtain ⟨hjl, hp⟩ := List.getElem?_eq_some_iff.1 hj
 have hjm : j < m := by simpa using hjl
 have hp' : z0 = p := by simpa using hp
 subst hp'
 have hle : j * size + size ≤ m * size := by rw [← Nat.succ_mul]; exact Nat.mul_le_mul_right _ hjm
 have : ((madeCells z.cells (m * size)).toList.drop (j * size)).take size = z.cells.toList := by
  apply List.ext_getElem
  ·simp [size_madeCells, hz]
   omega
  ·intro i h1 h2
   have hi : i < size := by rw [Array.length_toList, hz] at h2; exact h2
   have hmod : (j * size + i) % size = i := by
    rw [Nat.mul_comm, Nat.mul_add_mod]
    exact Nat.mod_eq_of_lt hi
   simp [madeCells, hz, hmod]
   rw [getElem!_pos z.cells i (by omega)]
 rw [this]
 exact h0
theorem R_make (d : Kd α) {w0 W : World} (base e : Nat) (hgd : o.guard = none) {N : Tmp} (hd : o.dst = some N) (t : TypeId) (x y : Operand) (ho : o.op = .makeSlice t x y) (n : Int) (hx : a.eval x = .int .i64 n) (hy : a.eval y = .int .i64 n)
  (ht : P.underlying t = some (.slice e)) (z : Value) (bytes : Nat) (hinfo : (P.info? e).map (fun i => (i.zero, i.size, i.bytes)) = some (some z, d.sz, bytes)) (hz : z.cells.size = d.sz) (hs0 : 0 < d.sz) (hb0 : 0 < bytes)
  (z0 : α) {ok okp : Nat → Prop} (hzero : d.M W base okp z0 z.cells.toList) (hok : ∀ k, okp k → ok k) (hfresh : ok W.heap.size) (h0 : 0 ≤ n) (hl : n.toNat * bytes ≤ 281474976710656) (HB : Below base w0 W) (hbase : base ≤ W.heap.size)
  (h : ∀ v1 w1, d.R e w1 base ok v1 (List.replicate n.toNat z0) → Below base w0 w1 → W.grownBy w1 none → (∃ b, v1.ownBlock = some b ∧ W.heap.size ≤ b) → wpList P ops Q rest (a.put o.dst v1) w1) : wpList P ops Q (o :: rest) a W := by
 obtain ⟨m, rfl⟩ := Int.eq_ofNat_of_zero_le h0
 simp only [Int.toNat_natCast] at hl h
 obtain ⟨i0, hi, hzz⟩ := Option.map_eq_some_iff.1 hinfo
 simp only [Prod.mk.injEq] at hzz
 obtain ⟨hz0, hz1, hz2⟩ := hzz
 have hm : m ≤ 281474976710656 := Nat.le_trans (Nat.le_mul_of_pos_right _ hb0) hl
 have hr := run_make (P := P) W t e i0 z ht hi hz0 .i64 .i64 (m : Int) (m : Int) (by omega) (by omega)
  (by
   have h3 : ((i0.bytes * m : Nat) : Int) ≤ 281474976710656 := by rw [hz2, Nat.mul_comm]; omega
   rwa [Int.natCast_mul] at h3) (by omega)
 simp only [Int.toNat_natCast] at hr
 rw [hz1] at hr
 refine R_lit d base e hgd hd (xs := List.replicate m z0) (inner := (madeCells z.cells (m * d.sz)).toList) (okp := okp) (ok := ok) ?_ (reps_made hz hs0 hzero m) hok hfresh HB hbase (by simp; omega) h
 simp [execOp, ho, hx, hy, hr]
end
end Kd
namespace Kd
end Kd
namespace Kd
section
variable {α : Type} {d : Kd α} {e e' : Nat} {w w1 W : World} {base : Nat} {ok : Nat → Prop} {u v : Value} {xs : List α}
theorem R_typed (h : d.R e w base ok v xs) : ∀ k, v.ownBlock = some k → ∃ cells, w.heap[k]? = some (.cells cells e (0, 0)) := by
 obtain ⟨inner, ho⟩ := R_own h
 exact fun k hk => own_typed ho k hk
theorem R_over' (h : d.R e W base ok u xs) (hty : ∀ k, v.ownBlock = some k → ∃ cells, W.heap[k]? = some (.cells cells e' (0, 0))) (ht : ∀ q, q ∈ e :: d.E → q ≠ e') (hg : W.grownBy w1 v.ownBlock) : d.R e w1 base ok u xs := by
 refine R_mono (R_move (R_bound h) (fun k hk => hg.block k hk.2.2.1 (fun he => ?_))) (fun _ hk => hk.1)
 obtain ⟨_, _, _, q, hq, cells, hc⟩ := hk
 obtain ⟨cells', hc'⟩ := hty k he.symm
 rw [hc] at hc'
 injection hc' with hc'
 injection hc' with _ hc'
 exact ht q hq hc'
theorem R_elder' (hu : d.R e W base ok u xs) (hbase : ∀ k, v.ownBlock = some k → W.heap.size ≤ k) (hb : Below W.heap.size W w1) : d.R e w1 base (fun k => ok k ∧ some k ≠ v.ownBlock) u xs :=
 R_mono (R_move (R_bound hu) (fun k hk => hb.block k hk.2.2.1)) (fun k hk => ⟨hk.1, fun he => by have := hbase k he.symm; have := hk.2.2.1; omega⟩)
theorem R_new' (h : d.R e w1 W.heap.size ok v xs) (hlt : ∀ k, u.ownBlock = some k → k < W.heap.size) : d.R e w1 W.heap.size (fun k => ok k ∧ some k ≠ u.ownBlock) v xs :=
 R_mono (R_bound h) (fun k hk => ⟨hk.1, fun he => by have := hlt k he.symm; have := hk.2.1; omega⟩)
theorem fresh' (hlt : ∀ k, u.ownBlock = some k → k < W.heap.size) : ∀ k, W.heap.size ≤ k → some k ≠ u.ownBlock := fun k hk he => by have := hlt k he.symm; omega
end
end Kd
namespace Kd
end Kd
namespace Kd
end Kd
namespace Kd
theorem reps_append {α : Type} {R : α → List Value → Prop} {size : Nat} {ps qs : List α} {cs ds : List Value} (h : Reps R size ps cs) (h' : Reps R size qs ds) : Reps R size (ps ++ qs) (cs ++ ds) := by
 refine ⟨by rw [List.length_append, List.length_append, h.1, h'.1, Nat.add_mul], fun j p hj => ?_⟩
 rcases Nat.lt_or_ge j ps.length with hlt | hge
 ·rw [List.getElem?_append_left hlt] at hj
  have hle : j * size + size ≤ cs.length := by rw [h.1, ← Nat.succ_mul]; exact Nat.mul_le_mul_right _ hlt
  rw [List.drop_append_of_le_length (by omega), List.take_append_of_le_length (by rw [List.length_drop]; omega)]
  exact h.2 j p hj
 ·rw [List.getElem?_append_right hge] at hj
  have h2 := h'.2 (j - ps.length) p hj
  have hle : ps.length * size ≤ j * size := Nat.mul_le_mul_right _ hge
  rw [List.drop_append, List.drop_eq_nil_of_le (by rw [h.1]; exact hle), List.nil_append, h.1, ← Nat.sub_mul]
  exact h2
section
variable {P : Program} {ops : Array Oper} {rest : List Oper} {o : Oper} {a : Act} {Q : Exit → Act → World → Prop} {α : Type}
theorem R_append_rows (d : Kd α) {Rr : α → List Value → Prop} {w0 W : World} (base : Nat) (hgd : o.guard = none) (s x : Operand) (t e : TypeId) (z : Value) (bytes : Nat)
  (ho : o.op = .call { callee := .builtin .append, args := #[s, x], argTypes := #[t, t] })
  (ht : P.underlying t = some (.slice e)) (hinfo : (P.info? e).map (fun i => (i.zero, i.size, i.bytes)) = some (some z, d.sz, bytes)) (hz : z.cells.size = d.sz) (hs0 : 0 < d.sz) (hb0 : 0 < bytes)
  (v : Value) (xs ys : List α) (A : Option Addr) (m c : Nat) (ok okp : Nat → Prop) (hs : a.eval s = v) (hx : a.eval x = .slice A m c)
  (HO : d.R e W base ok v xs) (HR : ReadsRow Rr d.sz W A m ys) (hKM : ∀ x cs, Rr x cs → d.M W base okp x cs) (hokp : ∀ k, okp k → ok k ∧ some k ≠ v.ownBlock) (hfresh : ∀ k, W.heap.size ≤ k → ok k)
  (HB : Below base w0 W) (hbase : base ≤ W.heap.size) (hl : (xs.length + m) * bytes ≤ 140737488355328)
  (h : ∀ v1 w1, d.R e w1 base ok v1 (xs ++ ys) → Below base w0 w1 → W.grownBy w1 v.ownBlock → (v1.ownBlock = v.ownBlock ∨ ∃ b, v1.ownBlock = some b ∧ W.heap.size ≤ b) → wpList P ops Q rest (a.put o.dst v1) w1) :
  wpList P ops Q (o :: rest) a W := by
 obtain ⟨i0, hi, hzz⟩ := Option.map_eq_some_iff.1 hinfo
 simp only [Prod.mk.injEq] at hzz
 obtain ⟨hz0, hz1, hz2⟩ := hzz
 have hm : ys.length = m := HR.1
 have hlen : xs.length + m ≤ 140737488355328 := Nat.le_trans (Nat.le_mul_of_pos_right _ hb0) hl
 obtain ⟨hok, inner, hown, hr⟩ := HO
 have hrun : ∃ v1 w1, (Builtin.append_ #[t, t] o.type #[v, .slice A m c]).run P W = .ok v1 w1 ∧ d.R e w1 base ok v1 (xs ++ ys) ∧ W.grownBy w1 v.ownBlock ∧ (v1.ownBlock = v.ownBlock ∨ ∃ b, v1.ownBlock = some b ∧ W.heap.size ≤ b) := by
  rcases A with _ | ad
  ·have h0 : m = 0 := by
    rcases Nat.eq_zero_or_pos m with h0 | h0
    ·exact h0
    ·obtain ⟨ad, h, _⟩ := HR.2.2 h0
     cases h
   subst h0
   obtain rfl : ys = [] := List.eq_nil_of_length_eq_zero hm
   refine ⟨v, W, ?_, by rw [List.append_nil]; exact ⟨hok, inner, hown, hr⟩, World.grownBy.refl W _, .inl rfl⟩
   rcases hown.2 with ⟨rfl, hn⟩ | ⟨g, cap, cur, rfl, _, _, hnc, _⟩
   ·simp [Builtin.append_, run_underlying ht, sizeOf, typeInfo, hi, Builtin.lenOf, Builtin.firstCells]
   ·simp [Builtin.append_, run_underlying ht, sizeOf, typeInfo, hi, Builtin.lenOf, Builtin.firstCells, hnc, storeCells]
  ·obtain ⟨news, hnr, hnc⟩ := ReadsRow.inner_ HR
   have hnM : Reps (d.M W base okp) d.sz ys news := hnr.imp_ (fun p c hp => hKM p c hp)
   have hone : ∀ u ∈ news, u.oneCell' = true := by
    intro u hu
    obtain ⟨q, hq, rfl⟩ := List.mem_iff_getElem.1 hu
    have hql : q / d.sz < ys.length := by
     rw [Nat.div_lt_iff_lt_mul hs0]
     rw [← hnM.1]
     exact hq
    have hc := hnM.2 (q / d.sz) _ (List.getElem?_eq_getElem hql)
    refine d.K_one (d.K_of_M hc) _ ?_
    rw [List.mem_iff_getElem?]
    refine ⟨q % d.sz, ?_⟩
    rw [List.getElem?_take, if_pos (Nat.mod_lt _ hs0), List.getElem?_drop, Nat.mul_comm, Nat.div_add_mod, List.getElem?_eq_getElem hq]
   obtain ⟨v1, w1, hrun, h2, hg, _, hat⟩ := run_append_own_at (P := P) W base t o.type e i0 z d.sz bytes ht hi hz0 hz1 hz2 hz hs0 v xs.length inner hown ad m c news (by rw [hnM.1, hm]) hnc hone (by simp only [maxLen]; omega) hl hbase
   have hat' : v1.ownBlock = v.ownBlock ∨ ∃ b, v1.ownBlock = some b ∧ W.heap.size ≤ b := by
    rcases hat with hat | hat
    ·exact .inl hat
    ·exact .inr ⟨_, hat, Nat.le_refl _⟩
   have hne : ∀ k, some k ≠ v.ownBlock → k < W.heap.size → some k ≠ v1.ownBlock := by
    intro k hk hlt
    rcases hat' with hat | ⟨b, hb, hle⟩
    ·rw [hat]; exact hk
    ·rw [hb]
     intro he
     injection he with he
     omega
   have step : ∀ {q : α} {c : List Value} {o : Nat → Prop}, d.M W base o q c → (∀ k, o k → ok k ∧ some k ≠ v.ownBlock) → d.M w1 base (fun k => ok k ∧ some k ≠ v1.ownBlock) q c := by
    intro q c o hq ho
    have h1 := d.M_move (w1 := w1) (fun k hk => hg.block k hk.2.2.1 (ho k hk.1).2) (d.M_bound hq)
    exact d.M_mono (fun k hk => ⟨(ho k hk.1).1, hne k (ho k hk.1).2 hk.2.2.1⟩) h1
   refine ⟨v1, w1, hrun, ⟨fun k hk => ?_, inner ++ news, by rw [List.length_append, hm]; exact h2, reps_append (hr.imp_ (fun _ _ hq => step hq (fun _ hk => hk))) (hnM.imp_ (fun _ _ hq => step hq hokp))⟩, hg, hat'⟩
   rcases hat' with hat | ⟨b, hb, hle⟩
   ·exact hok k (hat ▸ hk)
   ·rw [hb] at hk
    injection hk with hk
    exact hfresh k (by omega)
 obtain ⟨v1, w1, hr1, h1, hg, hat⟩ := hrun
 refine wpList_plain hgd fun K hK => ?_
 unfold Oper.wp execOp
 simp only [ho, resolve, invoke, builtin, Sem.run_bind, Sem.run_pure, Result.andThen_ok, List.map_toArray, List.map_cons, List.map_nil, hs, hx, hr1]
 exact hK _ _ (h v1 w1 h1 (HB.grown hg hbase (own_base hown)) hg hat)
end
end Kd
namespace Kd
end Kd
namespace Kd
section
variable {α : Type} {k : Kd α} {w : World} {A : Option Addr} {xs : List α} {m c : Nat}
theorem C_take (h : k.C w A xs.length xs) (hm : m ≤ xs.length) : k.C w A (xs.take m).length (xs.take m) := by
 have hl : (xs.take m).length = m := by rw [List.length_take]; omega
 refine ⟨rfl, by rw [hl]; have := h.2.1; omega, fun hp => ?_⟩
 obtain ⟨ad, e, hc⟩ := h.2.2 (by omega)
 refine ⟨ad, e, fun j p hj => hc j p ?_⟩
 rw [List.getElem?_take] at hj
 split at hj
 ·exact hj
 ·cases hj
end
end Kd
theorem bZ_ {w W : World} (h : Below w.heap.size w W) : w.heap.size ≤ W.heap.size := h.size
theorem bS_ {w W w2 : World} (h : Below w.heap.size w W) (k : Below W.heap.size W w2) : Below w.heap.size w w2 := below_then h h.size k
theorem ReadsInt.nil (W : World) (k : IntKind) : ReadsInt W k none ([] : List Int).length [] := ⟨rfl, by simp, fun h => absurd h (Nat.lt_irrefl 0)⟩
theorem ReadsInt.ofRow {k : IntKind} {w : World} {a : Option Addr} {len cap : Nat} {zs : List Int} (h : (a = none ∧ len = 0 ∧ cap = 0 ∧ zs = []) ∨ ∃ x, a = some x ∧ len ≤ cap ∧ cap ≤ maxLen ∧ zs.length = cap ∧ (∀ i, i < zs.length → w.cell? (x.add i) = some (.int k (zs.getD i 0))) ∧ ∀ n ∈ zs, (Lit.int k n).wf = true) :
  ∃ l : List Int, len = l.length ∧ ReadsInt w k a l.length l ∧ l.length ≤ maxLen ∧ ∀ x ∈ l, (Lit.int k x).wf = true := by
 rcases h with ⟨rfl, rfl, rfl, rfl⟩ | ⟨x, rfl, hl, hm, hz, hc, hw⟩
 ·exact ⟨[], rfl, ReadsInt.nil _ _, Nat.zero_le _, fun x hx => by simp at hx⟩
 ·have e : (zs.take len).length = len := by simp; omega
  have hm' : len ≤ maxLen := Nat.le_trans hl hm
  refine ⟨zs.take len, e.symm, ⟨rfl, by rw [e]; simpa [maxLen] using hm', fun _ => ⟨x, rfl, fun j hj => ?_⟩⟩, by rw [e]; exact hm', fun y hy => hw y (List.mem_of_mem_take hy)⟩
  rw [e] at hj
  rw [hc j (by omega)]
  simp [List.getD, List.getElem?_take, hj]
theorem bT_ {w W : World} {g j : Nat} {v : Value} (h : Below w.heap.size w W) (hg : w.heap.size ≤ g) : Below w.heap.size w (W.setCell ⟨g, j, none⟩ v) := h.setCell hg _
theorem add_block (a : Addr) (i : Nat) : (a.add i).block = a.block := by unfold Addr.add; split <;> rfl
theorem cell_far {W : World} {p a : Addr} (h : a.block ≠ p.block) (u : Value) : (W.setCell p u).cell? a = W.cell? a := by
 have := Below.heap_setCell W p u a.block h
 simp [World.cell?, this]
theorem bP_ {w : World} {g : Nat} {t : TypeId} {cs cs' : Array Value} (h : w.heap[g]? = some (.cells cs t (0, 0))) (i : Nat) (u : Value) (e : cs.setIfInBounds i u = cs') : (w.setCell ⟨g, i, none⟩ u).heap[g]? = some (.cells cs' t (0, 0)) := e ▸ blk_set h i u
theorem ReadsInt.ofRowC {k : IntKind} {w : World} {a : Option Addr} {len cap : Nat} {zs : List Int} (h : (a = none ∧ len = 0 ∧ cap = 0 ∧ zs = []) ∨ ∃ x, a = some x ∧ len ≤ cap ∧ cap ≤ maxLen ∧ zs.length = cap ∧ (∀ i, i < zs.length → w.cell? (x.add i) = some (.int k (zs.getD i 0))) ∧ ∀ n ∈ zs, (Lit.int k n).wf = true) :
  ∃ l : List Int, len = l.length ∧ ReadsInt w k a l.length l ∧ l.length ≤ maxLen ∧ (∀ x ∈ l, (Lit.int k x).wf = true) ∧ l.length ≤ cap := by
 have hl : len ≤ cap := by
  rcases h with ⟨_, rfl, rfl, _⟩ | ⟨_, _, h, _⟩
  ·exact Nat.le_refl _
  ·exact h
 obtain ⟨l, e, h1, h2, h3⟩ := ReadsInt.ofRow h
 exact ⟨l, e, h1, h2, h3, e ▸ hl⟩
theorem bE_ {base : Nat} {w W : World} (h : Below base w W) : Below base w W.drew := h.drew
namespace Kd
section
variable {α β : Type} {d : Kd α} {d' : Kd β} {e e' base base' n : Nat} {ok ok' : Nat → Prop} {w W w1 W1 : World} {v u : Value} {xs : List α} {ys : List β} {A : Option Addr} {c : Nat}
theorem own_blk {ad : Addr} {g : Nat} (hne : some g ≠ (Value.slice (some ad) n c).ownBlock) : ad.block ≠ g := by
 rintro rfl
 exact hne (by simp [Value.ownBlock])
end
end Kd
namespace Kd
section
variable {α : Type} {d : Kd α} {e base g : Nat} {ok : Nat → Prop} {w w1 : World} {v : Value} {xs : List α} {o : Obj}
theorem R_elderB (h : d.R e w base ok v xs) (a : Nat) (ha : w.heap.size ≤ a) : d.R e w base (fun k => ok k ∧ k ≠ a) v xs := R_mono (R_bound h) (fun k hk => ⟨hk.1, by have := hk.2.2.1; omega⟩)
theorem R_newB (h : d.R e w1 w.heap.size ok v xs) (hb : w.heap[g]? = some o) : d.R e w1 w.heap.size (fun k => ok k ∧ k ≠ g) v xs := R_mono (R_bound h) (fun k hk => ⟨hk.1, by have := blk_lt hb; have := hk.2.1; omega⟩)
theorem freshB (hb : w.heap[g]? = some o) : ∀ k, w.heap.size ≤ k → k ≠ g := fun k hk => by have := blk_lt hb; omega
end
end Kd
section
variable {P : Program} {ops : Array Oper} {rest : List Oper} {o : Oper} {a : Act} {Q : Exit → Act → World → Prop}
theorem xE_ {W : World} (hgd : o.guard = none) {N : Tmp} (_hd : o.dst = some N) {cs : Array Value} {t : TypeId}
  (hrun : (execOp a.eval o).run P W = .ok (.value (.pointer (some ⟨W.heap.size, 0, none⟩))) (W.alloc (.cells cs t (0, 0))))
  (h : ∀ g, g = W.heap.size → ∀ w1, w1.heap[g]? = some (.cells cs t (0, 0)) → Below W.heap.size W w1 → wpList P ops Q rest (a.put o.dst (.pointer (some ⟨g, 0, none⟩))) w1) : wpList P ops Q (o :: rest) a W :=
 Kd.event_run hgd hrun (h _ rfl _ (blk_new W _) (bA_ (Below.refl _ _) _))
end
namespace Kd
section
variable {α : Type} {enc : α → Value} {h1 : ∀ x, (enc x).oneCell' = true} {e base g n cap : Nat} {ok : Nat → Prop} {W : World} {xs : List α}
theorem R_celln (d : α) (h : (scalar enc h1).R e W base ok (.slice (some ⟨g, 0, none⟩) n cap) xs) (i : Int) (h0 : 0 ≤ i) (hi : i < n) : W.cell? ⟨g, i.toNat, none⟩ = some (enc (rdOf d xs i)) ∧ W.frozen? ⟨g, i.toNat, none⟩ = false := by
 obtain ⟨rfl, _⟩ := R_reads' h
 exact R_cell d h i h0 hi
theorem R_putn (h : (scalar enc h1).R e W base ok (.slice (some ⟨g, 0, none⟩) n cap) xs) (i : Int) (x : α) : (scalar enc h1).R e (W.setCell ⟨g, i.toNat, none⟩ (enc x)) base ok (.slice (some ⟨g, 0, none⟩) n cap) (xs.set i.toNat x) := by
 obtain ⟨rfl, _⟩ := R_reads' h
 exact (R_put h i x).1
end
end Kd
section
variable {P : Program} {ops : Array Oper} {rest : List Oper} {o : Oper} {a : Act} {Q : Exit → Act → World → Prop}
theorem store_event {W w1 : World} (hgd : o.guard = none) {t : TypeId} {p : Tmp} {v : Operand} (_ho : o.op = .store t (.tmp p) v) (hN : o.dst = none)
  (hrun : (execOp a.eval o).run P W = .ok .skip w1) (h : ∀ w', w' = w1 → wpList P ops Q rest a w') : wpList P ops Q (o :: rest) a W := by
 refine wpList_plain hgd fun K hK => ?_
 unfold Oper.wp
 rw [hrun]
 show K (a.put o.dst undef) w1
 rw [hN]
 exact hK _ _ (h _ rfl)
end
namespace Kd
section
variable {α : Type} {enc : α → Value} {h1 : ∀ x, (enc x).oneCell' = true} {e base g n cap : Nat} {ok : Nat → Prop} {W : World} {xs : List α}
theorem R_putg (h : (scalar enc h1).R e W base ok (.slice (some ⟨g, 0, none⟩) n cap) xs) (i : Int) (x : α) : (scalar enc h1).R e (W.setCell ⟨g, i.toNat, none⟩ (enc x)) base ok (.slice (some ⟨g, 0, none⟩) n cap) (xs.set i.toNat x) ∧ W.grownBy (W.setCell ⟨g, i.toNat, none⟩ (enc x)) (some g) := by
 obtain ⟨rfl, _⟩ := R_reads' h
 exact R_put h i x
end
end Kd
section
variable {P : Program} {ops : Array Oper} {rest : List Oper} {o : Oper} {a : Act} {Q : Exit → Act → World → Prop} {W : World}
theorem gD_ {N : Tmp} (_hN : o.dst = some N) (h : wpList P ops Q (o :: rest) a W) : wpList P ops Q (o :: rest) a W := h
theorem gate_store {t : TypeId} {p : Tmp} {v : Operand} (_ho : o.op = .store t (.tmp p) v) (h : wpList P ops Q (o :: rest) a W) : wpList P ops Q (o :: rest) a W := h
end
section
variable {P : Program} {ops : Array Oper} {o : Oper} {a : Act} {Q : Exit → Act → World → Prop} {Kc : Act → World → Prop}
theorem event_step {W w1 : World} {v : Value} (hw : Region.wanted o (yielded ops a.tmps) = true) (hrun : (execOp a.eval o).run P W = .ok (.value v) w1) (h : Kc (a.put o.dst v) w1) : if Region.wanted o (yielded ops a.tmps) = true then Oper.wp P o a W Kc Q else Kc (a.put o.dst undef) W := by
 rw [if_pos hw]
 unfold Oper.wp
 rw [hrun]
 exact h
namespace Kd
variable {α : Type}
theorem R_lit_step (d : Kd α) {w0 W : World} (base e : Nat) (hw : Region.wanted o (yielded ops a.tmps) = true) {N : Tmp} (_hd : o.dst = some N) {xs : List α} {inner : List Value} {ok okp : Nat → Prop}
  (hrun : (execOp a.eval o).run P W = .ok (.value (.slice (some ⟨W.heap.size, 0, none⟩) xs.length xs.length)) (W.alloc (.cells inner.toArray e)))
  (hrep : Reps (d.M W base okp) d.sz xs inner) (hok : ∀ k, okp k → ok k) (hfresh : ok W.heap.size) (HB : Below base w0 W) (hbase : base ≤ W.heap.size) (hm : xs.length ≤ 9223372036854775807)
  (h : ∀ v1 w1, d.R e w1 base ok v1 xs → Below base w0 w1 → W.grownBy w1 none → (∃ b, v1.ownBlock = some b ∧ W.heap.size ≤ b) → Kc (a.put o.dst v1) w1) : if Region.wanted o (yielded ops a.tmps) = true then Oper.wp P o a W Kc Q else Kc (a.put o.dst undef) W := by
 refine event_step hw hrun (h _ _ ⟨fun k hk => ?_, inner, ?_, ?_⟩ (HB.alloc hbase _) (World.grownBy_alloc W _ none) ⟨W.heap.size, by simp [Value.ownBlock], Nat.le_refl _⟩)
 ·have : W.heap.size = k := by simpa [Value.ownBlock] using hk
  subst this
  exact hfresh
 ·have h2 := World.ownsRow_lit (base := base) (e := e) (size := d.sz) W inner.toArray xs.length hbase (by simpa [maxLen] using hm) (by simpa using hrep.1)
  simpa using h2
 ·refine hrep.imp_ (fun p c hp => d.M_mono (fun k hk => ⟨hok k hk.1, fun he => ?_⟩) (M_below (d.M_bound hp) (bA_ (Below.refl _ _) _)))
  have h3 : k = W.heap.size := by simpa [Value.ownBlock] using he
  have := hk.2.2.1
  omega
theorem R_append_rows_step (d : Kd α) {Rr : α → List Value → Prop} {w0 W : World} (base : Nat) (hw : Region.wanted o (yielded ops a.tmps) = true) (s x : Operand) (t e : TypeId) (z : Value) (bytes : Nat)
  (ho : o.op = .call { callee := .builtin .append, args := #[s, x], argTypes := #[t, t] })
  (ht : P.underlying t = some (.slice e)) (hinfo : (P.info? e).map (fun i => (i.zero, i.size, i.bytes)) = some (some z, d.sz, bytes)) (hz : z.cells.size = d.sz) (hs0 : 0 < d.sz) (hb0 : 0 < bytes)
  (v : Value) (xs ys : List α) (A : Option Addr) (m c : Nat) (ok okp : Nat → Prop) (hs : a.eval s = v) (hx : a.eval x = .slice A m c)
  (HO : d.R e W base ok v xs) (HR : ReadsRow Rr d.sz W A m ys) (hKM : ∀ x cs, Rr x cs → d.M W base okp x cs) (hokp : ∀ k, okp k → ok k ∧ some k ≠ v.ownBlock) (hfresh : ∀ k, W.heap.size ≤ k → ok k)
  (HB : Below base w0 W) (hbase : base ≤ W.heap.size) (hl : (xs.length + m) * bytes ≤ 140737488355328)
  (h : ∀ v1 w1, d.R e w1 base ok v1 (xs ++ ys) → Below base w0 w1 → W.grownBy w1 v.ownBlock → (v1.ownBlock = v.ownBlock ∨ ∃ b, v1.ownBlock = some b ∧ W.heap.size ≤ b) → Kc (a.put o.dst v1) w1) :
  if Region.wanted o (yielded ops a.tmps) = true then Oper.wp P o a W Kc Q else Kc (a.put o.dst undef) W := by
 obtain ⟨i0, hi, hzz⟩ := Option.map_eq_some_iff.1 hinfo
 simp only [Prod.mk.injEq] at hzz
 obtain ⟨hz0, hz1, hz2⟩ := hzz
 have hm : ys.length = m := HR.1
 have hlen : xs.length + m ≤ 140737488355328 := Nat.le_trans (Nat.le_mul_of_pos_right _ hb0) hl
 obtain ⟨hok, inner, hown, hr⟩ := HO
 have hrun : ∃ v1 w1, (Builtin.append_ #[t, t] o.type #[v, .slice A m c]).run P W = .ok v1 w1 ∧ d.R e w1 base ok v1 (xs ++ ys) ∧ W.grownBy w1 v.ownBlock ∧ (v1.ownBlock = v.ownBlock ∨ ∃ b, v1.ownBlock = some b ∧ W.heap.size ≤ b) := by
  rcases A with _ | ad
  ·have h0 : m = 0 := by
    rcases Nat.eq_zero_or_pos m with h0 | h0
    ·exact h0
    ·obtain ⟨ad, h, _⟩ := HR.2.2 h0
     cases h
   subst h0
   obtain rfl : ys = [] := List.eq_nil_of_length_eq_zero hm
   refine ⟨v, W, ?_, by rw [List.append_nil]; exact ⟨hok, inner, hown, hr⟩, World.grownBy.refl W _, .inl rfl⟩
   rcases hown.2 with ⟨rfl, hn⟩ | ⟨g, cap, cur, rfl, _, _, hnc, _⟩
   ·simp [Builtin.append_, run_underlying ht, sizeOf, typeInfo, hi, Builtin.lenOf, Builtin.firstCells]
   ·simp [Builtin.append_, run_underlying ht, sizeOf, typeInfo, hi, Builtin.lenOf, Builtin.firstCells, hnc, storeCells]
  ·obtain ⟨news, hnr, hnc⟩ := ReadsRow.inner_ HR
   have hnM : Reps (d.M W base okp) d.sz ys news := hnr.imp_ (fun p c hp => hKM p c hp)
   have hone : ∀ u ∈ news, u.oneCell' = true := by
    intro u hu
    obtain ⟨q, hq, rfl⟩ := List.mem_iff_getElem.1 hu
    have hql : q / d.sz < ys.length := by
     rw [Nat.div_lt_iff_lt_mul hs0]
     rw [← hnM.1]
     exact hq
    have hc := hnM.2 (q / d.sz) _ (List.getElem?_eq_getElem hql)
    refine d.K_one (d.K_of_M hc) _ ?_
    rw [List.mem_iff_getElem?]
    refine ⟨q % d.sz, ?_⟩
    rw [List.getElem?_take, if_pos (Nat.mod_lt _ hs0), List.getElem?_drop, Nat.mul_comm, Nat.div_add_mod, List.getElem?_eq_getElem hq]
   obtain ⟨v1, w1, hrun, h2, hg, _, hat⟩ := run_append_own_at (P := P) W base t o.type e i0 z d.sz bytes ht hi hz0 hz1 hz2 hz hs0 v xs.length inner hown ad m c news (by rw [hnM.1, hm]) hnc hone (by simp only [maxLen]; omega) hl hbase
   have hat' : v1.ownBlock = v.ownBlock ∨ ∃ b, v1.ownBlock = some b ∧ W.heap.size ≤ b := by
    rcases hat with hat | hat
    ·exact .inl hat
    ·exact .inr ⟨_, hat, Nat.le_refl _⟩
   have hne : ∀ k, some k ≠ v.ownBlock → k < W.heap.size → some k ≠ v1.ownBlock := by
    intro k hk hlt
    rcases hat' with hat | ⟨b, hb, hle⟩
    ·rw [hat]; exact hk
    ·rw [hb]
     intro he
     injection he with he
     omega
   have step : ∀ {q : α} {c : List Value} {o : Nat → Prop}, d.M W base o q c → (∀ k, o k → ok k ∧ some k ≠ v.ownBlock) → d.M w1 base (fun k => ok k ∧ some k ≠ v1.ownBlock) q c := by
    intro q c o hq ho
    have h1 := d.M_move (w1 := w1) (fun k hk => hg.block k hk.2.2.1 (ho k hk.1).2) (d.M_bound hq)
    exact d.M_mono (fun k hk => ⟨(ho k hk.1).1, hne k (ho k hk.1).2 hk.2.2.1⟩) h1
   refine ⟨v1, w1, hrun, ⟨fun k hk => ?_, inner ++ news, by rw [List.length_append, hm]; exact h2, reps_append (hr.imp_ (fun _ _ hq => step hq (fun _ hk => hk))) (hnM.imp_ (fun _ _ hq => step hq hokp))⟩, hg, hat'⟩
   rcases hat' with hat | ⟨b, hb, hle⟩
   ·exact hok k (hat ▸ hk)
   ·rw [hb] at hk
    injection hk with hk
    exact hfresh k (by omega)
 obtain ⟨v1, w1, hr1, h1, hg, hat⟩ := hrun
 rw [if_pos hw]
 unfold Oper.wp execOp
 simp only [ho, resolve, invoke, builtin, Sem.run_bind, Sem.run_pure, Result.andThen_ok, List.map_toArray, List.map_cons, List.map_nil, hs, hx, hr1]
 exact h v1 w1 h1 (HB.grown hg hbase (own_base hown)) hg hat
end Kd
end
inductive Vals (P : Program) (tmps : Array Value) (w : World) : List ResultVar → List Value → Prop where
 | nil : Vals P tmps w [] []
 | tmp {u : Tmp} {rs : List ResultVar} {vs : List Value} (h : Vals P tmps w rs vs) : Vals P tmps w (.tmp u :: rs) (tmps.getD u undef :: vs)
 | cell {p : Tmp} {ty : TypeId} {rs : List ResultVar} {vs : List Value} (g : Nat) (t : TypeId) (cs : Array Value) (fr : Nat × Nat) (d : TypeDesc)
   (hp : tmps.getD p undef = .pointer (some ⟨g, 0, none⟩)) (hg : w.heap[g]? = some (.cells cs t fr))
   (hu : P.underlying ty = some d) (hd : (match d with | .struct _ | .array _ _ => true | _ => false) = true) (hi : (P.info? ty).map (·.size) = some cs.size)
   (h : Vals P tmps w rs vs) : Vals P tmps w (.cell p ty :: rs) (.agg cs :: vs)
section
variable {P : Program} {tmps : Array Value} {w : World}
theorem vals_run {rs : List ResultVar} {vs : List Value} (hv : Vals P tmps w rs vs) (f : ResultVar → Sem Value) (hf : ∀ u, f (.tmp u) = pure (tmps.getD u undef)) (hc : ∀ a t, f (.cell a t) = (do loadVar t (← asAddr (tmps.getD a undef)))) :
  (rs.mapM f).run P w = .ok vs w := by
 induction hv with
 | nil => simp
 | tmp h ih => simp [List.mapM_cons, hf, ih]
 | cell g t cs fr d hp hg hu hd hi h ih =>
  rw [List.mapM_cons, hc, hp]
  simp [asAddr, run_loadVar_row w g t _ cs fr d hg hu hd hi, ih]
theorem results_list {fn : Func} {rs : List ResultVar} {vs : List Value} (h : fn.results = rs.toArray) (hl : vs.length ≠ 1) (hv : Vals P tmps w rs vs) : (results fn tmps).run P w = .ok (.tuple vs.toArray) w := by
 unfold results
 rw [h, List.mapM_toArray]
 simp only [Sem.run_bind, Sem.run_map]
 rw [vals_run hv]
 ·simp [hl]
 ·intro u
  rfl
 ·intro a t
  rfl
end
namespace Kd
end Kd
end Go.Proofs.YtbicfbnempiocaaGreatW.PrintWords
end
section
namespace Go.Proofs.YtbicfbnempiocaaGreatW.PrintLast
section
variable {P : Program} {ops : Array Oper} {Q : Exit → Act → World → Prop} {md : Region.Mode} {S : World → Prop} {ds : List Nat}
def Region.reachB (md : Region.Mode) (ops : Array Oper) (i : Nat) : Nat → Nat → Bool
 | 0, _ => false
 | fuel + 1, d => match ops[d]? with
  | some o => o.after.any fun e => Region.binds md e && (e.on == i || Region.reachB md ops i fuel e.on)
  | none => false
def Region.closedB (md : Region.Mode) (ops : Array Oper) (listed : Array Bool) : Bool :=
 (List.range ops.size).all fun j => !listed.getD j false || match ops[j]? with
  | some o => o.after.all fun e => !Region.binds md e || listed.getD e.on false
  | none => true
def Region.lastB (md : Region.Mode) (ops : Array Oper) (listed : Array Bool) (ds : List Nat) (i : Nat) : Bool :=
 ds.all fun d => listed.getD d true || Region.reachB md ops i ops.size d
def ListedClosed (md : Region.Mode) (ops : Array Oper) (listed : Array Bool) : Prop :=
 ∀ j oj, ops[j]? = some oj → listed.getD j false = true → ∀ e ∈ oj.after, Region.binds md e = true → listed.getD e.on false = true
theorem Region.closedB_spec {listed : Array Bool} (h : Region.closedB md ops listed = true) : ListedClosed md ops listed := by
 intro j oj hj hl e he hb
 have hlt : j < ops.size := (Array.getElem?_eq_some_iff.1 hj).1
 have h1 := List.all_eq_true.1 h j (List.mem_range.2 hlt)
 simp only [hl, hj, Bool.not_true, Bool.false_or] at h1
 have h2 := Array.all_eq_true_iff_forall_mem.1 h1 e he
 simpa [hb] using h2
theorem ListedClosed.set {listed : Array Bool} {i : Nat} (h : ListedClosed md ops listed) (hi : i ∈ Region.ready md ops listed) : ListedClosed md ops (listed.setIfInBounds i true) := by
 obtain ⟨_, oi, hoi, hall⟩ := mem_ready.1 hi
 intro j oj hj hl e he hb
 by_cases hij : i = j
 ·subst hij
  have : oj = oi := Option.some.inj (hj.symm.trans hoi)
  subst this
  exact getD_set_true (hall e he hb)
 ·rw [getD_set_ne false hij] at hl
  exact getD_set_true (h j oj hj hl e he hb)
theorem Region.reach_listed {listed : Array Bool} {i : Nat} (hc : ListedClosed md ops listed) : ∀ (fuel d : Nat), Region.reachB md ops i fuel d = true → listed.getD d false = true → listed.getD i false = true
 | 0, _, h, _ => by simp [Region.reachB] at h
 | fuel + 1, d, h, hl => by
  unfold Region.reachB at h
  cases ho : ops[d]? with
  | none => rw [ho] at h; simp at h
  | some o =>
   rw [ho] at h
   obtain ⟨e, he, h1⟩ := Array.any_eq_true'.1 h
   simp only [Bool.and_eq_true, Bool.or_eq_true, beq_iff_eq] at h1
   have hle := hc d o ho hl e he h1.1
   rcases h1.2 with h2 | h2
   ·rw [← h2]; exact hle
   ·exact Region.reach_listed hc fuel e.on h2 hle
theorem Region.reach_not_ready {listed : Array Bool} {i d fuel : Nat} (hc : ListedClosed md ops listed) (hr : Region.reachB md ops i fuel d = true) (hun : listed.getD i true = false) : d ∉ Region.ready md ops listed := by
 intro hd
 obtain ⟨_, o, ho, hall⟩ := mem_ready.1 hd
 have hi : listed.getD i false = true := by
  cases fuel with
  | zero => simp [Region.reachB] at hr
  | succ n =>
   unfold Region.reachB at hr
   rw [ho] at hr
   obtain ⟨e, he, h1⟩ := Array.any_eq_true'.1 hr
   simp only [Bool.and_eq_true, Bool.or_eq_true, beq_iff_eq] at h1
   have hle := hall e he h1.1
   rcases h1.2 with h2 | h2
   ·rw [← h2]; exact hle
   ·exact Region.reach_listed hc n e.on h2 hle
 rcases Nat.lt_or_ge i listed.size with h' | h'
 ·simp [h'] at hun hi
  rw [hun] at hi
  cases hi
 ·simp [Array.getElem?_eq_none h'] at hun
def wpAnyLast (P : Program) (md : Region.Mode) (ops : Array Oper) (Q : Exit → Act → World → Prop) (S : World → Prop) (ds : List Nat) : Nat → Array Bool → Act → World → Prop
 | 0, listed, a, w => Region.ready md ops listed = [] ∧ Q .normal a w
 | fuel + 1, listed, a, w =>
  (Region.ready md ops listed = [] → Q .normal a w) ∧
  ∀ i ∈ Region.ready md ops listed, wpOp P ops Q i (fun a' w' => (i ∉ ds → S w → S w') ∧ wpAnyLast P md ops Q S ds fuel (listed.setIfInBounds i true) a' w') a w
theorem wpAny_of_last : ∀ (fuel : Nat) (listed : Array Bool) (a : Act) (w : World), wpAnyLast P md ops Q S ds fuel listed a w → wpAny P md ops Q fuel listed a w
 | 0, _, _, _, h => h
 | fuel + 1, _, _, _, h => ⟨h.1, fun i hi => wpOp_mono (fun a' w' h' => wpAny_of_last fuel _ a' w' h'.2) (h.2 i hi)⟩
theorem wpAnyLast_first {i : Nat} {oi : Oper} {v : Value} (hi : ops[i]? = some oi) (hsel : ∀ (j : Nat) (o : Oper) cs b, ops[j]? = some o → o.op ≠ .select cs b)
  (hQ : ∀ c a w, Q (.panic c) (a.put oi.dst v) w → Q (.panic c) a w) (n : Nat) :
  ∀ (fuel : Nat) (listed : Array Bool) (a : Act) (w : World),
   (∀ j oj, ops[j]? = some oj → j ≠ i → listed.getD j true = false → (∀ e ∈ oj.after, Region.binds md e = true → e.on ≠ i) → oi.apart ops oj = true) →
   ListedClosed md ops listed → (∀ d ∈ ds, listed.getD d true = false → Region.reachB md ops i n d = true) →
   i ∈ Region.ready md ops listed → YieldsIf P ops S oi v a → S w →
   wpAnyLast P md ops Q S ds fuel (listed.setIfInBounds i true) (a.put oi.dst v) w → wpAnyLast P md ops Q S ds (fuel + 1) listed a w := by
 intro fuel
 induction fuel with
 | zero =>
  intro listed a w _ _ _ hr hy hS H
  refine ⟨fun h => (by rw [h] at hr; cases hr), fun j hj => ?_⟩
  by_cases hji : j = i
  ·subst hji; exact hy.wpOp hi hS ⟨fun _ h => h, H⟩
  ·have := ready_mono hj hji
   rw [H.1] at this
   cases this
 | succ fuel ih =>
  intro listed a w hfree hc hd hr hy hS H
  refine ⟨fun h => (by rw [h] at hr; cases hr), fun j hj => ?_⟩
  by_cases hji : j = i
  ·subst hji; exact hy.wpOp hi hS ⟨fun _ h => h, H⟩
  ·have h1 := H.2 j (ready_mono hj hji)
   obtain ⟨hjun, oj, hoj, hall⟩ := mem_ready.1 hj
   have hiun := (mem_ready.1 hr).1
   have hnot : ∀ e ∈ oj.after, Region.binds md e = true → e.on ≠ i := fun e he hb heq => by
    have h1 := hall e he hb
    rw [heq] at h1
    rcases Nat.lt_or_ge i listed.size with h' | h'
    ·simp [h'] at hiun h1; rw [hiun] at h1; cases h1
    ·simp [Array.getElem?_eq_none h'] at h1
   have hjd : j ∉ ds := fun hm => Region.reach_not_ready hc (hd j hm hjun) hiun hj
   have h2 := wpOp_putIf hoj (hfree j oj hoj hji hjun hnot) (fun cs b => hsel i oi cs b hi) (fun cs b => hsel j oj cs b hoj) hQ hy h1
   have hfree' : ∀ k ok, ops[k]? = some ok → k ≠ i → (listed.setIfInBounds j true).getD k true = false →
     (∀ e ∈ ok.after, Region.binds md e = true → e.on ≠ i) → oi.apart ops ok = true := fun k ok hk hki hun hno => by
    refine hfree k ok hk hki ?_ hno
    by_cases hjk : j = k
    ·subst hjk; exact hjun
    ·rw [getD_set_ne true hjk] at hun; exact hun
   have hd' : ∀ d ∈ ds, (listed.setIfInBounds j true).getD d true = false → Region.reachB md ops i n d = true := fun d hm hun => by
    refine hd d hm ?_
    by_cases hjk : j = d
    ·subst hjk; exact hjun
    ·rw [getD_set_ne true hjk] at hun; exact hun
   refine wpOp_mono (fun a' w' h3 => ⟨h3.2.1, ih (listed.setIfInBounds j true) a' w' hfree' (hc.set hj) hd' (ready_mono hr (Ne.symm hji)) h3.1 (h3.2.1 hjd hS) ?_⟩) h2
   rw [Array.setIfInBounds_comm _ _ hji]
   exact h3.2.2
theorem wpAnyLast_any {i : Nat} {oi : Oper} {v : Value} (hi : ops[i]? = some oi) (hsel : ∀ (j : Nat) (o : Oper) cs b, ops[j]? = some o → o.op ≠ .select cs b)
  (hQ : ∀ c a w, Q (.panic c) (a.put oi.dst v) w → Q (.panic c) a w) :
  ∀ (fuel : Nat) (listed : Array Bool) (a : Act) (w : World),
   (∀ j oj, ops[j]? = some oj → j ≠ i → listed.getD j true = false → (∀ e ∈ oj.after, Region.binds md e = true → e.on ≠ i) → oi.apart ops oj = true) →
   i ∈ Region.ready md ops listed → Yields P ops oi v a →
   wpAnyLast P md ops Q S ds fuel (listed.setIfInBounds i true) (a.put oi.dst v) w → wpAnyLast P md ops Q S ds (fuel + 1) listed a w := by
 intro fuel
 induction fuel with
 | zero =>
  intro listed a w _ hr hy H
  refine ⟨fun h => (by rw [h] at hr; cases hr), fun j hj => ?_⟩
  by_cases hji : j = i
  ·subst hji; exact (hy.yieldsIf (S := fun _ => True)).wpOp hi trivial ⟨fun _ h => h, H⟩
  ·have := ready_mono hj hji
   rw [H.1] at this
   cases this
 | succ fuel ih =>
  intro listed a w hfree hr hy H
  refine ⟨fun h => (by rw [h] at hr; cases hr), fun j hj => ?_⟩
  by_cases hji : j = i
  ·subst hji; exact (hy.yieldsIf (S := fun _ => True)).wpOp hi trivial ⟨fun _ h => h, H⟩
  ·have h1 := H.2 j (ready_mono hj hji)
   obtain ⟨hjun, oj, hoj, hall⟩ := mem_ready.1 hj
   have hiun := (mem_ready.1 hr).1
   have hnot : ∀ e ∈ oj.after, Region.binds md e = true → e.on ≠ i := fun e he hb heq => by
    have h1 := hall e he hb
    rw [heq] at h1
    rcases Nat.lt_or_ge i listed.size with h' | h'
    ·simp [h'] at hiun h1; rw [hiun] at h1; cases h1
    ·simp [Array.getElem?_eq_none h'] at h1
   have h2 := wpOp_put hoj (hfree j oj hoj hji hjun hnot) (fun cs b => hsel i oi cs b hi) (fun cs b => hsel j oj cs b hoj) hQ hy h1
   have hfree' : ∀ k ok, ops[k]? = some ok → k ≠ i → (listed.setIfInBounds j true).getD k true = false →
     (∀ e ∈ ok.after, Region.binds md e = true → e.on ≠ i) → oi.apart ops ok = true := fun k ok hk hki hun hno => by
    refine hfree k ok hk hki ?_ hno
    by_cases hjk : j = k
    ·subst hjk; exact hjun
    ·rw [getD_set_ne true hjk] at hun; exact hun
   refine wpOp_mono (fun a' w' h3 => ⟨h3.2.1, ih (listed.setIfInBounds j true) a' w' hfree' (ready_mono hr (Ne.symm hji)) h3.1 ?_⟩) h2
   rw [Array.setIfInBounds_comm _ _ hji]
   exact h3.2.2
theorem wpAnyLast_take {i : Nat} {oi : Oper} {v : Value} {fuel : Nat} {listed : Array Bool} {a : Act} {w : World} (hi : ops[i]? = some oi)
  (hs : Region.noSelect ops = true) (hf : Region.free md ops listed i = true) (hr : (Region.ready md ops listed).contains i = true)
  (hc : Region.closedB md ops listed = true) (hl : Region.lastB md ops listed ds i = true)
  (hQ : ∀ c a w, Q (.panic c) (a.put oi.dst v) w → Q (.panic c) a w) (hy : YieldsIf P ops S oi v a) (hS : S w)
  (h : wpAnyLast P md ops Q S ds fuel (listed.setIfInBounds i true) (a.put oi.dst v) w) : wpAnyLast P md ops Q S ds (fuel + 1) listed a w :=
 wpAnyLast_first hi (Region.noSelect_spec hs) hQ ops.size fuel listed a w (Region.free_spec hi hf) (Region.closedB_spec hc)
  (fun d hm hun => by have := List.all_eq_true.1 hl d hm; rw [hun] at this; simpa using this) (by simpa using hr) hy hS h
theorem wpAnyLast_all {rs : List Nat} {fuel : Nat} {listed : Array Bool} {a : Act} {w : World} (hr : Region.ready md ops listed = rs) (hne : rs ≠ [])
  (h : ∀ i ∈ rs, wpOp P ops Q i (fun a' w' => (i ∉ ds → S w → S w') ∧ wpAnyLast P md ops Q S ds fuel (listed.setIfInBounds i true) a' w') a w) : wpAnyLast P md ops Q S ds (fuel + 1) listed a w :=
 ⟨fun h0 => absurd (hr ▸ h0) hne, hr ▸ h⟩
theorem wpAnyLast_done {listed : Array Bool} {a : Act} {w : World} (hr : Region.ready md ops listed = []) (h : Q .normal a w) :
  ∀ fuel, wpAnyLast P md ops Q S ds fuel listed a w
 | 0 => ⟨hr, h⟩
 | _ + 1 => ⟨fun _ => h, by rw [hr]; simp⟩
theorem wp_region_last {id : Nat} {a : Act} {w : World} (hm : P.follows .mixedOrders = true)
  (h : wpAnyLast P .any ops Q S ds ops.size (Array.replicate ops.size false) a { w with drawn := w.drawn + 1 }) : (Code.region id ops true).wp P Q a w :=
 wp_region_any hm (wpAny_of_last _ _ _ _ h)
end
section
variable {P : Program} {ops : Array Oper} {Q : Exit → Act → World → Prop} {md : Region.Mode} {S : World → Prop} {ds : List Nat}
def AllReadyL (P : Program) (md : Region.Mode) (ops : Array Oper) (Q : Exit → Act → World → Prop) (S : World → Prop) (ds : List Nat) (fuel : Nat) (listed : Array Bool) (a : Act) (w : World) (rs : List Nat) : Prop :=
 ∀ i ∈ rs, wpOp P ops Q i (fun a' w' => (i ∉ ds → S w → S w') ∧ wpAnyLast P md ops Q S ds fuel (listed.setIfInBounds i true) a' w') a w
theorem AllReadyL.nil {fuel : Nat} {listed : Array Bool} {a : Act} {w : World} : AllReadyL P md ops Q S ds fuel listed a w [] := fun _ h => by cases h
theorem AllReadyL.cons {fuel : Nat} {listed : Array Bool} {a : Act} {w : World} {i : Nat} {o : Oper} {rs : List Nat} (ho : ops[i]? = some o) (hd : i ∉ ds)
  (h : ∀ K' : Act → World → Prop, Shut (∀ a w, S w → (S w → wpAnyLast P md ops Q S ds fuel (listed.setIfInBounds i true) a w) → K' a w) → if Region.wanted o (yielded ops a.tmps) = true then Oper.wp P o a w K' Q else K' (a.put o.dst undef) w)
  (hs : AllReadyL P md ops Q S ds fuel listed a w rs) : AllReadyL P md ops Q S ds fuel listed a w (i :: rs) := fun j hj => by
 rcases List.mem_cons.1 hj with rfl | hj
 ·exact wpOp_step ho (fun K' hK => h K' (fun a w hS hW => hK a w ⟨fun _ _ => hS, hW hS⟩))
 ·exact hs j hj
theorem AllReadyL.cons_last {fuel : Nat} {listed : Array Bool} {a : Act} {w : World} {i : Nat} {o : Oper} {rs : List Nat} (ho : ops[i]? = some o) (hd : i ∈ ds)
  (h : ∀ K' : Act → World → Prop, Shut (∀ a w, wpAnyLast P md ops Q S ds fuel (listed.setIfInBounds i true) a w → K' a w) → if Region.wanted o (yielded ops a.tmps) = true then Oper.wp P o a w K' Q else K' (a.put o.dst undef) w)
  (hs : AllReadyL P md ops Q S ds fuel listed a w rs) : AllReadyL P md ops Q S ds fuel listed a w (i :: rs) := fun j hj => by
 rcases List.mem_cons.1 hj with rfl | hj
 ·exact wpOp_step ho (fun K' hK => h K' (fun a w hW => hK a w ⟨fun hn => absurd hd hn, hW⟩))
 ·exact hs j hj
theorem wpAnyLast_ready {rs : List Nat} {fuel : Nat} {listed : Array Bool} {a : Act} {w : World} (hr : Region.ready md ops listed = rs) (hne : rs ≠ [])
  (h : AllReadyL P md ops Q S ds fuel listed a w rs) : wpAnyLast P md ops Q S ds (fuel + 1) listed a w := wpAnyLast_all hr hne h
theorem start_ {id n : Nat} {a : Act} {w : World} (l : Array Bool) (hm : P.follows .mixedOrders = true) (hn : ops.size = n) (hl : Array.replicate n false = l) (hS : S w.drew)
  (h : S w.drew → wpAnyLast P .any ops Q S ds n l a w.drew) : (Code.region id ops true).wp P Q a w := by
 subst hn
 subst hl
 exact wp_region_last hm (h hS)
def takeB (md : Region.Mode) (ops : Array Oper) (ds : List Nat) (l l' : Array Bool) (i : Nat) : Bool :=
 Region.noSelect ops && Region.free md ops l i && (Region.ready md ops l).contains i && Region.closedB md ops l && Region.lastB md ops l ds i && (l.setIfInBounds i true == l')
theorem take_ {i : Nat} {N : Option Tmp} {oi : Oper} {v : Value} {fuel : Nat} {l : Array Bool} {a : Act} {w : World} (l' : Array Bool) (hi : ops[i]? = some oi) (hN : oi.dst = N) (hc : takeB md ops ds l l' i = true)
  (hQ : ∀ c a w, Q (.panic c) (a.put oi.dst v) w → Q (.panic c) a w) (hy : YieldsIf P ops S oi v a) (hS : S w) {a' : Act} (ha : a.put N v = a')
  (h : wpAnyLast P md ops Q S ds fuel l' a' w) : wpAnyLast P md ops Q S ds (fuel + 1) l a w := by
 subst ha
 subst hN
 simp only [takeB, Bool.and_eq_true, beq_iff_eq] at hc
 obtain ⟨⟨⟨⟨⟨h1, h2⟩, h3⟩, h4⟩, h5⟩, h6⟩ := hc
 subst h6
 exact wpAnyLast_take hi h1 h2 h3 h4 h5 hQ hy hS h
def anyB (md : Region.Mode) (ops : Array Oper) (l l' : Array Bool) (i : Nat) : Bool :=
 Region.noSelect ops && Region.free md ops l i && (Region.ready md ops l).contains i && (l.setIfInBounds i true == l')
theorem pure_ {i : Nat} {N : Option Tmp} {oi : Oper} {v : Value} {fuel : Nat} {l : Array Bool} {a : Act} {w : World} (l' : Array Bool) (hi : ops[i]? = some oi) (hN : oi.dst = N) (hc : anyB md ops l l' i = true)
  (hQ : ∀ c a w, Q (.panic c) (a.put oi.dst v) w → Q (.panic c) a w) (hy : Yields P ops oi v a) {a' : Act} (ha : a.put N v = a')
  (h : wpAnyLast P md ops Q S ds fuel l' a' w) : wpAnyLast P md ops Q S ds (fuel + 1) l a w := by
 subst ha
 subst hN
 simp only [anyB, Bool.and_eq_true, beq_iff_eq] at hc
 obtain ⟨⟨⟨h1, h2⟩, h3⟩, h6⟩ := hc
 subst h6
 exact wpAnyLast_any hi (Region.noSelect_spec h1) hQ fuel l a w (Region.free_spec hi h2) (by simpa using h3) hy h
def readyB (md : Region.Mode) (ops : Array Oper) (l l' : Array Bool) (i : Nat) : Bool := (Region.ready md ops l == [i]) && (l.setIfInBounds i true == l')
theorem one_ {i : Nat} {N : Option Tmp} {oi : Oper} {fuel : Nat} {l : Array Bool} {a : Act} {w : World} (l' : Array Bool) (hi : ops[i]? = some oi) (hN : oi.dst = N) (hc : readyB md ops l l' i = true) (hd : i ∉ ds)
  (h : ∀ K : Act → World → Prop, Shut (∀ a' w', S w' → (S w' → wpAnyLast P md ops Q S ds fuel l' a' w') → K a' w') → if Region.wanted oi (yielded ops a.tmps) = true then Oper.wp P oi a w K Q else K (a.put N undef) w) :
  wpAnyLast P md ops Q S ds (fuel + 1) l a w := by
 subst hN
 simp only [readyB, Bool.and_eq_true, beq_iff_eq] at hc
 obtain ⟨h1, h2⟩ := hc
 subst h2
 exact wpAnyLast_ready h1 (by simp) (AllReadyL.cons hi hd (fun K hK => h K hK) AllReadyL.nil)
theorem last_ {i : Nat} {N : Option Tmp} {oi : Oper} {fuel : Nat} {l : Array Bool} {a : Act} {w : World} (l' : Array Bool) (hi : ops[i]? = some oi) (hN : oi.dst = N) (hc : readyB md ops l l' i = true) (hd : i ∈ ds)
  (h : ∀ K : Act → World → Prop, Shut (∀ a' w', wpAnyLast P md ops Q S ds fuel l' a' w' → K a' w') → if Region.wanted oi (yielded ops a.tmps) = true then Oper.wp P oi a w K Q else K (a.put N undef) w) :
  wpAnyLast P md ops Q S ds (fuel + 1) l a w := by
 subst hN
 simp only [readyB, Bool.and_eq_true, beq_iff_eq] at hc
 obtain ⟨h1, h2⟩ := hc
 subst h2
 exact wpAnyLast_ready h1 (by simp) (AllReadyL.cons_last hi hd (fun K hK => h K hK) AllReadyL.nil)
theorem done_ {l : Array Bool} {a : Act} {w : World} {n : Nat} (hr : (Region.ready md ops l == []) = true) (h : Q .normal a w) : wpAnyLast P md ops Q S ds n l a w := wpAnyLast_done (by simpa using hr) h n
theorem two_ {i j : Nat} {Ni Nj : Option Tmp} {oi oj : Oper} {fuel : Nat} {l : Array Bool} {a : Act} {w : World} (li lj : Array Bool) (hi : ops[i]? = some oi) (hj : ops[j]? = some oj) (hNi : oi.dst = Ni) (hNj : oj.dst = Nj)
  (hc : (Region.ready md ops l == [i, j] && l.setIfInBounds i true == li && l.setIfInBounds j true == lj) = true) (hdi : i ∉ ds) (hdj : j ∉ ds)
  (h1 : ∀ K : Act → World → Prop, Shut (∀ a' w', S w' → (S w' → wpAnyLast P md ops Q S ds fuel li a' w') → K a' w') → if Region.wanted oi (yielded ops a.tmps) = true then Oper.wp P oi a w K Q else K (a.put Ni undef) w)
  (h2 : ∀ K : Act → World → Prop, Shut (∀ a' w', S w' → (S w' → wpAnyLast P md ops Q S ds fuel lj a' w') → K a' w') → if Region.wanted oj (yielded ops a.tmps) = true then Oper.wp P oj a w K Q else K (a.put Nj undef) w) :
  wpAnyLast P md ops Q S ds (fuel + 1) l a w := by
 subst hNi
 subst hNj
 simp only [Bool.and_eq_true, beq_iff_eq] at hc
 obtain ⟨⟨h3, h4⟩, h5⟩ := hc
 subst h4
 subst h5
 exact wpAnyLast_ready h3 (by simp) (AllReadyL.cons hi hdi (fun K hK => h1 K hK) (AllReadyL.cons hj hdj (fun K hK => h2 K hK) AllReadyL.nil))
theorem three_ {i j k : Nat} {Ni Nj Nk : Option Tmp} {oi oj ok : Oper} {fuel : Nat} {l : Array Bool} {a : Act} {w : World} (li lj lk : Array Bool) (hi : ops[i]? = some oi) (hj : ops[j]? = some oj) (hk : ops[k]? = some ok) (hNi : oi.dst = Ni) (hNj : oj.dst = Nj) (hNk : ok.dst = Nk)
  (hc : (Region.ready md ops l == [i, j, k] && l.setIfInBounds i true == li && l.setIfInBounds j true == lj && l.setIfInBounds k true == lk) = true) (hdi : i ∉ ds) (hdj : j ∉ ds) (hdk : k ∉ ds)
  (h1 : ∀ K : Act → World → Prop, Shut (∀ a' w', S w' → (S w' → wpAnyLast P md ops Q S ds fuel li a' w') → K a' w') → if Region.wanted oi (yielded ops a.tmps) = true then Oper.wp P oi a w K Q else K (a.put Ni undef) w)
  (h2 : ∀ K : Act → World → Prop, Shut (∀ a' w', S w' → (S w' → wpAnyLast P md ops Q S ds fuel lj a' w') → K a' w') → if Region.wanted oj (yielded ops a.tmps) = true then Oper.wp P oj a w K Q else K (a.put Nj undef) w)
  (h3 : ∀ K : Act → World → Prop, Shut (∀ a' w', S w' → (S w' → wpAnyLast P md ops Q S ds fuel lk a' w') → K a' w') → if Region.wanted ok (yielded ops a.tmps) = true then Oper.wp P ok a w K Q else K (a.put Nk undef) w) :
  wpAnyLast P md ops Q S ds (fuel + 1) l a w := by
 subst hNi
 subst hNj
 subst hNk
 simp only [Bool.and_eq_true, beq_iff_eq] at hc
 obtain ⟨⟨⟨h4, h5⟩, h6⟩, h7⟩ := hc
 subst h5
 subst h6
 subst h7
 exact wpAnyLast_ready h4 (by simp) (AllReadyL.cons hi hdi (fun K hK => h1 K hK) (AllReadyL.cons hj hdj (fun K hK => h2 K hK) (AllReadyL.cons hk hdk (fun K hK => h3 K hK) AllReadyL.nil)))
def putAll : Act → List (Tmp × Value) → Act
 | a, [] => a
 | a, (n, v) :: r => putAll (a.put (some n) v) r
theorem join_ {σ : Type} {fuel : Nat} {l : Array Bool} {a : Act} {w : World} (fuel' : Nat) (l' : Array Bool) (ns : σ → List (Tmp × Value)) (F : σ → World → Prop)
  (hcont : ∀ s w', F s w' → wpAnyLast P md ops Q S ds fuel' l' (putAll a (ns s)) w')
  (h : (∀ s w', F s w' → wpAnyLast P md ops Q S ds fuel' l' (putAll a (ns s)) w') → wpAnyLast P md ops Q S ds fuel l a w) : wpAnyLast P md ops Q S ds fuel l a w := h hcont
theorem norm_ {fuel : Nat} {l : Array Bool} {a a' : Act} {w : World} (ha : a = a') (h : wpAnyLast P md ops Q S ds fuel l a' w) : wpAnyLast P md ops Q S ds fuel l a w := by
 subst ha
 exact h
theorem call_ {oi : Oper} {N : Option Tmp} {a : Act} {w : World} {K : Act → World → Prop} (f : FuncId) (args : Array Value) (hw : Region.wanted oi (yielded ops a.tmps) = true) (hN : oi.dst = N) (hrun : (execOp a.eval oi).run P w = .ok (.enter f args) w)
  (h : Calls P f args w fun e w' => ∃ v, e = .returned v ∧ K (a.put N v) w') : if Region.wanted oi (yielded ops a.tmps) = true then Oper.wp P oi a w K Q else K (a.put N undef) w := by
 rw [if_pos hw]
 subst hN
 unfold Oper.wp
 rw [hrun, Oper.upon_enter]
 refine h.mono fun e w'' hh => ?_
 obtain ⟨v, rfl, hk⟩ := hh
 exact hk
theorem enters_ {f : FuncId} {fn : Func} (hf : P.funcs[f]? = some fn) (hname : (fn.name == "runtime.NumGoroutine") = false) (hb : fn.body.isSome = true) (args : Array Value) (w : World) : (callFunc f args).run P w = .ok (.enter f args) w := by
 have h1 : fn.name ≠ "runtime.NumGoroutine" := by simpa using hname
 obtain ⟨c, hc⟩ := Option.isSome_iff_exists.1 hb
 simp [callFunc, hf, h1, hc]
theorem goes_ {oi : Oper} {N : Option Tmp} {a : Act} {w : World} {K : Act → World → Prop} {f : FuncId} {fn : Func} {as0 : Array Operand} {ts : Array TypeId} (hf : P.funcs[f]? = some fn) (hname : (fn.name == "runtime.NumGoroutine") = false) (hb : fn.body.isSome = true) (args : Array Value)
  (hw : Region.wanted oi (yielded ops a.tmps) = true) (hN : oi.dst = N) (hop : oi.op = .call { callee := .value (.func f), args := as0, argTypes := ts }) (hargs : as0.map a.eval = args)
  (h : Calls P f args w fun e w' => ∃ v, e = .returned v ∧ K (a.put N v) w') : if Region.wanted oi (yielded ops a.tmps) = true then Oper.wp P oi a w K Q else K (a.put N undef) w := by
 refine call_ f args hw hN ?_ h
 have he := enters_ hf hname hb args w
 unfold execOp
 simp [hop, resolve, Deferred.ofValue, invoke, Act.eval, hargs, he]
theorem goesL_ {rest : List Oper} {oi : Oper} {a : Act} {w : World} (N : Option Tmp) (hd : oi.dst = N) (hg : oi.guard = none) {f : FuncId} {fn : Func} {as0 : Array Operand} {ts : Array TypeId} (hf : P.funcs[f]? = some fn) (hname : (fn.name == "runtime.NumGoroutine") = false) (hb : fn.body.isSome = true) (args : Array Value)
  (hop : oi.op = .call { callee := .value (.func f), args := as0, argTypes := ts }) (hargs : as0.map a.eval = args)
  (h : Calls P f args w fun e w' => ∃ v, e = .returned v ∧ wpList P ops Q rest (a.put N v) w') : wpList P ops Q (oi :: rest) a w := by
 refine wpList_plain hg fun K hK => ?_
 have he := enters_ hf hname hb args w
 have hrun : (execOp a.eval oi).run P w = .ok (.enter f args) w := by
  unfold execOp
  simp [hop, resolve, Deferred.ofValue, invoke, Act.eval, hargs, he]
 unfold Oper.wp
 rw [hrun, Oper.upon_enter]
 refine h.mono fun e w'' hh => ?_
 obtain ⟨v, rfl, hk⟩ := hh
 subst hd
 exact hK _ _ hk
theorem value_ {oi : Oper} {N : Option Tmp} {a : Act} {w w1 : World} {v : Value} {K : Act → World → Prop} (hw : Region.wanted oi (yielded ops a.tmps) = true) (hN : oi.dst = N) (hrun : (execOp a.eval oi).run P w = .ok (.value v) w1)
  (h : K (a.put N v) w1) : if Region.wanted oi (yielded ops a.tmps) = true then Oper.wp P oi a w K Q else K (a.put N undef) w := by
 rw [if_pos hw]
 subst hN
 unfold Oper.wp
 rw [hrun]
 exact h
theorem skip_ {oi : Oper} {a : Act} {w w1 : World} {K : Act → World → Prop} (hw : Region.wanted oi (yielded ops a.tmps) = true) (hN : oi.dst = none) (hrun : (execOp a.eval oi).run P w = .ok .skip w1)
  (h : K a w1) : if Region.wanted oi (yielded ops a.tmps) = true then Oper.wp P oi a w K Q else K (a.put none undef) w := by
 rw [if_pos hw]
 unfold Oper.wp
 rw [hrun]
 show K (a.put oi.dst undef) w1
 rw [hN]
 exact h
theorem i64_w (n : Int) : IntKind.i64.wrap n = Go.RowKit.wrap64 n := by unfold Go.RowKit.wrap64; exact IntKind.wrap_i64 n
end
end Go.Proofs.YtbicfbnempiocaaGreatW.PrintLast
end
section
namespace Go.Proofs.YtbicfbnempiocaaGreatW.PrintLast
open Go.Proofs.YtbicfbnempiocaaGreatW.PrintWords (Aq)
def needsOf (md : Region.Mode) (o : Oper) : List Nat := (o.after.toList.filter (fun e => Region.binds md e)).map (fun e => e.on)
def clashOf (md : Region.Mode) (ops : Array Oper) (i : Nat) (oi : Oper) : List Nat := (List.range ops.size).filter fun j => !(j == i) && match ops[j]? with
 | some oj => !(oj.after.any (fun e => Region.binds md e && e.on == i) || oi.apart ops oj)
 | none => false
def rtab (md : Region.Mode) (ops : Array Oper) : Bool × List (List Nat × List Nat) := (Region.noSelect ops, (List.range ops.size).map fun i => match ops[i]? with
 | some o => (needsOf md o, clashOf md ops i o)
 | none => ([], []))
def readyAt (T : List (List Nat × List Nat)) (l : List Bool) (i : Nat) : Bool := !l.getD i true && match T[i]? with
 | some r => r.1.all (fun j => l.getD j false)
 | none => false
def readyT (T : List (List Nat × List Nat)) (l : List Bool) : List Nat := (List.range T.length).filter (readyAt T l)
def freeT (T : List (List Nat × List Nat)) (l : List Bool) (i : Nat) : Bool := match T[i]? with
 | some r => r.2.all (fun j => l.getD j true)
 | none => false
def closedT (T : List (List Nat × List Nat)) (l : List Bool) : Bool := (List.range T.length).all fun j => !l.getD j false || match T[j]? with
 | some r => r.1.all (fun k => l.getD k false)
 | none => true
def reachT (T : List (List Nat × List Nat)) (i : Nat) : Nat → Nat → Bool
 | 0, _ => false
 | fuel + 1, d => match T[d]? with
  | some r => r.1.any fun j => j == i || reachT T i fuel j
  | none => false
def lastT (T : List (List Nat × List Nat)) (l : List Bool) (ds : List Nat) (i : Nat) : Bool := ds.all fun d => l.getD d true || reachT T i T.length d
section
variable {md : Region.Mode} {ops : Array Oper} {T : Bool × List (List Nat × List Nat)} {l l' li lj lk : Array Bool} {ds : List Nat} {i j k : Nat}
theorem gd (l : Array Bool) (j : Nat) (b : Bool) : l.getD j b = l.toList.getD j b := by simp [Array.getD_eq_getD_getElem?, List.getD_eq_getElem?_getD]
theorem needs_all (o : Oper) (p : Nat → Bool) : o.after.all (fun e => !Region.binds md e || p e.on) = (needsOf md o).all p := by
 unfold needsOf
 rw [← Array.all_toList]
 induction o.after.toList with
 | nil => rfl
 | cons e r ih =>
  rw [List.all_cons, ih, List.filter_cons]
  cases h : Region.binds md e <;> simp
theorem needs_any (o : Oper) (p : Nat → Bool) : o.after.any (fun e => Region.binds md e && p e.on) = (needsOf md o).any p := by
 unfold needsOf
 rw [← Array.any_toList]
 induction o.after.toList with
 | nil => rfl
 | cons e r ih =>
  rw [List.any_cons, ih, List.filter_cons]
  cases h : Region.binds md e <;> simp
theorem rtab_length : (rtab md ops).2.length = ops.size := by simp [rtab]
theorem rtab_some {o : Oper} (h : ops[i]? = some o) : (rtab md ops).2[i]? = some (needsOf md o, clashOf md ops i o) := by
 have hi := (Array.getElem?_eq_some_iff.1 h).1
 unfold rtab
 rw [List.getElem?_map, List.getElem?_range hi, Option.map_some, h]
theorem rtab_none (h : ops[i]? = none) : (rtab md ops).2[i]? = none := by
 have hi : ops.size ≤ i := Array.getElem?_eq_none_iff.1 h
 exact List.getElem?_eq_none (by rw [rtab_length]; exact hi)
theorem readyAt_eq : readyAt (rtab md ops).2 l.toList i = (!l.getD i true && ((ops[i]?).map (·.after.all fun e => !Region.binds md e || l.getD e.on false)).getD false) := by
 unfold readyAt
 rw [gd]
 cases h : ops[i]? with
 | none => rw [rtab_none h]; rfl
 | some o =>
  rw [rtab_some h]
  simp only [Option.map_some, Option.getD_some]
  rw [← needs_all]
  simp only [gd]
theorem ready_eq : Region.ready md ops l = readyT (rtab md ops).2 l.toList := by
 unfold Region.ready readyT
 rw [rtab_length]
 refine List.filter_congr (fun i _ => ?_)
 rw [readyAt_eq]
theorem free_eq : Region.free md ops l i = freeT (rtab md ops).2 l.toList i := by
 unfold Region.free freeT
 cases h : ops[i]? with
 | none => rw [rtab_none h]
 | some oi =>
  rw [rtab_some h]
  simp only [clashOf]
  rw [List.all_filter]
  congr 1
  funext j
  rw [gd]
  cases hj : ops[j]? with
  | none => cases (j == i) <;> cases (l.toList.getD j true) <;> simp
  | some oj =>
   cases (j == i) <;> cases (l.toList.getD j true) <;> cases (oj.after.any (fun e => Region.binds md e && e.on == i) || oi.apart ops oj) <;> simp_all
theorem closed_eq : Region.closedB md ops l = closedT (rtab md ops).2 l.toList := by
 unfold Region.closedB closedT
 rw [rtab_length]
 congr 1
 funext j
 rw [gd]
 cases h : ops[j]? with
 | none => rw [rtab_none h]
 | some o =>
  rw [rtab_some h]
  simp only
  rw [← needs_all]
  simp only [gd]
theorem reach_eq : ∀ (fuel d : Nat), Region.reachB md ops i fuel d = reachT (rtab md ops).2 i fuel d
 | 0, _ => rfl
 | fuel + 1, d => by
  unfold Region.reachB reachT
  cases h : ops[d]? with
  | none => rw [rtab_none h]
  | some o =>
   rw [rtab_some h]
   simp only
   rw [← needs_any]
   congr 1
   funext e
   rw [reach_eq fuel]
theorem last_eq : Region.lastB md ops l ds i = lastT (rtab md ops).2 l.toList ds i := by
 unfold Region.lastB lastT
 rw [rtab_length]
 congr 1
 funext d
 rw [gd, reach_eq]
theorem readyAt_mem (h : readyAt T.2 l.toList i = true) (hT : rtab md ops = T) : (Region.ready md ops l).contains i = true := by
 subst hT
 rw [ready_eq]
 unfold readyT
 rw [List.contains_iff_mem, List.mem_filter, List.mem_range]
 refine ⟨?_, h⟩
 unfold readyAt at h
 rw [Bool.and_eq_true] at h
 cases hq : (rtab md ops).2[i]? with
 | none => rw [hq] at h; simp at h
 | some r => exact (List.getElem?_eq_some_iff.1 hq).1
theorem set_of (h : (l.toList.set i true == l'.toList) = true) : (l.setIfInBounds i true == l') = true := by
 rw [beq_iff_eq] at h ⊢
 apply Array.ext'
 rw [Array.toList_setIfInBounds]
 exact h
def anyT (T : Bool × List (List Nat × List Nat)) (l l' : List Bool) (i : Nat) : Bool := T.1 && freeT T.2 l i && readyAt T.2 l i && (l.set i true == l')
theorem any_of (hT : rtab md ops = T) (h : anyT T l.toList l'.toList i = true) : anyB md ops l l' i = true := by
 simp only [anyT, Bool.and_eq_true] at h
 obtain ⟨⟨⟨h1, h2⟩, h3⟩, h4⟩ := h
 have h5 := readyAt_mem h3 hT
 have h6 := set_of h4
 subst hT
 simp only [anyB, Bool.and_eq_true]
 exact ⟨⟨⟨h1, by rw [free_eq]; exact h2⟩, h5⟩, h6⟩
def takeT (T : Bool × List (List Nat × List Nat)) (ds : List Nat) (l l' : List Bool) (i : Nat) : Bool := T.1 && freeT T.2 l i && readyAt T.2 l i && closedT T.2 l && lastT T.2 l ds i && (l.set i true == l')
theorem take_of (hT : rtab md ops = T) (h : takeT T ds l.toList l'.toList i = true) : takeB md ops ds l l' i = true := by
 simp only [takeT, Bool.and_eq_true] at h
 obtain ⟨⟨⟨⟨⟨h1, h2⟩, h3⟩, h4⟩, h5⟩, h6⟩ := h
 have h7 := readyAt_mem h3 hT
 have h8 := set_of h6
 subst hT
 simp only [takeB, Bool.and_eq_true]
 exact ⟨⟨⟨⟨⟨h1, by rw [free_eq]; exact h2⟩, h7⟩, by rw [closed_eq]; exact h4⟩, by rw [last_eq]; exact h5⟩, h8⟩
theorem one_of (hT : rtab md ops = T) (h : (readyT T.2 l.toList == [i] && l.toList.set i true == l'.toList) = true) : readyB md ops l l' i = true := by
 simp only [Bool.and_eq_true] at h
 obtain ⟨h1, h2⟩ := h
 subst hT
 simp only [readyB, Bool.and_eq_true]
 exact ⟨by rw [ready_eq]; exact h1, set_of h2⟩
theorem done_of (hT : rtab md ops = T) (h : (readyT T.2 l.toList == []) = true) : (Region.ready md ops l == []) = true := by
 subst hT
 rw [ready_eq]
 exact h
def upM (B : List Nat) (d : Nat) : List Nat → Nat
 | [] => 0
 | n :: r => (2 ^ n ||| (if n < d then B.getD n 0 else 0)) ||| upM B d r
def waitsOk (T : List (List Nat × List Nat)) (B : List Nat) : Bool := (List.range T.length).all fun d => match T[d]? with
 | some r => (B.getD d 0 ||| upM B d r.1) == upM B d r.1
 | none => false
theorem upM_bit {B : List Nat} {d i : Nat} : ∀ {ns : List Nat}, (upM B d ns).testBit i = true → ∃ n ∈ ns, n = i ∨ (n < d ∧ (B.getD n 0).testBit i = true)
 | [], h => by simp [upM] at h
 | n :: r, h => by
  unfold upM at h
  rw [Nat.testBit_or, Nat.testBit_or, Bool.or_eq_true, Bool.or_eq_true] at h
  rcases h with (h | h) | h
  ·rw [Nat.testBit_two_pow] at h
   exact ⟨n, List.mem_cons_self, .inl (by simpa using h)⟩
  ·by_cases hn : n < d
   ·rw [if_pos hn] at h
    exact ⟨n, List.mem_cons_self, .inr ⟨hn, h⟩⟩
   ·rw [if_neg hn] at h
    simp at h
  ·obtain ⟨m, hm, h2⟩ := upM_bit h
   exact ⟨m, List.mem_cons_of_mem _ hm, h2⟩
theorem reach_bit {T : List (List Nat × List Nat)} {B : List Nat} (hB : waitsOk T B = true) : ∀ (fuel d : Nat), d < fuel → d < T.length → (B.getD d 0).testBit i = true → reachT T i fuel d = true
 | 0, d, h, _, _ => by omega
 | fuel + 1, d, h, hd, hb => by
  have h1 := List.all_eq_true.1 hB d (List.mem_range.2 hd)
  cases hr : T[d]? with
  | none => rw [hr] at h1; simp at h1
  | some r =>
   rw [hr] at h1
   simp only [beq_iff_eq] at h1
   have h2 : (upM B d r.1).testBit i = true := by rw [← h1, Nat.testBit_or, hb, Bool.true_or]
   obtain ⟨n, hn, h3⟩ := upM_bit h2
   unfold reachT
   rw [hr]
   simp only
   rw [List.any_eq_true]
   refine ⟨n, hn, ?_⟩
   rcases h3 with rfl | ⟨h4, h5⟩
   ·simp
   ·rw [reach_bit hB fuel n (by omega) (by omega) h5, Bool.or_true]
def lastW (T : List (List Nat × List Nat)) (B : List Nat) (l : List Bool) (ds : List Nat) (i : Nat) : Bool := ds.all fun d => l.getD d true || (decide (d < T.length) && (B.getD d 0).testBit i)
def takeW (T : Bool × List (List Nat × List Nat)) (B : List Nat) (ds : List Nat) (l l' : List Bool) (i : Nat) : Bool := T.1 && freeT T.2 l i && readyAt T.2 l i && closedT T.2 l && lastW T.2 B l ds i && (l.set i true == l')
theorem take_ofW {B : List Nat} (hT : rtab md ops = T) (hB : waitsOk T.2 B = true) (h : takeW T B ds l.toList l'.toList i = true) : takeB md ops ds l l' i = true := by
 refine take_of hT ?_
 simp only [takeW, takeT, Bool.and_eq_true] at h ⊢
 obtain ⟨⟨⟨⟨⟨h1, h2⟩, h3⟩, h4⟩, h5⟩, h6⟩ := h
 refine ⟨⟨⟨⟨⟨h1, h2⟩, h3⟩, h4⟩, ?_⟩, h6⟩
 unfold lastW at h5
 unfold lastT
 rw [List.all_eq_true] at h5 ⊢
 intro d hd
 have h7 := h5 d hd
 rw [Bool.or_eq_true, Bool.and_eq_true, decide_eq_true_eq] at h7
 rcases h7 with h7 | ⟨h8, h9⟩
 ·rw [h7, Bool.true_or]
 ·rw [reach_bit hB _ d h8 h8 h9, Bool.or_true]
theorem with_tabW {P : Program} {Q : Exit → Act → World → Prop} {S : World → Prop} {n : Nat} {a : Act} {w : World} {B : List Nat} (hT : rtab md ops = T) (hB : waitsOk T.2 B = true) (h : Aq (rtab md ops = T) → Aq (waitsOk T.2 B = true) → wpAnyLast P md ops Q S ds n l a w) : wpAnyLast P md ops Q S ds n l a w := h ⟨hT⟩ ⟨hB⟩
end
def opsIn : Code → Nat → Option (Array Oper)
 | .region id ops _, k => if id == k then some ops else none
 | .seq a b, k => match opsIn a k with
  | some o => some o
  | none => opsIn b k
 | .cond _ a b, k => match opsIn a k with
  | some o => some o
  | none => opsIn b k
 | .block _ c, k => opsIn c k
 | .loop c, k => opsIn c k
 | .scope c, k => opsIn c k
 | .rangeFunc _ _ a b, k => match opsIn a k with
  | some o => some o
  | none => opsIn b k
 | _, _ => none
def opsOf (f : Func) (k : Nat) : Array Oper := ((f.body.bind fun c => opsIn c k)).getD #[]
end Go.Proofs.YtbicfbnempiocaaGreatW.PrintLast
end
section
namespace Go.Proofs.YtbicfbnempiocaaGreatW.PrintWords
open Go.RowKit
section
variable {P : Program} {d : Nat} {xs ys : Array Value} {f : Field} {fs : List Field} {a b : Value} {r s : Bool} {w : World}
theorem eqf_last (hn : (f.name == "_") = false) (ha : (part f.type xs f.offset).run P w = .ok a w) (hb : (part f.type ys f.offset).run P w = .ok b w) (he : (Op.equalIn d f.type a b).run P w = .ok r w) : (Op.eqFields d xs ys [f]).run P w = .ok r w := by
 have hn' : f.name ≠ "_" := by simpa using hn
 simp only [Op.eqFields, if_pos hn', Sem.run_bind, ha, hb, he, Result.andThen_ok]
 cases r <;> simp
theorem eqf_cons (hn : (f.name == "_") = false) (ha : (part f.type xs f.offset).run P w = .ok a w) (hb : (part f.type ys f.offset).run P w = .ok b w) (he : (Op.equalIn d f.type a b).run P w = .ok r w) (hr : (Op.eqFields d xs ys fs).run P w = .ok s w) : (Op.eqFields d xs ys (f :: fs)).run P w = .ok (r && s) w := by
 have hn' : f.name ≠ "_" := by simpa using hn
 rw [Op.eqFields]
 simp only [if_pos hn', Sem.run_bind, ha, hb, he, Result.andThen_ok]
 cases r
 ·simp
 ·simpa using hr
theorem eqA_of {t : TypeId} {fs : Array Field} (hu : P.underlying t = some (.struct fs)) (hp : P.stoodInHeld t = false) (h : (Op.eqFields d xs ys fs.toList).run P w = .ok r w) : (Op.equalIn (d + 1) t (.agg xs) (.agg ys)).run P w = .ok r w := by
 have hf : P.fieldsOf t = fs := by simp [Program.fieldsOf, hu]
 rw [run_equalIn_struct (P := P) w d t xs ys (by rw [hf]; exact hu) hp, hf]
 exact h
end
end Go.Proofs.YtbicfbnempiocaaGreatW.PrintWords
end
section
namespace Go.Proofs.YtbicfbnempiocaaGreatW.PrintWords
theorem Reps.front {α : Type} {R : α → List Value → Prop} {size : Nat} {ps : List α} {cs c all : List Value} {p : α} (hp : R p c) (hc : c.length = size) (h : Reps R size ps cs) (ha : c ++ cs = all) : Reps R size (p :: ps) all := by
 subst ha
 refine ⟨by rw [List.length_append, hc, h.1, List.length_cons, Nat.succ_mul, Nat.add_comm], fun j q hq => ?_⟩
 cases j with
 | zero =>
  simp only [List.getElem?_cons_zero, Option.some.injEq] at hq
  subst hq
  rw [Nat.zero_mul, List.drop_zero, List.take_append_of_le_length (by omega), List.take_of_length_le (by omega)]
  exact hp
 | succ j =>
  simp only [List.getElem?_cons_succ] at hq
  have h1 := h.2 j q hq
  rw [Nat.succ_mul, List.drop_append, List.drop_of_length_le (by rw [hc]; exact Nat.le_add_left _ _), List.nil_append, hc, Nat.add_sub_cancel]
  exact h1
theorem Reps.c2 {α : Type} {R : α → List Value → Prop} {ps : List α} {cs : List Value} {p : α} {va vb : Value} (hp : R p [va, vb]) (h : Reps R 2 ps cs) : Reps R 2 (p :: ps) (va :: vb :: cs) := Reps.front hp rfl h rfl
theorem Reps.c3 {α : Type} {R : α → List Value → Prop} {ps : List α} {cs : List Value} {p : α} {va vb vc : Value} (hp : R p [va, vb, vc]) (h : Reps R 3 ps cs) : Reps R 3 (p :: ps) (va :: vb :: vc :: cs) := Reps.front hp rfl h rfl
theorem Reps.c9 {α : Type} {R : α → List Value → Prop} {ps : List α} {cs : List Value} {p : α} {va vb vc vd ve vf vg vh vi : Value} (hp : R p [va, vb, vc, vd, ve, vf, vg, vh, vi]) (h : Reps R 9 ps cs) : Reps R 9 (p :: ps) (va :: vb :: vc :: vd :: ve :: vf :: vg :: vh :: vi :: cs) := Reps.front hp rfl h rfl
end Go.Proofs.YtbicfbnempiocaaGreatW.PrintWords
end
section
namespace Go.Proofs.YtbicfbnempiocaaGreatW.PrintWords
open Go.RowKit
section
variable {P : Program} {ops : Array Oper} {rest : List Oper} {o : Oper} {a : Act} {Q : Exit → Act → World → Prop} {W : World}
theorem gate_guard (hw : Region.wanted o (yielded ops a.tmps) = true) (h : wpList P ops Q ({ o with guard := none } :: rest) a W) : wpList P ops Q (o :: rest) a W := by
 have h1 : Region.wanted { o with guard := none } (yielded ops a.tmps) = true := rfl
 unfold wpList at h ⊢
 rw [if_pos h1] at h
 rw [if_pos hw]
 exact h
end
end Go.Proofs.YtbicfbnempiocaaGreatW.PrintWords
end
section
namespace Go.Proofs.YtbicfbnempiocaaGreatW.PrintMore
open Go.RowKit Go.Proofs.YtbicfbnempiocaaGreatW.PrintWords
namespace Kd
open Go.Proofs.YtbicfbnempiocaaGreatW.PrintWords.Kd
end Kd
namespace Kd
open Go.Proofs.YtbicfbnempiocaaGreatW.PrintWords.Kd
end Kd
theorem max2_int (k k' : IntKind) (x y : Int) : Builtin.max2 (.int k x) (.int k' y) = pure (.int k (if x < y then y else x)) := by simp only [Builtin.max2, gt_iff_lt]
theorem min2_int (k k' : IntKind) (x y : Int) : Builtin.min2 (.int k x) (.int k' y) = pure (.int k (if y < x then y else x)) := by simp only [Builtin.min2]
theorem max_two (ats : Array TypeId) (ty : TypeId) (a b : Value) : Builtin.max_ ats ty #[a, b] = (Builtin.max2 a b >>= fun s => pure s) := by simp only [Builtin.max_, List.foldlM_cons, List.foldlM_nil]
theorem min_two (ats : Array TypeId) (ty : TypeId) (a b : Value) : Builtin.min_ ats ty #[a, b] = (Builtin.min2 a b >>= fun s => pure s) := by simp only [Builtin.min_, List.foldlM_cons, List.foldlM_nil]
theorem max_three (ats : Array TypeId) (ty : TypeId) (a b c : Value) : Builtin.max_ ats ty #[a, b, c] = (Builtin.max2 a b >>= fun s => Builtin.max2 s c >>= fun s => pure s) := by simp only [Builtin.max_, List.foldlM_cons, List.foldlM_nil]
theorem min_three (ats : Array TypeId) (ty : TypeId) (a b c : Value) : Builtin.min_ ats ty #[a, b, c] = (Builtin.min2 a b >>= fun s => Builtin.min2 s c >>= fun s => pure s) := by simp only [Builtin.min_, List.foldlM_cons, List.foldlM_nil]
theorem max_four (ats : Array TypeId) (ty : TypeId) (a b c d : Value) : Builtin.max_ ats ty #[a, b, c, d] = (Builtin.max2 a b >>= fun s => Builtin.max2 s c >>= fun s => Builtin.max2 s d >>= fun s => pure s) := by simp only [Builtin.max_, List.foldlM_cons, List.foldlM_nil]
theorem min_four (ats : Array TypeId) (ty : TypeId) (a b c d : Value) : Builtin.min_ ats ty #[a, b, c, d] = (Builtin.min2 a b >>= fun s => Builtin.min2 s c >>= fun s => Builtin.min2 s d >>= fun s => pure s) := by simp only [Builtin.min_, List.foldlM_cons, List.foldlM_nil]
end Go.Proofs.YtbicfbnempiocaaGreatW.PrintMore
namespace Go.Proofs.YtbicfbnempiocaaGreatW.PrintWords
open Go.RowKit
section
variable {P : Program} {ops : Array Oper} {rest : List Oper} {o : Oper} {a : Act} {Q : Exit → Act → World → Prop} {W : World}
theorem gC_ {f : FuncId} {as0 : Array Operand} {ts : Array TypeId} (_ho : o.op = .call { callee := .value (.func f), args := as0, argTypes := ts }) (h : wpList P ops Q (o :: rest) a W) : wpList P ops Q (o :: rest) a W := h
theorem gate_builtin {b : Builtin} {xs : Array Operand} {ts : Array TypeId} (_ho : o.op = .call { callee := .builtin b, args := xs, argTypes := ts }) (h : wpList P ops Q (o :: rest) a W) : wpList P ops Q (o :: rest) a W := h
end
def mx (a b : Int) : Int := if a < b then b else a
def mn (a b : Int) : Int := if b < a then b else a
namespace Kd
end Kd
end Go.Proofs.YtbicfbnempiocaaGreatW.PrintWords
namespace Go.Proofs.YtbicfbnempiocaaGreatW.PrintWords
open Go.RowKit
namespace Kd
end Kd
end Go.Proofs.YtbicfbnempiocaaGreatW.PrintWords
end
namespace Go.Proofs.YtbicfbnempiocaaGreat.G
open Go.RowKit Go.Proofs.YtbicfbnempiocaaGreatW.PrintWords Go.Proofs.YtbicfbnempiocaaGreatW.PrintLast Go.Proofs.YtbicfbnempiocaaGreatW.PrintMore
section
attribute [local go_sem] max2_int min2_int max_two min_two max_three min_three max_four min_four
theorem info3 : (Tryz.prog.info? 3).map (fun i => (i.zero, i.size, i.bytes)) = some (some (.int .i64 0), 1, 8) := by kernel_rfl
theorem info24 : (Tryz.prog.info? 24).map (fun i => (i.zero, i.size, i.bytes)) = some (some (.agg #[(.int .i64 0), (.int .i64 0)]), 2, 16) := by kernel_rfl
theorem info26 : (Tryz.prog.info? 26).map (fun i => (i.zero, i.size, i.bytes)) = some (some (.agg #[(.int .i64 0), (.int .i64 0), (.int .i64 0), (.string ⟨#[]⟩), (.int .i64 0), (.int .i64 0), (.int .i64 0), (.int .i64 0), (.int .i64 0)]), 9, 80) := by kernel_rfl
theorem info39 : (Tryz.prog.info? 39).map (fun i => (i.zero, i.size, i.bytes)) = some (some (.agg #[(.int .i64 0), (.int .i64 0), (.int .i64 0), (.int .i64 0), (.int .i64 0), (.int .i64 0), (.int .i64 0), (.int .i64 0), (.int .i64 0)]), 9, 72) := by kernel_rfl
theorem info69 : (Tryz.prog.info? 69).map (fun i => (i.zero, i.size, i.bytes)) = some (some (.agg #[(.int .i64 0), (.int .i64 0)]), 2, 16) := by kernel_rfl
structure S24 where
 f0 : Int
 f1 : Int
def z24 : S24 := ⟨(0 : Int), (0 : Int)⟩
def k24 : Kd S24 := Kd.iso (Kd.pair (Kd.int .i64) (Kd.int .i64)) (fun x : S24 => (x.f0, x.f1))
theorem k24_open {w : World} {x : S24} {cs : List Value} (h : k24.K w x cs) : cs = [.int .i64 x.f0, .int .i64 x.f1] := by
 obtain ⟨_, _, rfl, rfl, rfl⟩ := h
 exact rfl
theorem k24_mk (w : World) (x : S24)  : k24.K w x [.int .i64 x.f0, .int .i64 x.f1] := ⟨[.int .i64 x.f0], [.int .i64 x.f1], rfl, rfl, rfl⟩
theorem k24_mkM (w : World) (base : Nat) (ok : Nat → Prop) (x : S24)  : k24.M w base ok x [.int .i64 x.f0, .int .i64 x.f1] := ⟨[.int .i64 x.f0], [.int .i64 x.f1], rfl, rfl, rfl⟩
def rd_T24 (xs : List S24) (i : Int) : S24 := xs.getD i.toNat z24
theorem at_T24 {w : World} {A : Option Addr} {n : Nat} {xs : List S24} (h : Kd.C k24 w A n xs) (i : Int) (h0 : 0 ≤ i) (h1 : i < n) : ∃ ad , A = some ad ∧ w.cell? (ad.add (i.toNat * 2)) = some (.int .i64 (rd_T24 xs i).f0) ∧ w.cell? ⟨(ad.add (i.toNat * 2)).block, (ad.add (i.toNat * 2)).off + 1, none⟩ = some (.int .i64 (rd_T24 xs i).f1) := by
 obtain ⟨ad, c, e, _, hK, hc0⟩ := Kd.C_get h z24 i h0 h1
 have hc : ∀ j u, c[j]? = some u → w.cell? (ad.add (i.toNat * 2 + j)) = some u := hc0
 obtain rfl := k24_open hK
 exact ⟨ad, e, hc 0 _ rfl, by rw [← add_field _ _ 1 (by omega)]; exact hc 1 _ rfl⟩
structure S26 where
 f0 : Int
 f1 : Int
 f2 : Int
 f3 : ByteArray
 f4 : S24
 f5 : Int
 f6 : Int
 f7 : Int
def z26 : S26 := ⟨(0 : Int), (0 : Int), (0 : Int), (⟨#[]⟩ : ByteArray), z24, (0 : Int), (0 : Int), (0 : Int)⟩
def k26 : Kd S26 := Kd.iso (Kd.pair (Kd.int .i64) (Kd.pair (Kd.int .i64) (Kd.pair (Kd.int .i64) (Kd.pair Kd.string (Kd.pair k24 (Kd.pair (Kd.int .i64) (Kd.pair (Kd.int .i64) (Kd.int .i64)))))))) (fun x : S26 => (x.f0, x.f1, x.f2, x.f3, x.f4, x.f5, x.f6, x.f7))
theorem k26_open {w : World} {x : S26} {cs : List Value} (h : k26.K w x cs) : cs = [.int .i64 x.f0, .int .i64 x.f1, .int .i64 x.f2, .string x.f3, .int .i64 x.f4.f0, .int .i64 x.f4.f1, .int .i64 x.f5, .int .i64 x.f6, .int .i64 x.f7] := by
 obtain ⟨_, _, rfl, rfl, ⟨_, _, rfl, rfl, ⟨_, _, rfl, rfl, ⟨_, _, rfl, rfl, ⟨_, _, rfl, s4, ⟨_, _, rfl, rfl, ⟨_, _, rfl, rfl, rfl⟩⟩⟩⟩⟩⟩⟩ := h
 obtain rfl := k24_open s4
 exact rfl
theorem k26_mk (w : World) (x : S26)  : k26.K w x [.int .i64 x.f0, .int .i64 x.f1, .int .i64 x.f2, .string x.f3, .int .i64 x.f4.f0, .int .i64 x.f4.f1, .int .i64 x.f5, .int .i64 x.f6, .int .i64 x.f7] := ⟨[.int .i64 x.f0], [.int .i64 x.f1, .int .i64 x.f2, .string x.f3, .int .i64 x.f4.f0, .int .i64 x.f4.f1, .int .i64 x.f5, .int .i64 x.f6, .int .i64 x.f7], rfl, rfl, ⟨[.int .i64 x.f1], [.int .i64 x.f2, .string x.f3, .int .i64 x.f4.f0, .int .i64 x.f4.f1, .int .i64 x.f5, .int .i64 x.f6, .int .i64 x.f7], rfl, rfl, ⟨[.int .i64 x.f2], [.string x.f3, .int .i64 x.f4.f0, .int .i64 x.f4.f1, .int .i64 x.f5, .int .i64 x.f6, .int .i64 x.f7], rfl, rfl, ⟨[.string x.f3], [.int .i64 x.f4.f0, .int .i64 x.f4.f1, .int .i64 x.f5, .int .i64 x.f6, .int .i64 x.f7], rfl, rfl, ⟨[.int .i64 x.f4.f0, .int .i64 x.f4.f1], [.int .i64 x.f5, .int .i64 x.f6, .int .i64 x.f7], rfl, (k24_mk w x.f4 ), ⟨[.int .i64 x.f5], [.int .i64 x.f6, .int .i64 x.f7], rfl, rfl, ⟨[.int .i64 x.f6], [.int .i64 x.f7], rfl, rfl, rfl⟩⟩⟩⟩⟩⟩⟩
theorem k26_mkM (w : World) (base : Nat) (ok : Nat → Prop) (x : S26)  : k26.M w base ok x [.int .i64 x.f0, .int .i64 x.f1, .int .i64 x.f2, .string x.f3, .int .i64 x.f4.f0, .int .i64 x.f4.f1, .int .i64 x.f5, .int .i64 x.f6, .int .i64 x.f7] := ⟨[.int .i64 x.f0], [.int .i64 x.f1, .int .i64 x.f2, .string x.f3, .int .i64 x.f4.f0, .int .i64 x.f4.f1, .int .i64 x.f5, .int .i64 x.f6, .int .i64 x.f7], rfl, rfl, ⟨[.int .i64 x.f1], [.int .i64 x.f2, .string x.f3, .int .i64 x.f4.f0, .int .i64 x.f4.f1, .int .i64 x.f5, .int .i64 x.f6, .int .i64 x.f7], rfl, rfl, ⟨[.int .i64 x.f2], [.string x.f3, .int .i64 x.f4.f0, .int .i64 x.f4.f1, .int .i64 x.f5, .int .i64 x.f6, .int .i64 x.f7], rfl, rfl, ⟨[.string x.f3], [.int .i64 x.f4.f0, .int .i64 x.f4.f1, .int .i64 x.f5, .int .i64 x.f6, .int .i64 x.f7], rfl, rfl, ⟨[.int .i64 x.f4.f0, .int .i64 x.f4.f1], [.int .i64 x.f5, .int .i64 x.f6, .int .i64 x.f7], rfl, (k24_mkM w base ok x.f4 ), ⟨[.int .i64 x.f5], [.int .i64 x.f6, .int .i64 x.f7], rfl, rfl, ⟨[.int .i64 x.f6], [.int .i64 x.f7], rfl, rfl, rfl⟩⟩⟩⟩⟩⟩⟩
def rd_T26 (xs : List S26) (i : Int) : S26 := xs.getD i.toNat z26
theorem at_T26 {w : World} {A : Option Addr} {n : Nat} {xs : List S26} (h : Kd.C k26 w A n xs) (i : Int) (h0 : 0 ≤ i) (h1 : i < n) : ∃ ad , A = some ad ∧ w.cell? (ad.add (i.toNat * 9)) = some (.int .i64 (rd_T26 xs i).f0) ∧ w.cell? ⟨(ad.add (i.toNat * 9)).block, (ad.add (i.toNat * 9)).off + 1, none⟩ = some (.int .i64 (rd_T26 xs i).f1) ∧ w.cell? ⟨(ad.add (i.toNat * 9)).block, (ad.add (i.toNat * 9)).off + 2, none⟩ = some (.int .i64 (rd_T26 xs i).f2) ∧ w.cell? ⟨(ad.add (i.toNat * 9)).block, (ad.add (i.toNat * 9)).off + 3, none⟩ = some (.string (rd_T26 xs i).f3) ∧ w.cell? ⟨(ad.add (i.toNat * 9)).block, (ad.add (i.toNat * 9)).off + 4, none⟩ = some (.int .i64 (rd_T26 xs i).f4.f0) ∧ w.cell? ⟨(ad.add (i.toNat * 9)).block, (ad.add (i.toNat * 9)).off + 5, none⟩ = some (.int .i64 (rd_T26 xs i).f4.f1) ∧ w.cell? ⟨(ad.add (i.toNat * 9)).block, (ad.add (i.toNat * 9)).off + 6, none⟩ = some (.int .i64 (rd_T26 xs i).f5) ∧ w.cell? ⟨(ad.add (i.toNat * 9)).block, (ad.add (i.toNat * 9)).off + 7, none⟩ = some (.int .i64 (rd_T26 xs i).f6) ∧ w.cell? ⟨(ad.add (i.toNat * 9)).block, (ad.add (i.toNat * 9)).off + 8, none⟩ = some (.int .i64 (rd_T26 xs i).f7) := by
 obtain ⟨ad, c, e, _, hK, hc0⟩ := Kd.C_get h z26 i h0 h1
 have hc : ∀ j u, c[j]? = some u → w.cell? (ad.add (i.toNat * 9 + j)) = some u := hc0
 obtain rfl := k26_open hK
 exact ⟨ad, e, hc 0 _ rfl, by rw [← add_field _ _ 1 (by omega)]; exact hc 1 _ rfl, by rw [← add_field _ _ 2 (by omega)]; exact hc 2 _ rfl, by rw [← add_field _ _ 3 (by omega)]; exact hc 3 _ rfl, by rw [← add_field _ _ 4 (by omega)]; exact hc 4 _ rfl, by rw [← add_field _ _ 5 (by omega)]; exact hc 5 _ rfl, by rw [← add_field _ _ 6 (by omega)]; exact hc 6 _ rfl, by rw [← add_field _ _ 7 (by omega)]; exact hc 7 _ rfl, by rw [← add_field _ _ 8 (by omega)]; exact hc 8 _ rfl⟩
structure S71 where
 f0 : Int
 f1 : S24
def z71 : S71 := ⟨(0 : Int), z24⟩
def k71 : Kd S71 := Kd.iso (Kd.pair (Kd.int .i64) k24) (fun x : S71 => (x.f0, x.f1))
theorem k71_open {w : World} {x : S71} {cs : List Value} (h : k71.K w x cs) : cs = [.int .i64 x.f0, .int .i64 x.f1.f0, .int .i64 x.f1.f1] := by
 obtain ⟨_, _, rfl, rfl, s1⟩ := h
 obtain rfl := k24_open s1
 exact rfl
theorem k71_mkM (w : World) (base : Nat) (ok : Nat → Prop) (x : S71)  : k71.M w base ok x [.int .i64 x.f0, .int .i64 x.f1.f0, .int .i64 x.f1.f1] := ⟨[.int .i64 x.f0], [.int .i64 x.f1.f0, .int .i64 x.f1.f1], rfl, rfl, (k24_mkM w base ok x.f1 )⟩
def rd_T71 (xs : List S71) (i : Int) : S71 := xs.getD i.toNat z71
theorem at_T71 {w : World} {A : Option Addr} {n : Nat} {xs : List S71} (h : Kd.C k71 w A n xs) (i : Int) (h0 : 0 ≤ i) (h1 : i < n) : ∃ ad , A = some ad ∧ w.cell? (ad.add (i.toNat * 3)) = some (.int .i64 (rd_T71 xs i).f0) ∧ w.cell? ⟨(ad.add (i.toNat * 3)).block, (ad.add (i.toNat * 3)).off + 1, none⟩ = some (.int .i64 (rd_T71 xs i).f1.f0) ∧ w.cell? ⟨(ad.add (i.toNat * 3)).block, (ad.add (i.toNat * 3)).off + 2, none⟩ = some (.int .i64 (rd_T71 xs i).f1.f1) := by
 obtain ⟨ad, c, e, _, hK, hc0⟩ := Kd.C_get h z71 i h0 h1
 have hc : ∀ j u, c[j]? = some u → w.cell? (ad.add (i.toNat * 3 + j)) = some u := hc0
 obtain rfl := k71_open hK
 exact ⟨ad, e, hc 0 _ rfl, by rw [← add_field _ _ 1 (by omega)]; exact hc 1 _ rfl, by rw [← add_field _ _ 2 (by omega)]; exact hc 2 _ rfl⟩
structure S69 where
 f0 : Int
 f1 : Int
def z69 : S69 := ⟨(0 : Int), (0 : Int)⟩
def k69 : Kd S69 := Kd.iso (Kd.pair (Kd.int .i64) (Kd.int .i64)) (fun x : S69 => (x.f0, x.f1))
theorem k69_open {w : World} {x : S69} {cs : List Value} (h : k69.K w x cs) : cs = [.int .i64 x.f0, .int .i64 x.f1] := by
 obtain ⟨_, _, rfl, rfl, rfl⟩ := h
 exact rfl
theorem k69_mk (w : World) (x : S69)  : k69.K w x [.int .i64 x.f0, .int .i64 x.f1] := ⟨[.int .i64 x.f0], [.int .i64 x.f1], rfl, rfl, rfl⟩
theorem k69_mkM (w : World) (base : Nat) (ok : Nat → Prop) (x : S69)  : k69.M w base ok x [.int .i64 x.f0, .int .i64 x.f1] := ⟨[.int .i64 x.f0], [.int .i64 x.f1], rfl, rfl, rfl⟩
def rd_T69 (xs : List S69) (i : Int) : S69 := xs.getD i.toNat z69
theorem at_T69 {w : World} {A : Option Addr} {n : Nat} {xs : List S69} (h : Kd.C k69 w A n xs) (i : Int) (h0 : 0 ≤ i) (h1 : i < n) : ∃ ad , A = some ad ∧ w.cell? (ad.add (i.toNat * 2)) = some (.int .i64 (rd_T69 xs i).f0) ∧ w.cell? ⟨(ad.add (i.toNat * 2)).block, (ad.add (i.toNat * 2)).off + 1, none⟩ = some (.int .i64 (rd_T69 xs i).f1) := by
 obtain ⟨ad, c, e, _, hK, hc0⟩ := Kd.C_get h z69 i h0 h1
 have hc : ∀ j u, c[j]? = some u → w.cell? (ad.add (i.toNat * 2 + j)) = some u := hc0
 obtain rfl := k69_open hK
 exact ⟨ad, e, hc 0 _ rfl, by rw [← add_field _ _ 1 (by omega)]; exact hc 1 _ rfl⟩
structure S39 where
 f0 : Int
 f1 : Int
 f2 : Int
 f3 : Int
 f4 : Int
 f5 : Int
 f6 : Int
 f7 : Int
 f8 : Int
def z39 : S39 := ⟨(0 : Int), (0 : Int), (0 : Int), (0 : Int), (0 : Int), (0 : Int), (0 : Int), (0 : Int), (0 : Int)⟩
def k39 : Kd S39 := Kd.iso (Kd.pair (Kd.int .i64) (Kd.pair (Kd.int .i64) (Kd.pair (Kd.int .i64) (Kd.pair (Kd.int .i64) (Kd.pair (Kd.int .i64) (Kd.pair (Kd.int .i64) (Kd.pair (Kd.int .i64) (Kd.pair (Kd.int .i64) (Kd.int .i64))))))))) (fun x : S39 => (x.f0, x.f1, x.f2, x.f3, x.f4, x.f5, x.f6, x.f7, x.f8))
theorem k39_open {w : World} {x : S39} {cs : List Value} (h : k39.K w x cs) : cs = [.int .i64 x.f0, .int .i64 x.f1, .int .i64 x.f2, .int .i64 x.f3, .int .i64 x.f4, .int .i64 x.f5, .int .i64 x.f6, .int .i64 x.f7, .int .i64 x.f8] := by
 obtain ⟨_, _, rfl, rfl, ⟨_, _, rfl, rfl, ⟨_, _, rfl, rfl, ⟨_, _, rfl, rfl, ⟨_, _, rfl, rfl, ⟨_, _, rfl, rfl, ⟨_, _, rfl, rfl, ⟨_, _, rfl, rfl, rfl⟩⟩⟩⟩⟩⟩⟩⟩ := h
 exact rfl
theorem k39_mk (w : World) (x : S39)  : k39.K w x [.int .i64 x.f0, .int .i64 x.f1, .int .i64 x.f2, .int .i64 x.f3, .int .i64 x.f4, .int .i64 x.f5, .int .i64 x.f6, .int .i64 x.f7, .int .i64 x.f8] := ⟨[.int .i64 x.f0], [.int .i64 x.f1, .int .i64 x.f2, .int .i64 x.f3, .int .i64 x.f4, .int .i64 x.f5, .int .i64 x.f6, .int .i64 x.f7, .int .i64 x.f8], rfl, rfl, ⟨[.int .i64 x.f1], [.int .i64 x.f2, .int .i64 x.f3, .int .i64 x.f4, .int .i64 x.f5, .int .i64 x.f6, .int .i64 x.f7, .int .i64 x.f8], rfl, rfl, ⟨[.int .i64 x.f2], [.int .i64 x.f3, .int .i64 x.f4, .int .i64 x.f5, .int .i64 x.f6, .int .i64 x.f7, .int .i64 x.f8], rfl, rfl, ⟨[.int .i64 x.f3], [.int .i64 x.f4, .int .i64 x.f5, .int .i64 x.f6, .int .i64 x.f7, .int .i64 x.f8], rfl, rfl, ⟨[.int .i64 x.f4], [.int .i64 x.f5, .int .i64 x.f6, .int .i64 x.f7, .int .i64 x.f8], rfl, rfl, ⟨[.int .i64 x.f5], [.int .i64 x.f6, .int .i64 x.f7, .int .i64 x.f8], rfl, rfl, ⟨[.int .i64 x.f6], [.int .i64 x.f7, .int .i64 x.f8], rfl, rfl, ⟨[.int .i64 x.f7], [.int .i64 x.f8], rfl, rfl, rfl⟩⟩⟩⟩⟩⟩⟩⟩
theorem k39_mkM (w : World) (base : Nat) (ok : Nat → Prop) (x : S39)  : k39.M w base ok x [.int .i64 x.f0, .int .i64 x.f1, .int .i64 x.f2, .int .i64 x.f3, .int .i64 x.f4, .int .i64 x.f5, .int .i64 x.f6, .int .i64 x.f7, .int .i64 x.f8] := ⟨[.int .i64 x.f0], [.int .i64 x.f1, .int .i64 x.f2, .int .i64 x.f3, .int .i64 x.f4, .int .i64 x.f5, .int .i64 x.f6, .int .i64 x.f7, .int .i64 x.f8], rfl, rfl, ⟨[.int .i64 x.f1], [.int .i64 x.f2, .int .i64 x.f3, .int .i64 x.f4, .int .i64 x.f5, .int .i64 x.f6, .int .i64 x.f7, .int .i64 x.f8], rfl, rfl, ⟨[.int .i64 x.f2], [.int .i64 x.f3, .int .i64 x.f4, .int .i64 x.f5, .int .i64 x.f6, .int .i64 x.f7, .int .i64 x.f8], rfl, rfl, ⟨[.int .i64 x.f3], [.int .i64 x.f4, .int .i64 x.f5, .int .i64 x.f6, .int .i64 x.f7, .int .i64 x.f8], rfl, rfl, ⟨[.int .i64 x.f4], [.int .i64 x.f5, .int .i64 x.f6, .int .i64 x.f7, .int .i64 x.f8], rfl, rfl, ⟨[.int .i64 x.f5], [.int .i64 x.f6, .int .i64 x.f7, .int .i64 x.f8], rfl, rfl, ⟨[.int .i64 x.f6], [.int .i64 x.f7, .int .i64 x.f8], rfl, rfl, ⟨[.int .i64 x.f7], [.int .i64 x.f8], rfl, rfl, rfl⟩⟩⟩⟩⟩⟩⟩⟩
def rd_T39 (xs : List S39) (i : Int) : S39 := xs.getD i.toNat z39
theorem at_T39 {w : World} {A : Option Addr} {n : Nat} {xs : List S39} (h : Kd.C k39 w A n xs) (i : Int) (h0 : 0 ≤ i) (h1 : i < n) : ∃ ad , A = some ad ∧ w.cell? (ad.add (i.toNat * 9)) = some (.int .i64 (rd_T39 xs i).f0) ∧ w.cell? ⟨(ad.add (i.toNat * 9)).block, (ad.add (i.toNat * 9)).off + 1, none⟩ = some (.int .i64 (rd_T39 xs i).f1) ∧ w.cell? ⟨(ad.add (i.toNat * 9)).block, (ad.add (i.toNat * 9)).off + 2, none⟩ = some (.int .i64 (rd_T39 xs i).f2) ∧ w.cell? ⟨(ad.add (i.toNat * 9)).block, (ad.add (i.toNat * 9)).off + 3, none⟩ = some (.int .i64 (rd_T39 xs i).f3) ∧ w.cell? ⟨(ad.add (i.toNat * 9)).block, (ad.add (i.toNat * 9)).off + 4, none⟩ = some (.int .i64 (rd_T39 xs i).f4) ∧ w.cell? ⟨(ad.add (i.toNat * 9)).block, (ad.add (i.toNat * 9)).off + 5, none⟩ = some (.int .i64 (rd_T39 xs i).f5) ∧ w.cell? ⟨(ad.add (i.toNat * 9)).block, (ad.add (i.toNat * 9)).off + 6, none⟩ = some (.int .i64 (rd_T39 xs i).f6) ∧ w.cell? ⟨(ad.add (i.toNat * 9)).block, (ad.add (i.toNat * 9)).off + 7, none⟩ = some (.int .i64 (rd_T39 xs i).f7) ∧ w.cell? ⟨(ad.add (i.toNat * 9)).block, (ad.add (i.toNat * 9)).off + 8, none⟩ = some (.int .i64 (rd_T39 xs i).f8) := by
 obtain ⟨ad, c, e, _, hK, hc0⟩ := Kd.C_get h z39 i h0 h1
 have hc : ∀ j u, c[j]? = some u → w.cell? (ad.add (i.toNat * 9 + j)) = some u := hc0
 obtain rfl := k39_open hK
 exact ⟨ad, e, hc 0 _ rfl, by rw [← add_field _ _ 1 (by omega)]; exact hc 1 _ rfl, by rw [← add_field _ _ 2 (by omega)]; exact hc 2 _ rfl, by rw [← add_field _ _ 3 (by omega)]; exact hc 3 _ rfl, by rw [← add_field _ _ 4 (by omega)]; exact hc 4 _ rfl, by rw [← add_field _ _ 5 (by omega)]; exact hc 5 _ rfl, by rw [← add_field _ _ 6 (by omega)]; exact hc 6 _ rfl, by rw [← add_field _ _ 7 (by omega)]; exact hc 7 _ rfl, by rw [← add_field _ _ 8 (by omega)]; exact hc 8 _ rfl⟩
end
section
open Go.Shelf
def idxOf {α : Type} (p : α → Bool) : List α → Int
 | [] => -1
 | x :: l => if p x then 0 else if idxOf p l < 0 then -1 else idxOf p l + 1
def shifted (k : Nat) (n : Int) : Int := if n < 0 then -1 else n + k
theorem idxOf_ge {α : Type} (p : α → Bool) (l : List α) : -1 ≤ idxOf p l := by
 induction l with
 | nil => simp [idxOf]
 | cons x l ih => unfold idxOf; repeat' split <;> omega
theorem idxOf_yes {α : Type} {p : α → Bool} {x : α} {l : List α} (h : p x = true) : idxOf p (x :: l) = 0 := by simp [idxOf, h]
theorem idxOf_no {α : Type} {p : α → Bool} {x : α} {l : List α} (h : p x = false) : idxOf p (x :: l) = shifted 1 (idxOf p l) := by simp [idxOf, h, shifted]
theorem shifted_shifted (k j : Nat) (n : Int) : shifted k (shifted j n) = shifted (k + j) n := by
 unfold shifted
 by_cases h : n < 0
 ·simp [h]
 ·rw [if_neg h, if_neg h, if_neg (by omega)]; omega
theorem idxOf_any {α : Type} (p : α → Bool) (l : List α) : decide (0 ≤ idxOf p l) = l.any p := by
 induction l with
 | nil => simp [idxOf]
 | cons x l ih =>
  have := idxOf_ge p l
  rw [List.any_cons, ← ih]
  show decide (0 ≤ (if p x then (0 : Int) else if idxOf p l < 0 then -1 else idxOf p l + 1)) = _
  by_cases h : p x = true
  ·simp [h]
  ·have h' : p x = false := by simpa using h
   rw [h', if_neg (by simp), Bool.false_or]
   split <;> simp <;> omega
theorem shifted_start {α : Type} (p : α → Bool) (l : List α) : idxOf p l = shifted 0 (idxOf p (l.drop 0)) := by
 have := idxOf_ge p l
 rw [List.drop_zero]
 unfold shifted
 split <;> omega
theorem getD_drop {α : Type} (d : α) (l : List α) (k : Nat) (h : k < l.length) : l.getD ((k : Int).toNat) d ∈ l ∧ l.drop k = l.getD ((k : Int).toNat) d :: l.drop (k + 1) := by
 have e : l.getD ((k : Int).toNat) d = l[k] := by
  rw [Int.toNat_natCast, List.getD_eq_getElem?_getD, List.getElem?_eq_getElem h]; rfl
 rw [e]
 exact ⟨List.getElem_mem h, List.drop_eq_getElem_cons h⟩
theorem take_snoc_drop {α : Type} {l r : List α} {X : α} {k : Nat} (h : l.drop k = X :: r) : l.take (k + 1) = l.take k ++ [X] := by
 have e : l[k]? = some X := by
  have := congrArg (fun z => z[0]?) h
  simpa using this
 rw [List.take_add_one, e]; rfl
theorem rd_drop (l : List Int) (k : Nat) (h : k < l.length) : rd l (k : Int) ∈ l ∧ l.drop k = rd l (k : Int) :: l.drop (k + 1) := getD_drop 0 l k h
theorem rdT24_drop (l : List S24) (k : Nat) (h : k < l.length) : rd_T24 l (k : Int) ∈ l ∧ l.drop k = rd_T24 l (k : Int) :: l.drop (k + 1) := getD_drop z24 l k h
theorem rdT26_drop (l : List S26) (k : Nat) (h : k < l.length) : rd_T26 l (k : Int) ∈ l ∧ l.drop k = rd_T26 l (k : Int) :: l.drop (k + 1) := getD_drop z26 l k h
theorem rdT39_drop (l : List S39) (k : Nat) (h : k < l.length) : rd_T39 l (k : Int) ∈ l ∧ l.drop k = rd_T39 l (k : Int) :: l.drop (k + 1) := getD_drop z39 l k h
theorem rdT69_drop (l : List S69) (k : Nat) (h : k < l.length) : rd_T69 l (k : Int) ∈ l ∧ l.drop k = rd_T69 l (k : Int) :: l.drop (k + 1) := getD_drop z69 l k h
theorem at_int {k : IntKind} {w : World} {A : Option Addr} {n : Nat} {xs : List Int} (h : Kd.C (Kd.int k) w A n xs) (i : Int) (h0 : 0 ≤ i) (h1 : i < n) : ∃ ad, A = some ad ∧ w.cell? (ad.add i.toNat) = some (.int k (rd xs i)) := by
 obtain ⟨ad, c, e, _, hK, hc⟩ := Kd.C_get h 0 i h0 h1
 obtain rfl : c = [.int k (xs.getD i.toNat 0)] := hK
 refine ⟨ad, e, ?_⟩
 have hq := hc 0 _ rfl
 have hs : (Kd.int k).sz = 1 := rfl
 rwa [hs, Nat.mul_one, Nat.add_zero] at hq
end
section
open Go.Shelf
def inB (n a b : Int) : Bool := decide (a ≤ n) && decide (n ≤ b)
theorem inB_iff {n a b : Int} : inB n a b = true ↔ a ≤ n ∧ n ≤ b := by simp [inB]
theorem inB_not {n a b : Int} : inB n a b = false ↔ n < a ∨ b < n := by
 rw [← Bool.not_eq_true, inB_iff]; omega
theorem in_any (n a b : Int) (w : World) : Calls Tryz.prog 66 #[.int .i64 n, .int .i64 a, .int .i64 b] w fun e w' => e = .returned (.bool (inB n a b)) ∧ w = w' := by
 by_cases h : a ≤ n
 ·by_cases k : n ≤ b
  ·have e : inB n a b = true := inB_iff.2 ⟨h, k⟩
   rw [e]; clear e
   go_enter Tryz.func66, Tryz.ntmps66
   go_wp2
   go_ret
   exact ⟨by simp [k], rfl⟩
  ·have e : inB n a b = false := inB_not.2 (by omega)
   rw [e]; clear e
   go_enter Tryz.func66, Tryz.ntmps66
   go_wp2
   go_ret
   exact ⟨by simp, rfl⟩
 ·have e : inB n a b = false := inB_not.2 (by omega)
  rw [e]; clear e
  go_enter Tryz.func66, Tryz.ntmps66
  go_wp2
  go_ret
  exact ⟨rfl, rfl⟩
theorem within_any (n a b : Int) (w : World) : Calls Tryz.prog 102 #[.int .i64 n, .int .i64 a, .int .i64 b] w fun e w' => e = .returned (.bool (inB n a b)) ∧ w = w' := by
 by_cases h : a ≤ n
 ·by_cases k : n ≤ b
  ·have e : inB n a b = true := inB_iff.2 ⟨h, k⟩
   rw [e]; clear e
   go_enter Tryz.func102, Tryz.ntmps102
   go_wp2
   go_ret
   exact ⟨by simp [k], rfl⟩
  ·have e : inB n a b = false := inB_not.2 (by omega)
   rw [e]; clear e
   go_enter Tryz.func102, Tryz.ntmps102
   go_wp2
   go_ret
   exact ⟨by simp, rfl⟩
 ·have e : inB n a b = false := inB_not.2 (by omega)
  rw [e]; clear e
  go_enter Tryz.func102, Tryz.ntmps102
  go_wp2
  go_ret
  exact ⟨rfl, rfl⟩
end
end Go.Proofs.YtbicfbnempiocaaGreat.G
section
namespace Go.Proofs.YtbicfbnempiocaaGreatW.PrintLast
open Go Go.RowKit
section
variable {P : Program} {ops : Array Oper} {Q : Exit → Act → World → Prop} {md : Region.Mode} {S : World → Prop} {ds : List Nat}
theorem pI (i N : Nat) {oi : Oper} {v : Value} {fuel : Nat} {l : Array Bool} {a a' : Act} {w : World} (h : wpAnyLast P md ops Q S ds fuel (l.setIfInBounds i true) a' w)
  (hi : ops[i]? = some oi := by rfl) (hN : oi.dst = some N := by rfl) (hc : anyB md ops l (l.setIfInBounds i true) i = true := by kernel_rfl)
  (hQ : ∀ c a w, Q (.panic c) (a.put oi.dst v) w → Q (.panic c) a w := by exact fun _ _ _ h => h)
  (hw : Region.wanted oi (yielded ops a.tmps) = true := by rfl) (hv : ∀ w, (execOp a.eval oi).run P w = .ok (.value v) w := by intro w'; go_simp; with_reducible rfl)
  (ha : a.put (some N) v = a' := by simp only [Act.put, List.setIfInBounds_toArray, List.set_cons_zero, List.set_cons_succ, i64_w, i32_w]; rfl) : wpAnyLast P md ops Q S ds (fuel + 1) l a w :=
 pure_ _ hi hN hc hQ (Or.inl ⟨hw, hv⟩) ha h
theorem pO (i N : Nat) {oi : Oper} {fuel : Nat} {l : Array Bool} {a a' : Act} {w : World} (h : wpAnyLast P md ops Q S ds fuel (l.setIfInBounds i true) a' w)
  (hi : ops[i]? = some oi := by rfl) (hN : oi.dst = some N := by rfl) (hc : anyB md ops l (l.setIfInBounds i true) i = true := by kernel_rfl)
  (hQ : ∀ c a w, Q (.panic c) (a.put oi.dst undef) w → Q (.panic c) a w := by exact fun _ _ _ h => h)
  (hw : Region.wanted oi (yielded ops a.tmps) = false := by rfl)
  (ha : a.put (some N) undef = a' := by simp only [Act.put, List.setIfInBounds_toArray, List.set_cons_zero, List.set_cons_succ, i64_w, i32_w]; rfl) : wpAnyLast P md ops Q S ds (fuel + 1) l a w :=
 pure_ _ hi hN hc hQ (Or.inr ⟨hw, rfl⟩) ha h
theorem tI (i N : Nat) {oi : Oper} {v : Value} {fuel : Nat} {l : Array Bool} {a a' : Act} {w : World} (hS : S w) (h : wpAnyLast P md ops Q S ds fuel (l.setIfInBounds i true) a' w)
  (hi : ops[i]? = some oi := by rfl) (hN : oi.dst = some N := by rfl) (hc : takeB md ops ds l (l.setIfInBounds i true) i = true := by kernel_rfl)
  (hQ : ∀ c a w, Q (.panic c) (a.put oi.dst v) w → Q (.panic c) a w := by exact fun _ _ _ h => h)
  (hw : Region.wanted oi (yielded ops a.tmps) = true := by rfl) (hv : ∀ w, S w → (execOp a.eval oi).run P w = .ok (.value v) w := by intro w' hs_; repeat (have h1_ := hs_.1; replace hs_ := hs_.2); go_simp; with_reducible rfl)
  (ha : a.put (some N) v = a' := by simp only [Act.put, List.setIfInBounds_toArray, List.set_cons_zero, List.set_cons_succ, i64_w, i32_w]; rfl) : wpAnyLast P md ops Q S ds (fuel + 1) l a w :=
 take_ _ hi hN hc hQ (Or.inl ⟨hw, hv⟩) hS ha h
end
end Go.Proofs.YtbicfbnempiocaaGreatW.PrintLast
end
section
namespace Go.Proofs.YtbicfbnempiocaaGreatW.PrintLast
open Go Go.RowKit Go.Proofs.YtbicfbnempiocaaGreatW.PrintWords Go.Proofs.YtbicfbnempiocaaGreatW.PrintMore
theorem cz2 {W : World} {g : Nat} {t : TypeId} {v0 v1 : Value} (h : W.heap[g]? = some (.cells #[v0, v1] t (0, 0))) : W.cell? ⟨g, 0, none⟩ = some v0 ∧ W.cell? ⟨g, 1, none⟩ = some v1 := ⟨(bC_ h 0).trans rfl, (bC_ h 1).trans rfl⟩
theorem cf2 {W : World} {g : Nat} {t : TypeId} {v0 v1 : Value} (h : W.heap[g]? = some (.cells #[v0, v1] t (0, 0))) : W.cell? ⟨g, 0, none⟩ = some v0 ∧ W.cell? ⟨g, 1, none⟩ = some v1 ∧ W.frozen? ⟨g, 0, none⟩ = false ∧ W.frozen? ⟨g, 1, none⟩ = false := ⟨(bC_ h 0).trans rfl, (bC_ h 1).trans rfl, bR_ h 0, bR_ h 1⟩
theorem cz3 {W : World} {g : Nat} {t : TypeId} {v0 v1 v2 : Value} (h : W.heap[g]? = some (.cells #[v0, v1, v2] t (0, 0))) : W.cell? ⟨g, 0, none⟩ = some v0 ∧ W.cell? ⟨g, 1, none⟩ = some v1 ∧ W.cell? ⟨g, 2, none⟩ = some v2 := ⟨(bC_ h 0).trans rfl, (bC_ h 1).trans rfl, (bC_ h 2).trans rfl⟩
theorem cf3 {W : World} {g : Nat} {t : TypeId} {v0 v1 v2 : Value} (h : W.heap[g]? = some (.cells #[v0, v1, v2] t (0, 0))) : W.cell? ⟨g, 0, none⟩ = some v0 ∧ W.cell? ⟨g, 1, none⟩ = some v1 ∧ W.cell? ⟨g, 2, none⟩ = some v2 ∧ W.frozen? ⟨g, 0, none⟩ = false ∧ W.frozen? ⟨g, 1, none⟩ = false ∧ W.frozen? ⟨g, 2, none⟩ = false := ⟨(bC_ h 0).trans rfl, (bC_ h 1).trans rfl, (bC_ h 2).trans rfl, bR_ h 0, bR_ h 1, bR_ h 2⟩
theorem cf6 {W : World} {g : Nat} {t : TypeId} {v0 v1 v2 v3 v4 v5 : Value} (h : W.heap[g]? = some (.cells #[v0, v1, v2, v3, v4, v5] t (0, 0))) : W.cell? ⟨g, 0, none⟩ = some v0 ∧ W.cell? ⟨g, 1, none⟩ = some v1 ∧ W.cell? ⟨g, 2, none⟩ = some v2 ∧ W.cell? ⟨g, 3, none⟩ = some v3 ∧ W.cell? ⟨g, 4, none⟩ = some v4 ∧ W.cell? ⟨g, 5, none⟩ = some v5 ∧ W.frozen? ⟨g, 0, none⟩ = false ∧ W.frozen? ⟨g, 1, none⟩ = false ∧ W.frozen? ⟨g, 2, none⟩ = false ∧ W.frozen? ⟨g, 3, none⟩ = false ∧ W.frozen? ⟨g, 4, none⟩ = false ∧ W.frozen? ⟨g, 5, none⟩ = false := ⟨(bC_ h 0).trans rfl, (bC_ h 1).trans rfl, (bC_ h 2).trans rfl, (bC_ h 3).trans rfl, (bC_ h 4).trans rfl, (bC_ h 5).trans rfl, bR_ h 0, bR_ h 1, bR_ h 2, bR_ h 3, bR_ h 4, bR_ h 5⟩
theorem pt6 {W : World} {g : Nat} {t : TypeId} {v0 v1 v2 v3 v4 v5 u0 u1 u2 u3 u4 u5 : Value} (h : W.heap[g]? = some (.cells #[u0, u1, u2, u3, u4, u5] t (0, 0))) : ((((((W.setCell ⟨g, 0, none⟩ v0).setCell ⟨g, 1, none⟩ v1).setCell ⟨g, 2, none⟩ v2).setCell ⟨g, 3, none⟩ v3).setCell ⟨g, 4, none⟩ v4).setCell ⟨g, 5, none⟩ v5).heap[g]? = some (.cells #[v0, v1, v2, v3, v4, v5] t (0, 0)) := (bP_ (cs := #[v0, v1, v2, v3, v4, u5]) (cs' := #[v0, v1, v2, v3, v4, v5]) (bP_ (cs := #[v0, v1, v2, v3, u4, u5]) (cs' := #[v0, v1, v2, v3, v4, u5]) (bP_ (cs := #[v0, v1, v2, u3, u4, u5]) (cs' := #[v0, v1, v2, v3, u4, u5]) (bP_ (cs := #[v0, v1, u2, u3, u4, u5]) (cs' := #[v0, v1, v2, u3, u4, u5]) (bP_ (cs := #[v0, u1, u2, u3, u4, u5]) (cs' := #[v0, v1, u2, u3, u4, u5]) (bP_ (cs := #[u0, u1, u2, u3, u4, u5]) (cs' := #[v0, u1, u2, u3, u4, u5]) h 0 v0 rfl) 1 v1 rfl) 2 v2 rfl) 3 v3 rfl) 4 v4 rfl) 5 v5 rfl)
theorem rf6 {α : Type} {d : Kd α} {e : TypeId} {W : World} {base g : Nat} {ok : Nat → Prop} {x : Value} {xs : List α} {v0 v1 v2 v3 v4 v5 : Value} (h : d.R e W base (fun k => ok k ∧ k ≠ g) x xs) : d.R e ((((((W.setCell ⟨g, 0, none⟩ v0).setCell ⟨g, 1, none⟩ v1).setCell ⟨g, 2, none⟩ v2).setCell ⟨g, 3, none⟩ v3).setCell ⟨g, 4, none⟩ v4).setCell ⟨g, 5, none⟩ v5) base (fun k => ok k ∧ k ≠ g) x xs := (Kd.R_far (Kd.R_far (Kd.R_far (Kd.R_far (Kd.R_far (Kd.R_far h (fun _ hk => hk.2) v0) (fun _ hk => hk.2) v1) (fun _ hk => hk.2) v2) (fun _ hk => hk.2) v3) (fun _ hk => hk.2) v4) (fun _ hk => hk.2) v5)
theorem cz9 {W : World} {g : Nat} {t : TypeId} {v0 v1 v2 v3 v4 v5 v6 v7 v8 : Value} (h : W.heap[g]? = some (.cells #[v0, v1, v2, v3, v4, v5, v6, v7, v8] t (0, 0))) : W.cell? ⟨g, 0, none⟩ = some v0 ∧ W.cell? ⟨g, 1, none⟩ = some v1 ∧ W.cell? ⟨g, 2, none⟩ = some v2 ∧ W.cell? ⟨g, 3, none⟩ = some v3 ∧ W.cell? ⟨g, 4, none⟩ = some v4 ∧ W.cell? ⟨g, 5, none⟩ = some v5 ∧ W.cell? ⟨g, 6, none⟩ = some v6 ∧ W.cell? ⟨g, 7, none⟩ = some v7 ∧ W.cell? ⟨g, 8, none⟩ = some v8 := ⟨(bC_ h 0).trans rfl, (bC_ h 1).trans rfl, (bC_ h 2).trans rfl, (bC_ h 3).trans rfl, (bC_ h 4).trans rfl, (bC_ h 5).trans rfl, (bC_ h 6).trans rfl, (bC_ h 7).trans rfl, (bC_ h 8).trans rfl⟩
theorem cf9 {W : World} {g : Nat} {t : TypeId} {v0 v1 v2 v3 v4 v5 v6 v7 v8 : Value} (h : W.heap[g]? = some (.cells #[v0, v1, v2, v3, v4, v5, v6, v7, v8] t (0, 0))) : W.cell? ⟨g, 0, none⟩ = some v0 ∧ W.cell? ⟨g, 1, none⟩ = some v1 ∧ W.cell? ⟨g, 2, none⟩ = some v2 ∧ W.cell? ⟨g, 3, none⟩ = some v3 ∧ W.cell? ⟨g, 4, none⟩ = some v4 ∧ W.cell? ⟨g, 5, none⟩ = some v5 ∧ W.cell? ⟨g, 6, none⟩ = some v6 ∧ W.cell? ⟨g, 7, none⟩ = some v7 ∧ W.cell? ⟨g, 8, none⟩ = some v8 ∧ W.frozen? ⟨g, 0, none⟩ = false ∧ W.frozen? ⟨g, 1, none⟩ = false ∧ W.frozen? ⟨g, 2, none⟩ = false ∧ W.frozen? ⟨g, 3, none⟩ = false ∧ W.frozen? ⟨g, 4, none⟩ = false ∧ W.frozen? ⟨g, 5, none⟩ = false ∧ W.frozen? ⟨g, 6, none⟩ = false ∧ W.frozen? ⟨g, 7, none⟩ = false ∧ W.frozen? ⟨g, 8, none⟩ = false := ⟨(bC_ h 0).trans rfl, (bC_ h 1).trans rfl, (bC_ h 2).trans rfl, (bC_ h 3).trans rfl, (bC_ h 4).trans rfl, (bC_ h 5).trans rfl, (bC_ h 6).trans rfl, (bC_ h 7).trans rfl, (bC_ h 8).trans rfl, bR_ h 0, bR_ h 1, bR_ h 2, bR_ h 3, bR_ h 4, bR_ h 5, bR_ h 6, bR_ h 7, bR_ h 8⟩
theorem pt9 {W : World} {g : Nat} {t : TypeId} {v0 v1 v2 v3 v4 v5 v6 v7 v8 u0 u1 u2 u3 u4 u5 u6 u7 u8 : Value} (h : W.heap[g]? = some (.cells #[u0, u1, u2, u3, u4, u5, u6, u7, u8] t (0, 0))) : (((((((((W.setCell ⟨g, 0, none⟩ v0).setCell ⟨g, 1, none⟩ v1).setCell ⟨g, 2, none⟩ v2).setCell ⟨g, 3, none⟩ v3).setCell ⟨g, 4, none⟩ v4).setCell ⟨g, 5, none⟩ v5).setCell ⟨g, 6, none⟩ v6).setCell ⟨g, 7, none⟩ v7).setCell ⟨g, 8, none⟩ v8).heap[g]? = some (.cells #[v0, v1, v2, v3, v4, v5, v6, v7, v8] t (0, 0)) := (bP_ (cs := #[v0, v1, v2, v3, v4, v5, v6, v7, u8]) (cs' := #[v0, v1, v2, v3, v4, v5, v6, v7, v8]) (bP_ (cs := #[v0, v1, v2, v3, v4, v5, v6, u7, u8]) (cs' := #[v0, v1, v2, v3, v4, v5, v6, v7, u8]) (bP_ (cs := #[v0, v1, v2, v3, v4, v5, u6, u7, u8]) (cs' := #[v0, v1, v2, v3, v4, v5, v6, u7, u8]) (bP_ (cs := #[v0, v1, v2, v3, v4, u5, u6, u7, u8]) (cs' := #[v0, v1, v2, v3, v4, v5, u6, u7, u8]) (bP_ (cs := #[v0, v1, v2, v3, u4, u5, u6, u7, u8]) (cs' := #[v0, v1, v2, v3, v4, u5, u6, u7, u8]) (bP_ (cs := #[v0, v1, v2, u3, u4, u5, u6, u7, u8]) (cs' := #[v0, v1, v2, v3, u4, u5, u6, u7, u8]) (bP_ (cs := #[v0, v1, u2, u3, u4, u5, u6, u7, u8]) (cs' := #[v0, v1, v2, u3, u4, u5, u6, u7, u8]) (bP_ (cs := #[v0, u1, u2, u3, u4, u5, u6, u7, u8]) (cs' := #[v0, v1, u2, u3, u4, u5, u6, u7, u8]) (bP_ (cs := #[u0, u1, u2, u3, u4, u5, u6, u7, u8]) (cs' := #[v0, u1, u2, u3, u4, u5, u6, u7, u8]) h 0 v0 rfl) 1 v1 rfl) 2 v2 rfl) 3 v3 rfl) 4 v4 rfl) 5 v5 rfl) 6 v6 rfl) 7 v7 rfl) 8 v8 rfl)
theorem rf9 {α : Type} {d : Kd α} {e : TypeId} {W : World} {base g : Nat} {ok : Nat → Prop} {x : Value} {xs : List α} {v0 v1 v2 v3 v4 v5 v6 v7 v8 : Value} (h : d.R e W base (fun k => ok k ∧ k ≠ g) x xs) : d.R e (((((((((W.setCell ⟨g, 0, none⟩ v0).setCell ⟨g, 1, none⟩ v1).setCell ⟨g, 2, none⟩ v2).setCell ⟨g, 3, none⟩ v3).setCell ⟨g, 4, none⟩ v4).setCell ⟨g, 5, none⟩ v5).setCell ⟨g, 6, none⟩ v6).setCell ⟨g, 7, none⟩ v7).setCell ⟨g, 8, none⟩ v8) base (fun k => ok k ∧ k ≠ g) x xs := (Kd.R_far (Kd.R_far (Kd.R_far (Kd.R_far (Kd.R_far (Kd.R_far (Kd.R_far (Kd.R_far (Kd.R_far h (fun _ hk => hk.2) v0) (fun _ hk => hk.2) v1) (fun _ hk => hk.2) v2) (fun _ hk => hk.2) v3) (fun _ hk => hk.2) v4) (fun _ hk => hk.2) v5) (fun _ hk => hk.2) v6) (fun _ hk => hk.2) v7) (fun _ hk => hk.2) v8)
theorem sB {A Q : Prop} (h : A) (f : A → Q := by intro h_; repeat (first | (with_reducible first | exact h_ | apply bA_ | apply pN_ | apply bE_) | refine bT_ ?_ (Aq.out (by assumption)) | exact h_)) : Q := f h
theorem sR {A Q : Prop} (h : A) (f : A → Q := by intro h_; (with_reducible repeat (first | apply Kd.R_alloc | apply Kd.R_drewN | apply Kd.R_drew)); exact h_) : Q := f h
theorem sK {A Q : Prop} (h : A) (f : A → Q := by intro h_; repeat (first | (with_reducible first | refine bN_ ?_ _ | refine bD_ ?_ | refine bL_ ?_ _) | exact h_ | refine bF_ ?_ (Aq.out (by assumption)) _ | exact pt9 h_ | exact pt6 h_ | exact pt2 h_ | exact pt3 h_)) : Q := f h
end Go.Proofs.YtbicfbnempiocaaGreatW.PrintLast
end
section
namespace Go.Proofs.YtbicfbnempiocaaGreatW.PrintLast
open Go Go.RowKit Go.Proofs.YtbicfbnempiocaaGreatW.PrintWords Go.Proofs.YtbicfbnempiocaaGreatW.PrintMore
theorem sL {A Q : Prop} (h : A) (f : A → Q := by intro h_; (with_reducible repeat (first | refine bN_ ?_ _ | refine bD_ ?_ | refine bL_ ?_ _)); exact h_) : Q := f h
theorem sE {Q : Prop} (f : Q := by first | rfl | (simp [Go.Proofs.YtbicfbnempiocaaGreat.G.errW_none, Go.Proofs.YtbicfbnempiocaaGreat.G.errW_some] <;> rfl) | (simp [*, Go.Proofs.YtbicfbnempiocaaGreat.G.errW_none, Go.Proofs.YtbicfbnempiocaaGreat.G.errW_some] <;> rfl)) : Q := f
theorem sA {Q : Prop} (f : Q := by (try simp only [List.map_toArray, List.map_cons, List.map_nil]); first | done | rfl | (simp only [List.length_drop, List.length_take]; rfl)) : Q := f
theorem sC {A Q : Prop} (h : A) (f : A → Q := by intro h_; repeat (first | exact h_ | (with_reducible refine Kd.C_alloc ?_ _) | (with_reducible refine Kd.C_drewN ?_ _) | (with_reducible refine Kd.C_drew ?_))) : Q := f h
theorem sN {Q : Prop} (f : Q := by first | (simp only [putAll, Act.put, List.setIfInBounds_toArray, List.set_cons_zero, List.set_cons_succ]; done) | (simp only [putAll, Act.put, List.setIfInBounds_toArray, List.set_cons_zero, List.set_cons_succ]; rfl)) : Q := f
end Go.Proofs.YtbicfbnempiocaaGreatW.PrintLast
end
section
namespace Go.Proofs.YtbicfbnempiocaaGreatW.PrintLast
open Go Go.RowKit Go.Proofs.YtbicfbnempiocaaGreatW.PrintWords Go.Proofs.YtbicfbnempiocaaGreatW.PrintMore
theorem oB {α β : Type} {o : Option α} {f : α → Option β} {r : β} (h : o.bind f = some r) : ∃ t, Aq (o = some t) ∧ f t = some r := let ⟨t, a, b⟩ := Option.bind_eq_some_iff.mp h; ⟨t, ⟨a⟩, b⟩
theorem oT {β : Type} {t : Bool} {a b r : β} (h : (if t = true then a else b) = r) : (t = true ∧ a = r) ∨ (t = false ∧ b = r) := by cases t <;> simp_all
theorem oI {β : Type} {c : Prop} [Decidable c] {a b r : β} (h : (if c then a else b) = r) : (c ∧ a = r) ∨ (¬ c ∧ b = r) := by by_cases k : c <;> simp_all
theorem dT {p : Prop} [Decidable p] (h : p) : decide p = true := decide_eq_true h
theorem dF {p : Prop} [Decidable p] (h : ¬ p) : decide p = false := decide_eq_false h
theorem bT {α : Type} [BEq α] [LawfulBEq α] {a b : α} (h : a = b) : (a == b) = true := beq_iff_eq.mpr h
theorem bN {α : Type} [BEq α] [LawfulBEq α] {a b : α} (h : a = b) : (a != b) = false := bne_eq_false_iff_eq.mpr h
theorem bF {α : Type} [BEq α] [LawfulBEq α] {a b : α} (h : ¬ a = b) : (a == b) = false := beq_eq_false_iff_ne.mpr h
theorem bM {α : Type} [BEq α] [LawfulBEq α] {a b : α} (h : ¬ a = b) : (a != b) = true := bne_iff_ne.mpr h
theorem mv {w W : World} {p : Addr} {v : Value} (HB : Aq (Below w.heap.size w W)) (h : w.cell? p = some v) : W.cell? p = some v := (HB.out.cell (World.block_lt_of_cell? w _ h)).trans h
theorem yb {A : Prop} {w w1 : World} {g : Nat} {o : Obj} (h : Aq A) (hb : Below w.heap.size w w1) (f : A → w.heap[g]? = some o := by intro h_; (with_reducible repeat (first | refine bN_ ?_ _ | refine bD_ ?_ | refine bL_ ?_ _)); exact h_) : Aq (w1.heap[g]? = some o) := ⟨bB_ (f h.out) hb⟩
theorem yB {A : Prop} {w W w2 : World} (h : Aq A) (k : Below W.heap.size W w2) (f : A → Below w.heap.size w W := by intro h_; repeat (first | (with_reducible first | exact h_ | apply bA_ | apply pN_ | apply bE_) | refine bT_ ?_ (Aq.out (by assumption)) | exact h_)) : Aq (Below w.heap.size w w2) := ⟨bS_ (f h.out) k⟩
theorem yR {α : Type} {d : Kd α} {e : TypeId} {w w1 : World} {base : Nat} {ok : Nat → Prop} {v : Value} {xs : List α} {A : Prop} (h : Aq A) (hb : Below w.heap.size w w1) (f : A → d.R e w base ok v xs := by intro h_; (with_reducible repeat (first | apply Kd.R_alloc | apply Kd.R_drewN | apply Kd.R_drew)); exact h_) : Aq (d.R e w1 base ok v xs) := ⟨Kd.R_below (f h.out) hb⟩
theorem yS {A : Prop} {w W : World} {g : Nat} (h : Aq A) (hg : g = W.heap.size) (f : A → Below w.heap.size w W := by intro h_; repeat (first | (with_reducible first | exact h_ | apply bA_ | apply pN_ | apply bE_) | refine bT_ ?_ (Aq.out (by assumption)) | exact h_)) : Aq (w.heap.size ≤ g) := ⟨hg ▸ bZ_ (f h.out)⟩
theorem yN {A : Prop} {W : World} {g g' : Nat} {o : Obj} (h : Aq A) (hg : g' = W.heap.size) (f : A → W.heap[g]? = some o := by intro h_; (with_reducible repeat (first | refine bN_ ?_ _ | refine bD_ ?_ | refine bL_ ?_ _)); exact h_) : Aq (g ≠ g') := ⟨hg ▸ Nat.ne_of_lt (blk_lt (f h.out))⟩
theorem yM {A : Prop} {W : World} {g g' : Nat} {o : Obj} (h : Aq A) (hg : g' = W.heap.size) (f : A → W.heap[g]? = some o := by intro h_; (with_reducible repeat (first | refine bN_ ?_ _ | refine bD_ ?_ | refine bL_ ?_ _)); exact h_) : Aq (g' ≠ g) := ⟨hg ▸ Nat.ne_of_gt (blk_lt (f h.out))⟩
theorem sS {Q : Prop} (f : Q := by first | rfl | (simp; done) | (simp [*]; done)) : Q := f
theorem yC {A B Q : Prop} (h : Aq A) (k : Aq B) (f : A → B → Q := by intro h1_ h2_; have h_ := Kd.C_below h1_ h2_; repeat (first | exact h_ | (with_reducible refine Kd.C_alloc ?_ _) | (with_reducible refine Kd.C_drewN ?_ _) | (with_reducible refine Kd.C_drew ?_))) : Q := f h.out k.out
section
variable {P : Program} {ops : Array Oper} {o : Oper} {rest : List Oper} {a : Act} {W : World} {Q : Exit → Act → World → Prop}
theorem gL (N : Option Tmp) {f : FuncId} {fn : Func} {xs : Array Operand} {ts : Array TypeId} (args : Array Value)
  (h : Calls P f args W fun e w' => ∃ v, e = .returned v ∧ wpList P ops Q rest (a.put N v) w') (hd : o.dst = N := by rfl) (hg : o.guard = none := by rfl)
  (hop : o.op = .call { callee := .value (.func f), args := xs, argTypes := ts } := by rfl) (hf : P.funcs[f]? = some fn := by rfl) (hname : (fn.name == "runtime.NumGoroutine") = false := by kernel_rfl) (hb : fn.body.isSome = true := by rfl) (hargs : xs.map a.eval = args := by (try simp only [List.map_toArray, List.map_cons, List.map_nil]); first | done | rfl | (simp only [List.length_drop, List.length_take]; rfl)) : wpList P ops Q (o :: rest) a W :=
 goesL_ N hd hg hf hname hb args hop hargs h
theorem gX (N : Nat) (hd : o.dst = some N) {f : FuncId} {fn : Func} {xs : Array Operand} {ts : Array TypeId} (args : Array Value) {r : Value}
  (hc : Calls P f args W fun e w' => e = .returned r ∧ Below W.heap.size W w') (h : ∀ w', Below W.heap.size W w' → wpList P ops Q rest (a.put (some N) r) w') (hg : o.guard = none := by rfl)
  (hop : o.op = .call { callee := .value (.func f), args := xs, argTypes := ts } := by rfl) (hf : P.funcs[f]? = some fn := by rfl) (hname : (fn.name == "runtime.NumGoroutine") = false := by kernel_rfl) (hb : fn.body.isSome = true := by rfl) (hargs : xs.map a.eval = args := by (try simp only [List.map_toArray, List.map_cons, List.map_nil]); first | done | rfl | (simp only [List.length_drop, List.length_take]; rfl)) : wpList P ops Q (o :: rest) a W :=
 goesL_ (some N) hd hg hf hname hb args hop hargs (hc.mono fun _ _ k => ⟨_, k.1, h _ k.2⟩)
theorem gY (N : Nat) (hd : o.dst = some N) {f : FuncId} {fn : Func} {xs : Array Operand} {ts : Array TypeId} (args : Array Value) {r : Value}
  (hc : Calls P f args W fun e w' => e = .returned r ∧ Drawn0 W w') (h : ∀ n, wpList P ops Q rest (a.put (some N) r) (W.drewN n)) (hg : o.guard = none := by rfl)
  (hop : o.op = .call { callee := .value (.func f), args := xs, argTypes := ts } := by rfl) (hf : P.funcs[f]? = some fn := by rfl) (hname : (fn.name == "runtime.NumGoroutine") = false := by kernel_rfl) (hb : fn.body.isSome = true := by rfl) (hargs : xs.map a.eval = args := by (try simp only [List.map_toArray, List.map_cons, List.map_nil]); first | done | rfl | (simp only [List.length_drop, List.length_take]; rfl)) : wpList P ops Q (o :: rest) a W :=
 goesL_ (some N) hd hg hf hname hb args hop hargs (hc.mono fun _ _ k => ⟨_, k.1, by obtain ⟨n, k⟩ := k.2; subst k; exact h n⟩)
theorem cX {f : FuncId} {args : Array Value} {r : Value} {K : Ending → World → Prop} (hc : Calls P f args W fun e w' => e = .returned r ∧ Below W.heap.size W w') (h : ∀ w', Below W.heap.size W w' → K (.returned r) w') : Calls P f args W K := hc.mono fun _ _ k => k.1 ▸ h _ k.2
theorem cY {f : FuncId} {args : Array Value} {r : Value} {K : Ending → World → Prop} (hc : Calls P f args W fun e w' => e = .returned r ∧ Drawn0 W w') (h : ∀ n, K (.returned r) (W.drewN n)) : Calls P f args W K := hc.mono fun _ _ k => by obtain ⟨e, n, k⟩ := k; subst e; subst k; exact h n
theorem oA {p : Prop} [Decidable p] (h : decide p = true := by first | (with_reducible assumption) | assumption) : p := of_decide_eq_true h
theorem bxE {N : Tmp} (cs : Array Value) (t : TypeId)
  (h : ∀ g, g = W.heap.size → ∀ w1, w1.heap[g]? = some (.cells cs t (0, 0)) → Below W.heap.size W w1 → wpList P ops Q rest (a.put o.dst (.pointer (some ⟨g, 0, none⟩))) w1) (hgd : o.guard = none := by rfl) (hd : o.dst = some N := by rfl)
  (hrun : (execOp a.eval o).run P W = .ok (.value (.pointer (some ⟨W.heap.size, 0, none⟩))) (W.alloc (.cells cs t (0, 0))) := by first | (go_simp; done) | (go_simp; rfl)) : wpList P ops Q (o :: rest) a W := xE_ hgd hd hrun h
end
section
variable {P : Program} {ops : Array Oper} {Q : Exit → Act → World → Prop} {md : Region.Mode} {S : World → Prop} {ds : List Nat}
theorem pT (i N : Nat) {oi : Oper} {v : Value} {fuel : Nat} {l : Array Bool} {a a' : Act} {w : World} (h : wpAnyLast P md ops Q S ds fuel (l.setIfInBounds i true) a' w)
  (hi : ops[i]? = some oi := by rfl) (hN : oi.dst = some N := by rfl) (hc : anyB md ops l (l.setIfInBounds i true) i = true := by exact any_of HT_.out (by kernel_rfl))
  (hQ : ∀ c a w, Q (.panic c) (a.put oi.dst v) w → Q (.panic c) a w := by exact fun _ _ _ h => h)
  (hw : Region.wanted oi (yielded ops a.tmps) = true := by rfl) (hv : ∀ w, (execOp a.eval oi).run P w = .ok (.value v) w := by intro w'; go_simp; with_reducible rfl)
  (ha : a.put (some N) v = a' := by simp only [Act.put, List.setIfInBounds_toArray, List.set_cons_zero, List.set_cons_succ, i64_w, i32_w]; rfl) : wpAnyLast P md ops Q S ds (fuel + 1) l a w :=
 pure_ _ hi hN hc hQ (Or.inl ⟨hw, hv⟩) ha h
theorem tT (i N : Nat) {oi : Oper} {v : Value} {fuel : Nat} {l : Array Bool} {a a' : Act} {w : World} (hS : S w) (h : wpAnyLast P md ops Q S ds fuel (l.setIfInBounds i true) a' w)
  (hi : ops[i]? = some oi := by rfl) (hN : oi.dst = some N := by rfl) (hc : takeB md ops ds l (l.setIfInBounds i true) i = true := by exact take_ofW HT_.out HW_.out (by kernel_rfl))
  (hQ : ∀ c a w, Q (.panic c) (a.put oi.dst v) w → Q (.panic c) a w := by exact fun _ _ _ h => h)
  (hw : Region.wanted oi (yielded ops a.tmps) = true := by rfl) (hv : ∀ w, S w → (execOp a.eval oi).run P w = .ok (.value v) w := by intro w' hs_; repeat (have h1_ := hs_.1; replace hs_ := hs_.2); go_simp; with_reducible rfl)
  (ha : a.put (some N) v = a' := by simp only [Act.put, List.setIfInBounds_toArray, List.set_cons_zero, List.set_cons_succ, i64_w, i32_w]; rfl) : wpAnyLast P md ops Q S ds (fuel + 1) l a w :=
 take_ _ hi hN hc hQ (Or.inl ⟨hw, hv⟩) hS ha h
end
end Go.Proofs.YtbicfbnempiocaaGreatW.PrintLast
end
section
namespace Go.Proofs.YtbicfbnempiocaaGreatW.PrintLast
open Go Go.RowKit Go.Proofs.YtbicfbnempiocaaGreatW.PrintWords Go.Proofs.YtbicfbnempiocaaGreatW.PrintMore
theorem sF {A B Q : Prop} (k : Aq A) (h : Aq B) (f : A → B → Q := by intro k_ h_; (with_reducible repeat (first | refine bN_ ?_ _ | refine bD_ ?_ | refine bL_ ?_ _)); (repeat refine bF_ ?_ k_ _); (with_reducible repeat (first | refine bN_ ?_ _ | refine bD_ ?_ | refine bL_ ?_ _)); exact h_) : Q := f k.out h.out
theorem wB {A Q : Prop} (h : A) (f : A → Q := by intro h_; (with_reducible repeat (first | refine bN_ ?_ _ | refine bD_ ?_ | refine bL_ ?_ _)); exact h_) : Q := f h
theorem wR {A Q : Prop} (h : A) (f : A → Q := by intro h_; (with_reducible repeat (first | apply Kd.R_alloc | apply Kd.R_drewN | apply Kd.R_drew)); exact h_) : Q := f h
theorem hh {A Q : Prop} {w w1 : World} (hb : Below w.heap.size w w1) (h : A) (f : A → Below w.heap.size w w1 → Q := by intro h_ hb_; (repeat (refine ⟨pC_ hb_ h_.1, ?_⟩; replace h_ := h_.2)); exact pC_ hb_ h_) : Q := f h hb
end Go.Proofs.YtbicfbnempiocaaGreatW.PrintLast
end
section
namespace Go.Proofs.YtbicfbnempiocaaGreatW.PrintLast
open Go Go.RowKit Go.Proofs.YtbicfbnempiocaaGreatW.PrintWords Go.Proofs.YtbicfbnempiocaaGreatW.PrintMore
theorem yF {A : Prop} {W0 w w1 : World} {g : Nat} {o : Obj} (k : Aq A) (h : Aq (W0.heap[g]? = some o)) (hb : Below w.heap.size w w1) (f : A → W0.heap[g]? = some o → w.heap[g]? = some o := by intro k_ h_; (with_reducible repeat (first | refine bN_ ?_ _ | refine bD_ ?_ | refine bL_ ?_ _)); (repeat refine bF_ ?_ k_ _); (with_reducible repeat (first | refine bN_ ?_ _ | refine bD_ ?_ | refine bL_ ?_ _)); exact h_) : Aq (w1.heap[g]? = some o) := ⟨bB_ (f k.out h.out) hb⟩
theorem yT6 {W0 w w1 : World} {g : Nat} {o o' : Obj} (h : Aq (W0.heap[g]? = some o)) (hb : Below w.heap.size w w1) (f : W0.heap[g]? = some o → w.heap[g]? = some o' := by intro h_; (with_reducible repeat (first | refine bN_ ?_ _ | refine bD_ ?_ | refine bL_ ?_ _)); apply pt6; (with_reducible repeat (first | refine bN_ ?_ _ | refine bD_ ?_ | refine bL_ ?_ _)); exact h_) : Aq (w1.heap[g]? = some o') := ⟨bB_ (f h.out) hb⟩
theorem yT9 {W0 w w1 : World} {g : Nat} {o o' : Obj} (h : Aq (W0.heap[g]? = some o)) (hb : Below w.heap.size w w1) (f : W0.heap[g]? = some o → w.heap[g]? = some o' := by intro h_; (with_reducible repeat (first | refine bN_ ?_ _ | refine bD_ ?_ | refine bL_ ?_ _)); apply pt9; (with_reducible repeat (first | refine bN_ ?_ _ | refine bD_ ?_ | refine bL_ ?_ _)); exact h_) : Aq (w1.heap[g]? = some o') := ⟨bB_ (f h.out) hb⟩
end Go.Proofs.YtbicfbnempiocaaGreatW.PrintLast
end
namespace Go.Proofs.YtbicfbnempiocaaGreat.G
open Go.RowKit Go.Proofs.YtbicfbnempiocaaGreatW.PrintWords Go.Proofs.YtbicfbnempiocaaGreatW.PrintLast Go.Proofs.YtbicfbnempiocaaGreatW.PrintMore
section
attribute [local go_sem] max2_int min2_int max_two min_two max_three min_three max_four min_four
def claim_divisor.l0 : Nat → Int → Int → Option (Int)
 | 0, _, _ => none
 | k + 1, x0, x1 => if x1 = 0 then (some (mx x0 (wrap64 (-x0)))) else (claim_divisor.l0 k x1 (Int.tmod x0 x1))
def claim_divisor.f (k : Nat) (a0 : Int) (a1 : Int) : Option (Int) := claim_divisor.l0 k a0 a1
set_option maxHeartbeats 8000000 in
set_option maxRecDepth 100000 in
theorem claim_divisor.calls (k : Nat) (a0 : Int) (a1 : Int) (r : Int) (w : World) (h : claim_divisor.f k a0 a1 = some r) :
  Calls Tryz.prog 142 #[.int .i64 a0, .int .i64 a1] w fun e w' => e = .returned (.int .i64 r) ∧ Below w.heap.size w w' := by
 have HB := Aq.mk (Below.refl w.heap.size w)
 have H : (claim_divisor.l0 k a0 a1) = some r := h
 clear h
 have H' := Aq.mk H
 clear H
 go_enter Tryz.func142, Tryz.ntmps142
 go_wp2
 repeat (go_quiet (fail); try go_wp2)
 go_loopg [0, 1] k (fun kq v0 v1 w' => ∃ (x0_1 : Int) (x1_1 : Int), v0 = .int .i64 x0_1 ∧ v1 = .int .i64 x1_1 ∧ Aq (claim_divisor.l0 kq x0_1 x1_1 = some r) ∧ Aq (kq ≤ k) ∧ Aq (Below w.heap.size w w'))
 case atStart => exact ⟨(a0), (a1), sS, sS, H', ⟨Nat.le_refl _⟩, ⟨sB HB.out⟩⟩
 case round =>
  clear H'
  obtain ⟨x0_1, x1_1, rfl, rfl, HA, HK1, HB⟩ := hrel
  cases gk with
  | zero => exact absurd HA.out (by simp [claim_divisor.l0])
  | succ k1 =>
   have H := HA.out
   clear HA
   simp only [claim_divisor.l0] at H
   replace H := oI H; rcases H with ⟨c3, H⟩ | ⟨c3, H⟩
   ·have c3b0 := bT c3
    have c3b1 := bN c3
    clear c3
    obtain ⟨ji4, hji4⟩ : ∃ j_ : Int, (mx x0_1 (wrap64 (-x0_1))) = j_ := ⟨_, rfl⟩
    replace H : (some ji4) = some r := by first | (rw [hji4] at H; exact H) | (simp only [hji4] at H ⊢; exact H)
    have hji4_ : (if x0_1 < (wrap64 (-x0_1)) then (wrap64 (-x0_1)) else x0_1) = ji4 := hji4
    obtain rfl := Option.some.inj H
    go_wp2
    repeat (go_quiet (fail); try go_wp2)
    go_ret
    exact ⟨by first | rfl | (simp [errW_none, errW_some] <;> rfl) | (simp only [← hji4]; first | rfl | (simp [errW_none, errW_some] <;> rfl)) | (simp [*, errW_none, errW_some] <;> rfl), sB HB.out⟩
   ·have c3b0 := bF c3
    have c3b1 := bM c3
    have H' := Aq.mk H
    clear H
    go_wp2
    repeat (go_quiet (fail); try go_wp2)
    go_roundg k1
    case measure => have := HK1.out; omega
    case rel => exact ⟨(x1_1), (Int.tmod x0_1 x1_1), sS, sS, H', ⟨by have := HK1.out; omega⟩, ⟨sB HB.out⟩⟩
end
section
open Go.Shelf
theorem gcd_tmod (a b : Int) (hb : b ≠ 0) : Int.gcd b (Int.tmod a b) = Int.gcd a b := by
 unfold Int.gcd
 rw [Int.natAbs_tmod, Nat.gcd_comm, ← Nat.gcd_rec, Nat.gcd_comm]
theorem tmod_small (a b : Int) (hb : b ≠ 0) : (Int.tmod a b).natAbs < b.natAbs := by
 rw [Int.natAbs_tmod]
 exact Nat.mod_lt _ (by omega)
theorem abs_max (x : Int) (h : x.natAbs ≤ 9223372036854775807) : mx x (wrap64 (-x)) = (Int.gcd x 0 : Int) := by
 have e : (Int.gcd x 0 : Int) = x.natAbs := by simp
 rw [e]
 have hw : wrap64 (-x) = -x := by unfold wrap64; omega
 rw [hw]
 unfold mx
 split <;> omega
theorem divisor_l0 (n : Nat) : ∀ (k : Nat) (a b : Int), b.natAbs ≤ n → n < k → a.natAbs ≤ 9223372036854775807 → b.natAbs ≤ 9223372036854775807 → claim_divisor.l0 k a b = some (Int.gcd a b : Int) := by
 induction n with
 | zero =>
  intro k a b hb hk ha hb2
  obtain ⟨k, rfl⟩ : ∃ m, k = m + 1 := ⟨k - 1, by omega⟩
  obtain rfl : b = 0 := by omega
  simp only [claim_divisor.l0]
  rw [if_pos trivial, abs_max a ha]
 | succ n ih =>
  intro k a b hb hk ha hb2
  obtain ⟨k, rfl⟩ : ∃ m, k = m + 1 := ⟨k - 1, by omega⟩
  simp only [claim_divisor.l0]
  by_cases h0 : b = 0
  ·rw [if_pos h0, abs_max a ha, h0]
  ·rw [if_neg h0]
   have hs := tmod_small a b h0
   rw [ih k b (Int.tmod a b) (by omega) (by omega) hb2 (by omega), gcd_tmod a b h0]
theorem divisor_gcd (a b : Int) (ha : a.natAbs ≤ 9223372036854775807) (hb : b.natAbs ≤ 9223372036854775807) : claim_divisor.f (b.natAbs + 1) a b = some (Int.gcd a b : Int) :=
 divisor_l0 b.natAbs _ a b (Nat.le_refl _) (by omega) ha hb
theorem divisor_any (a b : Int) (w : World) (ha : a.natAbs ≤ 9223372036854775807) (hb : b.natAbs ≤ 9223372036854775807) :
  Calls Tryz.prog 142 #[.int .i64 a, .int .i64 b] w fun e w' => e = .returned (.int .i64 (Int.gcd a b)) ∧ Below w.heap.size w w' :=
 claim_divisor.calls _ a b _ w (divisor_gcd a b ha hb)
end
section
open Go.Shelf
def unrangedEntry : PanicEntry := { v := .iface 192 (.agg #[]), recovered := false }
set_option maxRecDepth 100000 in
set_option maxHeartbeats 1000000 in
theorem catch_panicking (p : Addr) (x : Int) (w : World) (hc : w.cell? p = some (.int .i64 x)) (hz : w.frozen? p = false) :
  CallsD Tryz.prog 175 #[.pointer (some p)] (.panicking [unrangedEntry]) w fun e u' w' =>
   e = .returned (.tuple #[]) ∧ u' = .panicking [{ v := .iface 192 (.agg #[]), recovered := true }] ∧ w' = (w.alloc (.cells #[] 192)).setCell p (.int .i64 2) := by
 have hta : ∀ (W : World), (Instr.typeAssert (.iface 192 (.agg #[])) 20 192 true).run Tryz.prog W = .ok (.tuple #[.agg #[], .bool true]) W := fun W => by kernel_rfl
 have hlt := World.block_lt_of_cell? w p hc
 have hb := (Below.refl w.heap.size w).alloc (Nat.le_refl _) (.cells #[] 192)
 have hc' : (w.alloc (.cells #[] 192)).cell? p = some (.int .i64 x) := (hb.cell hlt).trans hc
 have hz' : (w.alloc (.cells #[] 192)).frozen? p = false := (hb.frozen hlt).trans hz
 clear hb hlt
 unfold unrangedEntry
 refine callsD_of_wpS Tryz.func175 rfl fun c₀ cs hu => ?_
 simp only [Tryz.ntmps175, List.size_toArray, List.length_cons, List.length_nil, Nat.reduceAdd, Nat.reduceSub, Array.replicate_succ, Array.replicate_zero, List.push_toArray, List.append_toArray, List.nil_append, List.cons_append]
 apply wpS_seq
 apply wpS_region
 simp [wpOpsS, go_sem, recoverD, hu, Exit.thenS]
 refine wpS_of_wp ?_
 go_wp2
 cases c₀
 simp_all [bodyPostS, results, Tryz.results175]
theorem catch_idle (p : Addr) (w : World) :
  CallsD Tryz.prog 175 #[.pointer (some p)] .returning w fun e u' w' => e = .returned (.tuple #[]) ∧ u' = .returning ∧ w' = w := by
 refine callsD_of_wpS Tryz.func175 rfl fun c₀ cs hu => ?_
 simp only [Tryz.ntmps175, List.size_toArray, List.length_cons, List.length_nil, Nat.reduceAdd, Nat.reduceSub, Array.replicate_succ, Array.replicate_zero, List.push_toArray, List.append_toArray, List.nil_append, List.cons_append]
 apply wpS_seq
 apply wpS_region
 simp [wpOpsS, go_sem, recoverD, hu, Exit.thenS]
 refine wpS_of_wp ?_
 go_wp2
 cases c₀
 simp_all [bodyPostS, results, Tryz.results175]
theorem grown_blk {W w1 : World} {b g : Nat} {o : Obj} (hg : W.grownBy w1 (some b)) (hne : g ≠ b) (h : W.heap[g]? = some o) : w1.heap[g]? = some o :=
 (hg.block g (Array.getElem?_eq_some_iff.1 h).1 (fun e => hne (Option.some.inj e))).trans h
theorem grown_set {w W : World} {b : Nat} (h : w.grownBy W (some b)) (j : Nat) (v : Value) : w.grownBy (W.setCell ⟨b, j, none⟩ v) (some b) :=
 ⟨h.os, h.tape, h.output, by rw [World.size_setCell]; exact h.size, fun i hi hne => (Below.heap_setCell W ⟨b, j, none⟩ v i (by rintro rfl; exact hne rfl)).trans (h.block i hi hne)⟩
theorem grown_box {w W w1 : World} {b g : Nat} (hW : Below w.heap.size w W) (hg : W.grownBy w1 (some b)) (hge : w.heap.size ≤ g) (v : Value) : w.grownBy (w1.setCell ⟨g, 0, none⟩ v) (some b) :=
 ⟨hg.os.trans hW.os, hg.tape.trans hW.tape, hg.output.trans hW.output, by have := hg.size; have := hW.size; rw [World.size_setCell]; omega, fun i hi hne => by
  have h1 : (w1.setCell ⟨g, 0, none⟩ v).heap[i]? = w1.heap[i]? := Below.heap_setCell w1 ⟨g, 0, none⟩ v i (by show i ≠ g; omega)
  rw [h1, hg.block i (by have := hW.size; omega) hne]
  exact hW.block i hi⟩
set_option maxRecDepth 100000 in
set_option maxHeartbeats 1000000 in
theorem ranged_ok (g : Nat) (lb : Array Value) (b : Nat) (o : Obj) (w : World) (eg : ∀ args w, (callFunc g args).run Tryz.prog w = .ok (.enter g args) w) (hbl : b < w.heap.size)
  (hdo : ∀ W, Below w.heap.size w W → Calls Tryz.prog g lb W fun e W1 => e = .returned (.tuple #[]) ∧ W.grownBy W1 (some b) ∧ W1.heap[b]? = some o) :
  Calls Tryz.prog 143 #[.func (.func g) #[] lb] w fun e w' => e = .returned (.int .i64 0) ∧ w.grownBy w' (some b) ∧ w'.heap[b]? = some o := by
 have HDO := Aq.mk (hdo _ ((Below.refl w.heap.size w).alloc (Nat.le_refl _) (.cells #[.int .i64 0] 29)))
 have hne : w.heap.size ≠ b := by omega
 clear hdo
 have hmf : ∀ (fn : Fn) (first cap : Array Value) (w : World), (Instr.makeFunc fn first cap).run Tryz.prog w = .ok (.func fn first cap) w := fun _ _ _ _ => rfl
 go_enter_defers Tryz.func143, Tryz.ntmps143
 go_wp2_with (go_at_fn g; refine HDO.out.mono ?_; rintro e w1 ⟨rfl, hg, ho⟩; have hbx := grown_blk hg hne (heap_alloc_new w (.cells #[.int .i64 0] 29)); have hc1 : w1.cell? ⟨w.heap.size, 0, none⟩ = some (.int .i64 0) := (bC_ hbx 0).trans rfl; have hf1 := bR_ hbx 0; have HG := Aq.mk hg; have HO := Aq.mk ho; have HX := Aq.mk hbx; clear hg ho hbx)
 refine leaves_cons (f := 175) (args := #[.pointer (some ⟨w.heap.size, 0, none⟩)]) (by simp) (by simp [go_sem]) ?_
 refine (catch_idle ⟨w.heap.size, 0, none⟩ _).mono ?_
 rintro e u' w'' ⟨rfl, rfl, rfl⟩
 simp [Leaves, settle, results, Tryz.results143, go_sem]
 have hcell : (w1.setCell ⟨w.heap.size, 0, none⟩ (.int .i64 0)).cell? ⟨w.heap.size, 0, none⟩ = some (.int .i64 0) := (bC_ (bP_ HX.out 0 (.int .i64 0) rfl) 0).trans rfl
 rw [hcell]
 exact ⟨_, rfl, rfl, grown_box ((Below.refl w.heap.size w).alloc (Nat.le_refl _) _) HG.out (Nat.le_refl _) _, (Below.heap_setCell w1 ⟨w.heap.size, 0, none⟩ _ b (by show b ≠ w.heap.size; omega)).trans HO.out⟩
set_option maxRecDepth 100000 in
set_option maxHeartbeats 1000000 in
theorem ranged_no (g : Nat) (lb : Array Value) (b : Nat) (o : Obj) (w : World) (eg : ∀ args w, (callFunc g args).run Tryz.prog w = .ok (.enter g args) w) (hbl : b < w.heap.size)
  (hdo : ∀ W, Below w.heap.size w W → Calls Tryz.prog g lb W fun e W1 => e = .panicked [unrangedEntry] ∧ W.grownBy W1 (some b) ∧ W1.heap[b]? = some o) :
  Calls Tryz.prog 143 #[.func (.func g) #[] lb] w fun e w' => e = .returned (.int .i64 2) ∧ w.grownBy w' (some b) ∧ w'.heap[b]? = some o := by
 have HDO := Aq.mk (hdo _ ((Below.refl w.heap.size w).alloc (Nat.le_refl _) (.cells #[.int .i64 0] 29)))
 have hne : w.heap.size ≠ b := by omega
 clear hdo
 have hmf : ∀ (fn : Fn) (first cap : Array Value) (w : World), (Instr.makeFunc fn first cap).run Tryz.prog w = .ok (.func fn first cap) w := fun _ _ _ _ => rfl
 go_enter_defers Tryz.func143, Tryz.ntmps143
 go_wp2_with (go_at_fn g; refine HDO.out.mono ?_; rintro e w1 ⟨rfl, hg, ho⟩; have hbx := grown_blk hg hne (heap_alloc_new w (.cells #[.int .i64 0] 29)); have hc1 : w1.cell? ⟨w.heap.size, 0, none⟩ = some (.int .i64 0) := (bC_ hbx 0).trans rfl; have hf1 := bR_ hbx 0; have HG := Aq.mk hg; have HO := Aq.mk ho; have HX := Aq.mk hbx; clear hg ho hbx)
 refine leaves_cons (f := 175) (args := #[.pointer (some ⟨w.heap.size, 0, none⟩)]) (by simp) (by simp [go_sem]) ?_
 refine (catch_panicking ⟨w.heap.size, 0, none⟩ 0 _ hc1 hf1).mono ?_
 rintro e u' w'' ⟨rfl, rfl, rfl⟩
 simp [Leaves, settle, results, Tryz.results143, go_sem]
 have hX2 := bL_ HX.out (.cells #[] 192)
 have hcell : ((w1.alloc (.cells #[] 192)).setCell ⟨w.heap.size, 0, none⟩ (.int .i64 2)).cell? ⟨w.heap.size, 0, none⟩ = some (.int .i64 2) := (bC_ (bP_ hX2 0 (.int .i64 2) rfl) 0).trans rfl
 rw [hcell]
 have hg2 : (w.alloc (.cells #[.int .i64 0] 29)).grownBy (w1.alloc (.cells #[] 192)) (some b) := HG.out.trans (World.grownBy_alloc w1 _ _)
 exact ⟨_, rfl, rfl, grown_box ((Below.refl w.heap.size w).alloc (Nat.le_refl _) _) hg2 (Nat.le_refl _) _, (Below.heap_setCell (w1.alloc (.cells #[] 192)) ⟨w.heap.size, 0, none⟩ _ b (by show b ≠ w.heap.size; omega)).trans (bL_ HO.out _)⟩
end
section
open Go.Shelf
def normQ (num den : Int) : Option (Int × Int) :=
 let g : Int := Int.gcd num den
 let d := if den < 0 then -g else g
 if inB (num.tdiv d) (-1000000000000) 1000000000000 && decide (den.tdiv d ≤ 1000000) then some (num.tdiv d, den.tdiv d) else none
def NormEnd (num den : Int) (e : Ending) : Prop :=
 match normQ num den with
 | some (a, b) => e = .returned (.agg #[.int .i64 a, .int .i64 b])
 | none => e = .panicked [unrangedEntry]
theorem gcd_pos (num den : Int) (h : den ≠ 0) : 1 ≤ (Int.gcd num den : Int) := by
 have : 0 < Int.gcd num den := Int.gcd_pos_of_ne_zero_right num h
 omega
set_option maxRecDepth 100000 in
set_option maxHeartbeats 1000000 in
theorem norm_any (num den : Int) (w : World) (h0 : den ≠ 0) (hn : num.natAbs ≤ 9223372036854775807) (hd : den.natAbs ≤ 9223372036854775807) :
  Calls Tryz.prog 173 #[.int .i64 num, .int .i64 den] w fun e w' => NormEnd num den e ∧ Below w.heap.size w w' := by
 have hg := gcd_pos num den h0
 have hgl : (Int.gcd num den : Int) ≤ 9223372036854775807 := by
  have := Int.gcd_le_natAbs_right num (by omega : den ≠ 0)
  omega
 have hdiv := fun W => divisor_any num den W hn hd
 obtain ⟨g, hge⟩ : ∃ g : Int, (Int.gcd num den : Int) = g := ⟨_, rfl⟩
 have HD := Aq.mk hdiv
 clear hdiv
 have HE : Aq ((Int.gcd num den : Int) = g) := ⟨hge⟩
 rw [hge] at hg hgl HD
 clear hge
 by_cases hneg : den < 0
 ·have hz : ¬ -g = 0 := by omega
  have HQ : Aq (normQ num den = if inB (num.tdiv (-g)) (-1000000000000) 1000000000000 && decide (den.tdiv (-g) ≤ 1000000) then some (num.tdiv (-g), den.tdiv (-g)) else none) := ⟨by unfold normQ; simp only [HE.out, if_pos hneg]⟩
  have hta' := Int.natAbs_tdiv_le_natAbs num (-g)
  have htb' := Int.natAbs_tdiv_le_natAbs den (-g)
  obtain ⟨a, hca⟩ : ∃ a : Int, num.tdiv (-g) = a := ⟨_, rfl⟩
  obtain ⟨b, hcb⟩ : ∃ b : Int, den.tdiv (-g) = b := ⟨_, rfl⟩
  rw [hca] at hta' HQ
  rw [hcb] at htb' HQ
  have ha1 : -9223372036854775807 ≤ a := by omega
  have ha2 : a ≤ 9223372036854775807 := by omega
  have hb1 : -9223372036854775807 ≤ b := by omega
  have hb2 : b ≤ 9223372036854775807 := by omega
  clear hta' htb' hn hd h0
  go_enter Tryz.func173, Tryz.ntmps173
  go_wp2_with (first | (go_at_call 142; refine (HD.out _).mono ?_; rintro e w1 ⟨rfl, hb⟩; have HB := Aq.mk hb; clear hb))
  go_quiet (fail)
  clear hca hcb
  have hbx := bN_ (bB_ (heap_alloc_new w (.cells #[.int .i64 0, .int .i64 0] 166)) HB.out) nq
  have HB2 := pN_ (below_then ((Below.refl w.heap.size w).alloc (Nat.le_refl _) (.cells #[.int .i64 0, .int .i64 0] 166)) (by simp) HB.out) nq
  generalize w1.drewN nq = w2 at hbx HB2
  clear HB
  have hc0 : w2.cell? ⟨w.heap.size, 0, none⟩ = some (.int .i64 0) := (bC_ hbx 0).trans rfl
  have hc1 : w2.cell? ⟨w.heap.size, 1, none⟩ = some (.int .i64 0) := (bC_ hbx 1).trans rfl
  have hf0 := bR_ hbx 0
  have hf1 := bR_ hbx 1
  have HX := Aq.mk hbx
  have HB := Aq.mk HB2
  clear hbx HB2
  have h102 := fun W => within_any a (-1000000000000) 1000000000000 W
  cases hi : inB a (-1000000000000) 1000000000000 with
  | false =>
   simp only [hi] at h102
   have HN : Aq (normQ num den = none) := ⟨by rw [HQ.out, hi]; rfl⟩
   clear HQ hi
   go_wp2_with (go_at_call 102; refine (h102 _).mono ?_; rintro e w3 ⟨rfl, rfl⟩)
   exact ⟨rfl, by unfold NormEnd; rw [HN.out]; rfl, HB.out⟩
  | true =>
   simp only [hi] at h102
   by_cases hle : b ≤ 1000000
   ·have HN : Aq (normQ num den = some (a, b)) := ⟨by rw [HQ.out, hi]; simp [hle]⟩
    clear HQ hi
    have hlt : ¬ 1000000 < b := by omega
    clear hle
    go_wp2_with (go_at_call 102; refine (h102 _).mono ?_; rintro e w3 ⟨rfl, rfl⟩)
    refine bodyPost_ret (results_cell_row rfl _ _ w.heap.size 166 #[.int .i64 a, .int .i64 b] (0, 0) _ rfl (bP_ (bP_ HX.out 0 (.int .i64 a) rfl) 1 (.int .i64 b) rfl) Tryz.underlying166 rfl (by kernel_rfl)) rfl ?_
    exact ⟨by unfold NormEnd; rw [HN.out], bT_ (bT_ HB.out (Nat.le_refl _)) (Nat.le_refl _)⟩
   ·have HN : Aq (normQ num den = none) := ⟨by rw [HQ.out, hi]; simp [hle]⟩
    clear HQ hi
    have hlt : 1000000 < b := by omega
    clear hle
    go_wp2_with (go_at_call 102; refine (h102 _).mono ?_; rintro e w3 ⟨rfl, rfl⟩)
    exact ⟨rfl, by unfold NormEnd; rw [HN.out]; rfl, HB.out⟩
 ·have hz : ¬ g = 0 := by omega
  have HQ : Aq (normQ num den = if inB (num.tdiv g) (-1000000000000) 1000000000000 && decide (den.tdiv g ≤ 1000000) then some (num.tdiv g, den.tdiv g) else none) := ⟨by unfold normQ; simp only [HE.out, if_neg hneg]⟩
  have hta' := Int.natAbs_tdiv_le_natAbs num g
  have htb' := Int.natAbs_tdiv_le_natAbs den g
  obtain ⟨a, hca⟩ : ∃ a : Int, num.tdiv g = a := ⟨_, rfl⟩
  obtain ⟨b, hcb⟩ : ∃ b : Int, den.tdiv g = b := ⟨_, rfl⟩
  rw [hca] at hta' HQ
  rw [hcb] at htb' HQ
  have ha1 : -9223372036854775807 ≤ a := by omega
  have ha2 : a ≤ 9223372036854775807 := by omega
  have hb1 : -9223372036854775807 ≤ b := by omega
  have hb2 : b ≤ 9223372036854775807 := by omega
  clear hta' htb' hn hd h0
  go_enter Tryz.func173, Tryz.ntmps173
  go_wp2_with (first | (go_at_call 142; refine (HD.out _).mono ?_; rintro e w1 ⟨rfl, hb⟩; have HB := Aq.mk hb; clear hb))
  go_quiet (fail)
  clear hca hcb
  have hbx := bN_ (bB_ (heap_alloc_new w (.cells #[.int .i64 0, .int .i64 0] 166)) HB.out) nq
  have HB2 := pN_ (below_then ((Below.refl w.heap.size w).alloc (Nat.le_refl _) (.cells #[.int .i64 0, .int .i64 0] 166)) (by simp) HB.out) nq
  generalize w1.drewN nq = w2 at hbx HB2
  clear HB
  have hc0 : w2.cell? ⟨w.heap.size, 0, none⟩ = some (.int .i64 0) := (bC_ hbx 0).trans rfl
  have hc1 : w2.cell? ⟨w.heap.size, 1, none⟩ = some (.int .i64 0) := (bC_ hbx 1).trans rfl
  have hf0 := bR_ hbx 0
  have hf1 := bR_ hbx 1
  have HX := Aq.mk hbx
  have HB := Aq.mk HB2
  clear hbx HB2
  have h102 := fun W => within_any a (-1000000000000) 1000000000000 W
  cases hi : inB a (-1000000000000) 1000000000000 with
  | false =>
   simp only [hi] at h102
   have HN : Aq (normQ num den = none) := ⟨by rw [HQ.out, hi]; rfl⟩
   clear HQ hi
   go_wp2_with (go_at_call 102; refine (h102 _).mono ?_; rintro e w3 ⟨rfl, rfl⟩)
   exact ⟨rfl, by unfold NormEnd; rw [HN.out]; rfl, HB.out⟩
  | true =>
   simp only [hi] at h102
   by_cases hle : b ≤ 1000000
   ·have HN : Aq (normQ num den = some (a, b)) := ⟨by rw [HQ.out, hi]; simp [hle]⟩
    clear HQ hi
    have hlt : ¬ 1000000 < b := by omega
    clear hle
    go_wp2_with (go_at_call 102; refine (h102 _).mono ?_; rintro e w3 ⟨rfl, rfl⟩)
    refine bodyPost_ret (results_cell_row rfl _ _ w.heap.size 166 #[.int .i64 a, .int .i64 b] (0, 0) _ rfl (bP_ (bP_ HX.out 0 (.int .i64 a) rfl) 1 (.int .i64 b) rfl) Tryz.underlying166 rfl (by kernel_rfl)) rfl ?_
    exact ⟨by unfold NormEnd; rw [HN.out], bT_ (bT_ HB.out (Nat.le_refl _)) (Nat.le_refl _)⟩
   ·have HN : Aq (normQ num den = none) := ⟨by rw [HQ.out, hi]; simp [hle]⟩
    clear HQ hi
    have hlt : 1000000 < b := by omega
    clear hle
    go_wp2_with (go_at_call 102; refine (h102 _).mono ?_; rintro e w3 ⟨rfl, rfl⟩)
    exact ⟨rfl, by unfold NormEnd; rw [HN.out]; rfl, HB.out⟩
theorem below_grown {w W : World} (h : Below w.heap.size w W) (row : Option Nat) : w.grownBy W row := ⟨h.os, h.tape, h.output, h.size, fun i hi _ => h.block i hi⟩
set_option maxRecDepth 100000 in
set_option maxHeartbeats 1000000 in
theorem norm1_ok (num den a b : Int) (B : Nat) (W : World) (h0 : den ≠ 0) (hn : num.natAbs ≤ 9223372036854775807) (hd : den.natAbs ≤ 9223372036854775807) (hq : normQ num den = some (a, b))
  (c0 : W.cell? ⟨B, 0, none⟩ = some (.int .i64 num)) (c1 : W.cell? ⟨B + 1, 0, none⟩ = some (.int .i64 den)) (hb : W.heap[B + 1 + 1]? = some (.cells #[.int .i64 0, .int .i64 0] 24 (0, 0))) :
  Calls Tryz.prog 172 #[.pointer (some ⟨B, 0, none⟩), .pointer (some ⟨B + 1, 0, none⟩), .pointer (some ⟨B + 1 + 1, 0, none⟩)] W fun e W1 => e = .returned (.tuple #[]) ∧ W.grownBy W1 (some (B + 1 + 1)) ∧ W1.heap[B + 1 + 1]? = some (.cells #[.int .i64 a, .int .i64 b] 24 (0, 0)) := by
 have hN : Aq (Calls Tryz.prog 173 #[.int .i64 num, .int .i64 den] W fun e w' => e = .returned (.agg #[.int .i64 a, .int .i64 b]) ∧ Below W.heap.size W w') := ⟨(norm_any num den W h0 hn hd).mono fun e w' ⟨he, hB⟩ => by unfold NormEnd at he; rw [hq] at he; exact ⟨he, hB⟩⟩
 clear hq hn hd h0
 have HX := Aq.mk hb
 clear hb
 go_enter Tryz.func172, Tryz.ntmps172
 go_wp2_with (go_at_call 173; refine hN.out.mono ?_; rintro e w1 ⟨rfl, hB⟩; have hX1 := bB_ HX.out hB; have k0 : w1.cell? ⟨B + 1 + 1, 0, none⟩ = some (.int .i64 0) := (bC_ hX1 0).trans rfl; have k1 : w1.cell? ⟨B + 1 + 1, 1, none⟩ = some (.int .i64 0) := (bC_ hX1 1).trans rfl; have f0 := bR_ hX1 0; have f1 := bR_ hX1 1; have HB := Aq.mk hB; have HX1 := Aq.mk hX1; clear hB hX1)
 go_end0
 exact ⟨rfl, grown_set (grown_set (below_grown HB.out _) 0 _) 1 _, bP_ (bP_ HX1.out 0 _ rfl) 1 _ rfl⟩
set_option maxRecDepth 100000 in
set_option maxHeartbeats 1000000 in
theorem norm1_no (num den : Int) (B : Nat) (o : Obj) (W : World) (h0 : den ≠ 0) (hn : num.natAbs ≤ 9223372036854775807) (hd : den.natAbs ≤ 9223372036854775807) (hq : normQ num den = none)
  (c0 : W.cell? ⟨B, 0, none⟩ = some (.int .i64 num)) (c1 : W.cell? ⟨B + 1, 0, none⟩ = some (.int .i64 den)) (hb : W.heap[B + 1 + 1]? = some o) :
  Calls Tryz.prog 172 #[.pointer (some ⟨B, 0, none⟩), .pointer (some ⟨B + 1, 0, none⟩), .pointer (some ⟨B + 1 + 1, 0, none⟩)] W fun e W1 => e = .panicked [unrangedEntry] ∧ W.grownBy W1 (some (B + 1 + 1)) ∧ W1.heap[B + 1 + 1]? = some o := by
 have hN : Aq (Calls Tryz.prog 173 #[.int .i64 num, .int .i64 den] W fun e w' => e = .panicked [unrangedEntry] ∧ Below W.heap.size W w') := ⟨(norm_any num den W h0 hn hd).mono fun e w' ⟨he, hB⟩ => by unfold NormEnd at he; rw [hq] at he; exact ⟨he, hB⟩⟩
 clear hq hn hd h0
 have HX := Aq.mk hb
 clear hb
 go_enter Tryz.func172, Tryz.ntmps172
 go_wp2_with (go_at_call 173; refine hN.out.mono ?_; rintro e w1 ⟨rfl, hB⟩; have HB := Aq.mk hB; clear hB)
 exact ⟨rfl, rfl, below_grown HB.out _, bB_ HX.out HB.out⟩
def claim_Norm.f (num den : Int) : Option (Int × Int × Int) :=
 some (if (decide (den = 0) || !inB num (-1000000000000000) 1000000000000000 || !inB den (-1000000000000000) 1000000000000000) = true then (0, 0, 1) else match normQ num den with
  | some (a, b) => (a, b, 0)
  | none => (0, 0, 2))
set_option maxRecDepth 100000 in
set_option maxHeartbeats 2000000 in
theorem claim_Norm.calls (a0 a1 : Int) (r1 r2 r3 : Int) (w : World) (h : claim_Norm.f a0 a1 = some (r1, r2, r3)) :
  Calls Tryz.prog 137 #[.int .i64 a0, .int .i64 a1] w fun e w' => e = .returned (.tuple #[.agg #[.int .i64 r1, .int .i64 r2], .int .i64 r3]) ∧ Below w.heap.size w w' := by
 have h := Option.some.inj h
 have hmf : ∀ (fn : Fn) (first cap : Array Value) (w : World), (Instr.makeFunc fn first cap).run Tryz.prog w = .ok (.func fn first cap) w := fun _ _ _ _ => rfl
 obtain ⟨W3, hW3⟩ : ∃ W3 : World, W3 = ((w.alloc (.cells #[.int .i64 a0] 3)).alloc (.cells #[.int .i64 a1] 3)).alloc (.cells #[.int .i64 0, .int .i64 0] 24) := ⟨_, rfl⟩
 have hb3 : W3.heap.size = w.heap.size + 3 := by rw [hW3]; simp
 have x0 : W3.heap[w.heap.size]? = some (.cells #[.int .i64 a0] 3 (0, 0)) := by rw [hW3]; exact bL_ (bL_ (heap_alloc_new w _) _) _
 have x1 : W3.heap[w.heap.size + 1]? = some (.cells #[.int .i64 a1] 3 (0, 0)) := by rw [hW3]; have := bL_ (heap_alloc_new (w.alloc (.cells #[.int .i64 a0] 3)) (.cells #[.int .i64 a1] 3)) (.cells #[.int .i64 0, .int .i64 0] 24); simpa using this
 have x2 : W3.heap[w.heap.size + 1 + 1]? = some (.cells #[.int .i64 0, .int .i64 0] 24 (0, 0)) := by rw [hW3]; have := heap_alloc_new ((w.alloc (.cells #[.int .i64 a0] 3)).alloc (.cells #[.int .i64 a1] 3)) (.cells #[.int .i64 0, .int .i64 0] 24); simpa using this
 have HB3 : Aq (Below w.heap.size w W3) := ⟨by rw [hW3]; exact bA_ (bA_ (bA_ (Below.refl _ _) _) _) _⟩
 have hW4 : ∀ w4, W3.grownBy w4 (some (w.heap.size + 1 + 1)) → Below w.heap.size w w4 := fun w4 hg => pw_below_grown HB3.out _ (by omega) hg (fun k hk => by injection hk with hk; omega)
 have eg := enters_of Tryz.func172 (by kernel_rfl) rfl
 have hin : ∀ W, Below W3.heap.size W3 W → W.cell? ⟨w.heap.size, 0, none⟩ = some (.int .i64 a0) ∧ W.cell? ⟨w.heap.size + 1, 0, none⟩ = some (.int .i64 a1) ∧ W.heap[w.heap.size + 1 + 1]? = some (.cells #[.int .i64 0, .int .i64 0] 24 (0, 0)) := fun W hb =>
  ⟨(bC_ (bB_ x0 hb) 0).trans rfl, (bC_ (bB_ x1 hb) 0).trans rfl, bB_ x2 hb⟩
 have HW3 := Aq.mk hW3
 have HX2 := Aq.mk x2
 clear hW3 x0 x1 x2
 by_cases h0 : a1 = 0
 ·rw [if_pos (by simp [h0])] at h
  have h0' : (a1 == 0) = true := beq_iff_eq.mpr h0
  simp only [Prod.mk.injEq] at h
  obtain ⟨rfl, rfl, rfl⟩ := h
  clear hin hW4 h0 eg
  go_enter Tryz.func137, Tryz.ntmps137
  go_wp2_with fail
  refine bodyPost_ret (results_ct rfl _ _ (w.heap.size + 1 + 1) 24 #[.int .i64 0, .int .i64 0] (0, 0) _ rfl (by first | (rw [← HW3.out]; exact HX2.out) | (rw [← HW3.out]; exact bP_ (bP_ HX2.out 0 (.int .i64 0) rfl) 1 (.int .i64 0) rfl)) Tryz.underlying24 rfl (by kernel_rfl)) rfl ?_
  exact ⟨rfl, by first | (rw [← HW3.out]; exact HB3.out) | (rw [← HW3.out]; exact bT_ (bT_ HB3.out (by omega)) (by omega))⟩
 have h0' : (a1 == 0) = false := beq_eq_false_iff_ne.mpr h0
 have hn1 := fun W => within_any a0 (-1000000000000000) 1000000000000000 W
 have hd1 := fun W => within_any a1 (-1000000000000000) 1000000000000000 W
 cases hi1 : inB a0 (-1000000000000000) 1000000000000000 with
 | false =>
  rw [if_pos (by simp [hi1])] at h
  simp only [hi1] at hn1
  simp only [Prod.mk.injEq] at h
  obtain ⟨rfl, rfl, rfl⟩ := h
  clear hin hW4 h0 eg hd1 hi1
  go_enter Tryz.func137, Tryz.ntmps137
  go_wp2_with (go_at_call 102; refine (hn1 _).mono ?_; rintro e w4 ⟨rfl, rfl⟩)
  refine bodyPost_ret (results_ct rfl _ _ (w.heap.size + 1 + 1) 24 #[.int .i64 0, .int .i64 0] (0, 0) _ rfl (by first | (rw [← HW3.out]; exact HX2.out) | (rw [← HW3.out]; exact bP_ (bP_ HX2.out 0 (.int .i64 0) rfl) 1 (.int .i64 0) rfl)) Tryz.underlying24 rfl (by kernel_rfl)) rfl ?_
  exact ⟨rfl, by first | (rw [← HW3.out]; exact HB3.out) | (rw [← HW3.out]; exact bT_ (bT_ HB3.out (by omega)) (by omega))⟩
 | true =>
 cases hi2 : inB a1 (-1000000000000000) 1000000000000000 with
 | false =>
  rw [if_pos (by simp [hi1, hi2])] at h
  simp only [hi1] at hn1
  simp only [hi2] at hd1
  simp only [Prod.mk.injEq] at h
  obtain ⟨rfl, rfl, rfl⟩ := h
  clear hin hW4 h0 eg hi1 hi2
  go_enter Tryz.func137, Tryz.ntmps137
  go_wp2_with (first | (go_at_call 102; (with_reducible refine (hn1 _).mono ?_); rintro e w4 ⟨rfl, rfl⟩) | (go_at_call 102; (with_reducible refine (hd1 _).mono ?_); rintro e w4 ⟨rfl, rfl⟩))
  refine bodyPost_ret (results_ct rfl _ _ (w.heap.size + 1 + 1) 24 #[.int .i64 0, .int .i64 0] (0, 0) _ rfl (by first | (rw [← HW3.out]; exact HX2.out) | (rw [← HW3.out]; exact bP_ (bP_ HX2.out 0 (.int .i64 0) rfl) 1 (.int .i64 0) rfl)) Tryz.underlying24 rfl (by kernel_rfl)) rfl ?_
  exact ⟨rfl, by first | (rw [← HW3.out]; exact HB3.out) | (rw [← HW3.out]; exact bT_ (bT_ HB3.out (by omega)) (by omega))⟩
 | true =>
  rw [if_neg (by simp [hi1, hi2, h0])] at h
  simp only [hi1] at hn1
  simp only [hi2] at hd1
  obtain ⟨q1, q2⟩ := inB_iff.1 hi1
  obtain ⟨q3, q4⟩ := inB_iff.1 hi2
  cases hq : normQ a0 a1 with
  | none =>
  rw [hq] at h
  simp only [Prod.mk.injEq] at h
  obtain ⟨rfl, rfl, rfl⟩ := h
  have HR : Aq (Calls Tryz.prog 143 #[.func (.func 172) #[] #[.pointer (some ⟨w.heap.size, 0, none⟩), .pointer (some ⟨w.heap.size + 1, 0, none⟩), .pointer (some ⟨w.heap.size + 1 + 1, 0, none⟩)]] (((w.alloc (.cells #[.int .i64 a0] 3)).alloc (.cells #[.int .i64 a1] 3)).alloc (.cells #[.int .i64 0, .int .i64 0] 24)) fun e w' => e = .returned (.int .i64 2) ∧ Below w.heap.size w w' ∧ w'.heap[w.heap.size + 1 + 1]? = some (.cells #[.int .i64 0, .int .i64 0] 24 (0, 0))) := ⟨by
   rw [← HW3.out]
   exact (ranged_no 172 _ (w.heap.size + 1 + 1) _ W3 eg (by omega) (fun W hb => by
    obtain ⟨q0, q1, q2⟩ := hin W hb
    exact norm1_no a0 a1 _ _ W h0 (by omega) (by omega) hq q0 q1 q2)).mono fun e w' ⟨he, hg, ho⟩ => ⟨he, hW4 _ hg, ho⟩⟩
  clear hin hW4 hb3 HB3 HW3 HX2 eg hq hi1 hi2
  go_enter Tryz.func137, Tryz.ntmps137
  go_wp2_with (first | (go_at_call 102; (with_reducible refine (hn1 _).mono ?_); rintro e w4 ⟨rfl, rfl⟩) | (go_at_call 102; (with_reducible refine (hd1 _).mono ?_); rintro e w4 ⟨rfl, rfl⟩) | (go_at_call 143; refine HR.out.mono ?_; rintro e w4 ⟨rfl, hB, hx⟩; have k0 : w4.cell? ⟨w.heap.size + 1 + 1, 0, none⟩ = some (.int .i64 0) := (bC_ hx 0).trans rfl; have k1 : w4.cell? ⟨w.heap.size + 1 + 1, 1, none⟩ = some (.int .i64 0) := (bC_ hx 1).trans rfl; have f0 := bR_ hx 0; have f1 := bR_ hx 1; have HB := Aq.mk hB; have HX := Aq.mk hx; clear hB hx))
  refine bodyPost_ret (results_ct rfl _ _ (w.heap.size + 1 + 1) 24 #[.int .i64 0, .int .i64 0] (0, 0) _ rfl (bP_ (bP_ HX.out 0 _ rfl) 1 _ rfl) Tryz.underlying24 rfl (by kernel_rfl)) rfl ?_
  exact ⟨rfl, bT_ (bT_ HB.out (by omega)) (by omega)⟩
  | some ab =>
  obtain ⟨a, b⟩ := ab
  rw [hq] at h
  simp only [Prod.mk.injEq] at h
  obtain ⟨rfl, rfl, rfl⟩ := h
  have HR : Aq (Calls Tryz.prog 143 #[.func (.func 172) #[] #[.pointer (some ⟨w.heap.size, 0, none⟩), .pointer (some ⟨w.heap.size + 1, 0, none⟩), .pointer (some ⟨w.heap.size + 1 + 1, 0, none⟩)]] (((w.alloc (.cells #[.int .i64 a0] 3)).alloc (.cells #[.int .i64 a1] 3)).alloc (.cells #[.int .i64 0, .int .i64 0] 24)) fun e w' => e = .returned (.int .i64 0) ∧ Below w.heap.size w w' ∧ w'.heap[w.heap.size + 1 + 1]? = some (.cells #[.int .i64 a, .int .i64 b] 24 (0, 0))) := ⟨by
   rw [← HW3.out]
   exact (ranged_ok 172 _ (w.heap.size + 1 + 1) _ W3 eg (by omega) (fun W hb => by
    obtain ⟨q0, q1, q2⟩ := hin W hb
    exact norm1_ok a0 a1 a b _ W h0 (by omega) (by omega) hq q0 q1 q2)).mono fun e w' ⟨he, hg, ho⟩ => ⟨he, hW4 _ hg, ho⟩⟩
  clear hin hW4 hb3 HB3 HW3 HX2 eg hq hi1 hi2
  go_enter Tryz.func137, Tryz.ntmps137
  go_wp2_with (first | (go_at_call 102; (with_reducible refine (hn1 _).mono ?_); rintro e w4 ⟨rfl, rfl⟩) | (go_at_call 102; (with_reducible refine (hd1 _).mono ?_); rintro e w4 ⟨rfl, rfl⟩) | (go_at_call 143; refine HR.out.mono ?_; rintro e w4 ⟨rfl, hB, hx⟩; have k0 : w4.cell? ⟨w.heap.size + 1 + 1, 0, none⟩ = some (.int .i64 a) := (bC_ hx 0).trans rfl; have k1 : w4.cell? ⟨w.heap.size + 1 + 1, 1, none⟩ = some (.int .i64 b) := (bC_ hx 1).trans rfl; have f0 := bR_ hx 0; have f1 := bR_ hx 1; have HB := Aq.mk hB; have HX := Aq.mk hx; clear hB hx))
  refine bodyPost_ret (results_ct rfl _ _ (w.heap.size + 1 + 1) 24 #[.int .i64 a, .int .i64 b] (0, 0) _ rfl (bP_ (bP_ HX.out 0 _ rfl) 1 _ rfl) Tryz.underlying24 rfl (by kernel_rfl)) rfl ?_
  exact ⟨rfl, bT_ (bT_ HB.out (by omega)) (by omega)⟩
end
section
open Go.Shelf
set_option maxRecDepth 100000 in
set_option maxHeartbeats 2000000 in
theorem index_byte (g : Nat) (lb : Array Value) (p : Int → Bool) (A : Option Addr) (c : Nat) (l : List Int) (w : World)
  (eg : ∀ args w, (callFunc g args).run Tryz.prog w = .ok (.enter g args) w)
  (hp : ∀ (W : World) (x : Int), x ∈ l → Below w.heap.size w W → Calls Tryz.prog g (#[.int .u8 x] ++ lb) W fun e W' => e = .returned (.bool (p x)) ∧ Below w.heap.size w W')
  (hr : Kd.C (Kd.int .u8) w A l.length l) :
  Calls Tryz.prog 171 #[.slice A l.length c, .func (.func g) #[] lb] w fun e w' => e = .returned (.int .i64 (idxOf p l)) ∧ Below w.heap.size w w' := by
 have hm : l.length ≤ 9223372036854775807 := hr.2.1
 have HR := Aq.mk hr
 have HP := Aq.mk hp
 clear hr hp
 go_enter Tryz.func171, Tryz.ntmps171
 go_wp2
 go_loopg [5, 8] l.length (fun gg _ s8 wr => ∃ kk : Nat, kk ≤ l.length ∧ l.length - kk ≤ gg ∧ s8 = .int .i64 kk ∧ Aq (Below w.heap.size w wr) ∧ Aq (idxOf p l = shifted kk (idxOf p (l.drop kk))))
 case atStart => exact ⟨0, Nat.zero_le _, by omega, rfl, ⟨Below.refl _ w⟩, ⟨shifted_start p l⟩⟩
 case round =>
  obtain ⟨kk, hkk, hg, rfl, BW, A0⟩ := hrel
  by_cases hlt : kk < l.length
  ·have hltz : (kk : Int) < (l.length : Int) := by omega
   have h0 : (0 : Int) ≤ (kk : Int) := by omega
   obtain ⟨ad, e_, hx0⟩ := at_int HR.out (kk : Int) h0 hltz
   cases e_
   obtain ⟨HX, HD⟩ := rd_drop l kk hlt
   generalize rd l (kk : Int) = X at hx0 HX HD
   replace hx0 := (BW.out.cell (World.block_lt_of_cell? w _ hx0)).trans hx0
   simp only [Int.toNat_natCast] at hx0
   have hcall := HP.out wr X (by exact HX) BW.out
   have hd : l.drop kk = X :: l.drop (kk + 1) := HD
   cases hq : p X with
   | true =>
    rw [hq] at hcall
    have HF : Aq (idxOf p l = kk) := ⟨by rw [A0.out, hd, idxOf_yes hq]; simp [shifted]⟩
    clear hd A0 HX HD
    go_wp2_with (go_at_fn g; refine hcall.mono ?_; rintro e w' ⟨rfl, hb'⟩)
    go_ret
    exact ⟨by rw [HF.out]; rfl, hb'⟩
   | false =>
    rw [hq] at hcall
    have HF : Aq (idxOf p l = shifted (kk + 1) (idxOf p (l.drop (kk + 1)))) := ⟨by rw [A0.out, hd, idxOf_no hq, shifted_shifted]⟩
    clear hd A0 HX HD
    go_wp2_with (go_at_fn g; refine hcall.mono ?_; rintro e w' ⟨rfl, hb'⟩)
    go_roundg (l.length - (kk + 1))
    case measure => omega
    case rel => exact ⟨kk + 1, by omega, by omega, by go_num, ⟨hb'⟩, HF⟩
  ·have hltz : ¬ (kk : Int) < (l.length : Int) := by omega
   have HF : Aq (idxOf p l = -1) := ⟨by rw [A0.out, List.drop_eq_nil_of_le (by omega)]; rfl⟩
   clear A0
   go_wp2
   go_ret
   exact ⟨by rw [HF.out]; rfl, BW.out⟩
theorem contains_byte (g : Nat) (lb : Array Value) (p : Int → Bool) (A : Option Addr) (c : Nat) (l : List Int) (w : World)
  (eg : ∀ args w, (callFunc g args).run Tryz.prog w = .ok (.enter g args) w)
  (hp : ∀ (W : World) (x : Int), x ∈ l → Below w.heap.size w W → Calls Tryz.prog g (#[.int .u8 x] ++ lb) W fun e W' => e = .returned (.bool (p x)) ∧ Below w.heap.size w W')
  (hr : Kd.C (Kd.int .u8) w A l.length l) :
  Calls Tryz.prog 135 #[.slice A l.length c, .func (.func g) #[] lb] w fun e w' => e = .returned (.bool (l.any p)) ∧ Below w.heap.size w w' := by
 have HI := Aq.mk (index_byte g lb p A c l w eg hp hr)
 have HA := Aq.mk (idxOf_any p l)
 clear hp hr eg
 generalize idxOf p l = n at HI HA
 generalize l.any p = b at HA
 go_enter Tryz.func135, Tryz.ntmps135
 go_wp2_with (go_at_call 171; refine HI.out.mono ?_; rintro e w' ⟨rfl, hb'⟩)
 go_ret
 exact ⟨by rw [HA.out]; rfl, hb'⟩
end
section
open Go.Shelf Go.Lib
def badByte (c : Int) : Bool := !inB c 97 122 && !inB c 48 57 && !(c == 45)
def nameB (s : ByteArray) : Bool := inB s.size 1 24 && (inB (bt s 0) 97 122 && !((bytesOf s).any badByte))
def award_isName.f (s : ByteArray) : Option Bool := some (nameB s)
theorem isName1 (x : Int) (W : World) : Calls Tryz.prog 136 #[.int .u8 x] W fun e W' => e = .returned (.bool (badByte x)) ∧ W = W' := by
 by_cases h1 : x < 97
 ·by_cases h3 : x < 48
  ·by_cases h5 : x = 45
   ·have e : badByte x = false := by unfold badByte; subst h5; rfl
    rw [e]; clear e
    have h5' : (x != 45) = false := by simpa using h5
    clear h5
    go_enter Tryz.func136, Tryz.ntmps136
    go_wp2
    go_ret
    exact ⟨rfl, rfl⟩
   ·have e : badByte x = true := by unfold badByte; rw [inB_not.2 (by omega), inB_not.2 (by omega)]; simp [h5]
    rw [e]; clear e
    have h5' : (x != 45) = true := by simpa using h5
    clear h5
    go_enter Tryz.func136, Tryz.ntmps136
    go_wp2
    go_ret
    exact ⟨rfl, rfl⟩
  ·by_cases h4 : 57 < x
   ·have e : badByte x = true := by unfold badByte; rw [inB_not.2 (by omega), inB_not.2 (by omega)]; simp; omega
    rw [e]; clear e
    have h5' : (x != 45) = true := by simp; omega
    go_enter Tryz.func136, Tryz.ntmps136
    go_wp2
    go_ret
    exact ⟨rfl, rfl⟩
   ·have e : badByte x = false := by unfold badByte; rw [inB_not.2 (by omega), inB_iff.2 (by omega)]; rfl
    rw [e]; clear e
    go_enter Tryz.func136, Tryz.ntmps136
    go_wp2
    go_ret
    exact ⟨rfl, rfl⟩
 ·by_cases h2 : 122 < x
  ·have e : badByte x = true := by unfold badByte; rw [inB_not.2 (by omega), inB_not.2 (by omega)]; simp; omega
   rw [e]; clear e
   have h3 : ¬ x < 48 := by omega
   have h4 : 57 < x := by omega
   have h5' : (x != 45) = true := by simp; omega
   go_enter Tryz.func136, Tryz.ntmps136
   go_wp2
   go_ret
   exact ⟨rfl, rfl⟩
  ·have e : badByte x = false := by unfold badByte; rw [inB_iff.2 (by omega)]; rfl
   rw [e]; clear e
   go_enter Tryz.func136, Tryz.ntmps136
   go_wp2
   go_ret
   exact ⟨rfl, rfl⟩
theorem reads_bytes (w : World) (s : ByteArray) (hs : s.size ≤ 9223372036854775807) : Kd.C (Kd.int .u8) (bytesWorld w 5 s) (some ⟨w.heap.size, 0, none⟩) s.size (bytesOf s) := by
 refine ⟨bytesOf_length s, hs, fun h0 => ⟨_, rfl, fun j p hj => ⟨[.int .u8 p], rfl, rfl, fun i u hu => ?_⟩⟩⟩
 have hjl : j < s.size := by rw [← bytesOf_length s]; exact (List.getElem?_eq_some_iff.1 hj).1
 match i, hu with
 | 0, hu =>
  injection hu with hu
  subst hu
  have hs1 : (Kd.int IntKind.u8).sz = 1 := rfl
  rw [hs1, Nat.mul_one, Nat.add_zero, add_plain, bytesWorld_cell w 5 s j hjl]
  congr 2
  unfold bytesOf at hj
  rw [List.getElem?_map] at hj
  have hj2 : j < s.data.toList.length := by rw [data_length]; exact hjl
  rw [List.getElem?_eq_getElem hj2] at hj
  rw [List.getD_eq_getElem?_getD, List.getElem?_eq_getElem hj2]
  simpa using hj
theorem below_bytes (w : World) (s : ByteArray) : Below w.heap.size w (bytesWorld w 5 s) :=
 ⟨rfl, rfl, rfl, by rw [bytesWorld_size]; omega, fun i hi => bytesWorld_at_old w 5 s i hi⟩
set_option maxRecDepth 100000 in
set_option maxHeartbeats 1000000 in
theorem award_isName.calls (a0 : ByteArray) (r : Bool) (w : World) (h : award_isName.f a0 = some r) :
  Calls Tryz.prog 96 #[.string a0] w fun e w' => e = .returned (.bool r) ∧ Below w.heap.size w w' := by
 obtain rfl := Option.some.inj h
 clear h
 have hcv := fun (W : World) => Lib.run_convert_string_bytes (P := Tryz.prog) W 9 162 5 a0 Tryz.underlying9 Tryz.underlying162 Tryz.underlying5
 cases hi : inB (a0.size : Int) 1 24 with
 | false =>
  have e : nameB a0 = false := by unfold nameB; rw [hi]; rfl
  rw [e]; clear e
  have h66 := fun w => in_any (a0.size : Int) 1 24 w
  simp only [hi] at h66
  clear hi hcv
  go_enter Tryz.func96, Tryz.ntmps96
  go_wp2_with (go_at_call 66; refine (h66 _).mono ?_; rintro e w' ⟨rfl, rfl⟩)
  go_ret
  exact ⟨rfl, Below.refl _ _⟩
 | true =>
  obtain ⟨hs1, hs2⟩ := inB_iff.1 hi
  have hs : 0 < a0.size := by omega
  have hb0 : ((a0[0]'hs).toNat : Int) = bt a0 0 := bt_at a0 0 hs
  have hN : nameB a0 = (inB (bt a0 0) 97 122 && !((bytesOf a0).any badByte)) := by unfold nameB; rw [hi]; rfl
  rw [hN]; clear hN
  have h66 := fun w => in_any (a0.size : Int) 1 24 w
  simp only [hi] at h66
  clear hi
  have hC : Aq (∀ W : World, Calls Tryz.prog 135 #[.slice (some ⟨W.heap.size, 0, none⟩) a0.size (grownCap W a0.size 0 5), .func (.func 136) #[] #[]] (bytesWorld W 5 a0) fun e w' => e = .returned (.bool ((bytesOf a0).any badByte)) ∧ Below W.heap.size W w') := ⟨fun W => by
   have hC := contains_byte 136 #[] badByte (some ⟨W.heap.size, 0, none⟩) (grownCap W a0.size 0 5) (bytesOf a0) (bytesWorld W 5 a0) (enters_of Tryz.func136 (by kernel_rfl) rfl)
    (fun W2 x _ hb2 => (isName1 x W2).mono fun e W' ⟨he, hw⟩ => by subst hw; exact ⟨he, hb2⟩) (by rw [bytesOf_length]; exact reads_bytes W a0 (by omega))
   rw [bytesOf_length] at hC
   exact hC.mono fun e w' ⟨he, hb⟩ => ⟨he, (below_bytes W a0).trans (hb.mono (by rw [bytesWorld_size]; omega))⟩⟩
  generalize (bytesOf a0).any badByte = q at hC
  cases h2 : inB (bt a0 0) 97 122 with
  | true =>
   obtain ⟨h3, h4⟩ := inB_iff.1 h2
   rw [← hb0] at h3 h4
   clear hb0 h2
   go_enter Tryz.func96, Tryz.ntmps96
   go_wp2_with (first | (go_at_call 66; refine (h66 _).mono ?_; rintro e w' ⟨rfl, rfl⟩) | (go_at_call 135; refine (hC.out _).mono ?_; rintro e w' ⟨rfl, hb⟩))
   go_ret
   exact ⟨by simp, hb⟩
  | false =>
   have h3 := inB_not.1 h2
   rw [← hb0] at h3
   clear hb0 h2
   rcases h3 with h3 | h3
   ·clear hC hcv
    go_enter Tryz.func96, Tryz.ntmps96
    go_wp2_with (first | (go_at_call 66; refine (h66 _).mono ?_; rintro e w' ⟨rfl, rfl⟩))
    go_ret
    exact ⟨by simp, Below.refl _ _⟩
   ·clear hC hcv
    have h5 : ¬ ((a0[0]'hs).toNat : Int) < 97 := by omega
    go_enter Tryz.func96, Tryz.ntmps96
    go_wp2_with (first | (go_at_call 66; refine (h66 _).mono ?_; rintro e w' ⟨rfl, rfl⟩))
    go_ret
    exact ⟨by simp, Below.refl _ _⟩
end
section
attribute [local go_sem] max2_int min2_int max_two min_two max_three min_three max_four min_four
def award_in.f (a0 : Int) (a1 : Int) (a2 : Int) : Option (Bool) := if a0 ≥ a1 then (some (decide (a0 ≤ a2))) else (some false)
set_option maxHeartbeats 8000000 in
set_option maxRecDepth 100000 in
theorem award_in.calls (a0 : Int) (a1 : Int) (a2 : Int) (r : Bool) (w : World) (h : award_in.f a0 a1 a2 = some r) :
  Calls Tryz.prog 66 #[.int .i64 a0, .int .i64 a1, .int .i64 a2] w fun e w' => e = .returned (.bool r) ∧ Drawn0 w w' := by
 have H : (if a0 ≥ a1 then (some (decide (a0 ≤ a2))) else (some false)) = some r := h
 clear h
 replace H := oI H; rcases H with ⟨c4, H⟩ | ⟨c4, H⟩
 ·have c4b0 : decide (a1 ≤ a0) = true := decide_eq_true c4
  clear c4
  obtain rfl := Option.some.inj H
  go_enter Tryz.func66, Tryz.ntmps66
  go_wp2
  go_ret
  exact ⟨by first | rfl | (simp; done) | (simp [*]; done), by repeat (first | exact Drawn0.refl _ | apply Drawn0.step)⟩
 ·have c4b0 : decide (a1 ≤ a0) = false := decide_eq_false c4
  clear c4
  obtain rfl := Option.some.inj H
  go_enter Tryz.func66, Tryz.ntmps66
  go_wp2
  go_ret
  exact ⟨by first | rfl | (simp; done) | (simp [*]; done), by repeat (first | exact Drawn0.refl _ | apply Drawn0.step)⟩
end
section
attribute [local go_sem] max2_int min2_int max_two min_two max_three min_three max_four min_four
theorem eqA24 (d : Nat) (w : World) (x0 y0 : Int) (x1 y1 : Int) :
  (Op.equalIn (d + 2) 24 (.agg #[.int .i64 x0, .int .i64 x1]) (.agg #[.int .i64 y0, .int .i64 y1])).run Tryz.prog w = .ok (x0 == y0 && (x1 == y1)) w := by
 refine eqA_of Tryz.underlying24 (by kernel_rfl) ?_
 refine eqf_cons (by rfl) (by go_simp; rfl) (by go_simp; rfl) (by go_simp) ?_
 exact eqf_last (by rfl) (by go_simp; rfl) (by go_simp; rfl) (by go_simp)
end
section
attribute [local go_sem] max2_int min2_int max_two min_two max_three min_three max_four min_four
attribute [local go_sem high] eqA24
def award_isPart.f (a0_0 : Int) (a0_1 : Int) : Option (Bool) := (claim_Norm.f a0_0 a0_1).bind fun bt175 => (if bt175.2.2 = 0 then (if (a0_0 == bt175.1 && (a0_1 == bt175.2.1)) = true then ((award_in.f a0_0 0 a0_1).bind fun t179 => (some t179)) else (some false)) else (some false))
set_option maxHeartbeats 8000000 in
set_option maxRecDepth 100000 in
theorem award_isPart.calls (a0_0 : Int) (a0_1 : Int) (r : Bool) (w : World) (h : award_isPart.f a0_0 a0_1 = some r) :
  Calls Tryz.prog 97 #[.agg #[.int .i64 a0_0, .int .i64 a0_1]] w fun e w' => e = .returned (.bool r) ∧ Below w.heap.size w w' := by
 have hu24 := Tryz.underlying24
 have HB := Aq.mk (Below.refl w.heap.size w)
 have H : ((claim_Norm.f a0_0 a0_1).bind fun bt175 => (if bt175.2.2 = 0 then (if (a0_0 == bt175.1 && (a0_1 == bt175.2.1)) = true then ((award_in.f a0_0 0 a0_1).bind fun t179 => (some t179)) else (some false)) else (some false))) = some r := h
 clear h
 replace H := oB H; obtain ⟨⟨t175, t176, t177⟩, A2, H⟩ := H
 dsimp only at H
 replace H := oI H; rcases H with ⟨c3, H⟩ | ⟨c3, H⟩
 ·have c3b0 := bT c3
  have c3b1 := bN c3
  clear c3
  replace H := oI H; rcases H with ⟨c4, H⟩ | ⟨c4, H⟩
  ·have c4b0 : (a0_0 == t175 && (a0_1 == t176)) = true := c4
   (try (have c4b1 : decide (a0_0 = t175 && (a0_1 == t176)) = true := by simpa using c4))
   (try (have c4b2 : (a0_0 == t175 && (a0_1 == t176)) = true := by simpa using c4))
   clear c4
   replace H := oB H; obtain ⟨t179, A5, H⟩ := H
   obtain rfl := Option.some.inj H
   go_enter Tryz.func97, Tryz.ntmps97
   go_wp2_with (first | ((with_reducible refine gD_ (N := 1) rfl ?_); refine bxE (N := 1) #[.int .i64 a0_0, .int .i64 a0_1] 24 ?_; intro gb174 hg w6 hbox hb; have BK174 := Aq.mk hbox; have GW174 := yS HB hg; have GE174 := yS HB hg; replace HB := yB HB hb; clear hb hbox hg; obtain ⟨hcz7_0, hcz7_1, hfz7_0, hfz7_1⟩ := cf2 BK174.out) | ((with_reducible refine gD_ (N := 10) rfl ?_); refine gX 10 rfl #[.int .i64 a0_0, .int .i64 a0_1] (claim_Norm.calls a0_0 a0_1 t175 t176 t177 _ A2.out) ?_; intro w8 hb; replace BK174 := Aq.mk (bB_ (g := gb174) (o := .cells #[.int .i64 a0_0, .int .i64 a0_1] 24 (0, 0)) (sK BK174.out) hb); replace HB := yB HB hb; try clear hb) | ((with_reducible refine gD_ (N := 3) rfl ?_); refine bxE (N := 3) #[.int .i64 0, .int .i64 0] 24 ?_; intro gb178 hg w9 hbox hb; have BK178 := Aq.mk hbox; have GW178 := yS HB hg; have GE178 := yS HB hg; have NB174_178 := Aq.mk ((by rw [hg]; exact Nat.ne_of_lt (blk_lt (g := gb174) (o := .cells #[.int .i64 a0_0, .int .i64 a0_1] 24 (0, 0)) (sK BK174.out)) : gb174 ≠ gb178)); have NB178_174 := Aq.mk ((by rw [hg]; exact Nat.ne_of_gt (blk_lt (g := gb174) (o := .cells #[.int .i64 a0_0, .int .i64 a0_1] 24 (0, 0)) (sK BK174.out)) : gb178 ≠ gb174)); replace BK174 := Aq.mk (bB_ (g := gb174) (o := .cells #[.int .i64 a0_0, .int .i64 a0_1] 24 (0, 0)) (sK BK174.out) hb); replace HB := yB HB hb; clear hb hbox hg; have hnb10 := NB178_174.out; have hnc10 := NB174_178.out; obtain ⟨hcz11_0, hcz11_1, hfz11_0, hfz11_1⟩ := cf2 BK178.out; obtain ⟨hcz12_0, hcz12_1, hfz12_0, hfz12_1⟩ := cf2 BK174.out) | (go_at_call 66; (with_reducible refine cY (award_in.calls a0_0 0 a0_1 t179 _ A5.out) ?_); intro nd))
   go_ret
   exact ⟨sE, sB HB.out⟩
  ·have c4b0 : (a0_0 == t175 && (a0_1 == t176)) = false := by simpa using c4
   (try (have c4b1 : decide (a0_0 = t175 && (a0_1 == t176)) = false := by simpa using c4))
   (try (have c4b2 : (a0_0 == t175 && (a0_1 == t176)) = false := by simpa using c4))
   (try (have c4b3 : ¬ (a0_0 = t175 && (a0_1 == t176)) := by simpa using c4))
   clear c4
   obtain rfl := Option.some.inj H
   go_enter Tryz.func97, Tryz.ntmps97
   go_wp2_with (first | ((with_reducible refine gD_ (N := 1) rfl ?_); refine bxE (N := 1) #[.int .i64 a0_0, .int .i64 a0_1] 24 ?_; intro gb174 hg w13 hbox hb; have BK174 := Aq.mk hbox; have GW174 := yS HB hg; have GE174 := yS HB hg; replace HB := yB HB hb; clear hb hbox hg; obtain ⟨hcz14_0, hcz14_1, hfz14_0, hfz14_1⟩ := cf2 BK174.out) | ((with_reducible refine gD_ (N := 10) rfl ?_); refine gX 10 rfl #[.int .i64 a0_0, .int .i64 a0_1] (claim_Norm.calls a0_0 a0_1 t175 t176 t177 _ A2.out) ?_; intro w15 hb; replace BK174 := Aq.mk (bB_ (g := gb174) (o := .cells #[.int .i64 a0_0, .int .i64 a0_1] 24 (0, 0)) (sK BK174.out) hb); replace HB := yB HB hb; try clear hb) | ((with_reducible refine gD_ (N := 3) rfl ?_); refine bxE (N := 3) #[.int .i64 0, .int .i64 0] 24 ?_; intro gb178 hg w16 hbox hb; have BK178 := Aq.mk hbox; have GW178 := yS HB hg; have GE178 := yS HB hg; have NB174_178 := Aq.mk ((by rw [hg]; exact Nat.ne_of_lt (blk_lt (g := gb174) (o := .cells #[.int .i64 a0_0, .int .i64 a0_1] 24 (0, 0)) (sK BK174.out)) : gb174 ≠ gb178)); have NB178_174 := Aq.mk ((by rw [hg]; exact Nat.ne_of_gt (blk_lt (g := gb174) (o := .cells #[.int .i64 a0_0, .int .i64 a0_1] 24 (0, 0)) (sK BK174.out)) : gb178 ≠ gb174)); replace BK174 := Aq.mk (bB_ (g := gb174) (o := .cells #[.int .i64 a0_0, .int .i64 a0_1] 24 (0, 0)) (sK BK174.out) hb); replace HB := yB HB hb; clear hb hbox hg; have hnb17 := NB178_174.out; have hnc17 := NB174_178.out; obtain ⟨hcz18_0, hcz18_1, hfz18_0, hfz18_1⟩ := cf2 BK178.out; obtain ⟨hcz19_0, hcz19_1, hfz19_0, hfz19_1⟩ := cf2 BK174.out))
   go_ret
   exact ⟨sE, sB HB.out⟩
 ·have c3b0 := bF c3
  have c3b1 := bM c3
  obtain rfl := Option.some.inj H
  go_enter Tryz.func97, Tryz.ntmps97
  go_wp2_with (first | ((with_reducible refine gD_ (N := 1) rfl ?_); refine bxE (N := 1) #[.int .i64 a0_0, .int .i64 a0_1] 24 ?_; intro gb174 hg w20 hbox hb; have BK174 := Aq.mk hbox; have GW174 := yS HB hg; have GE174 := yS HB hg; replace HB := yB HB hb; clear hb hbox hg; obtain ⟨hcz21_0, hcz21_1, hfz21_0, hfz21_1⟩ := cf2 BK174.out) | ((with_reducible refine gD_ (N := 10) rfl ?_); refine gX 10 rfl #[.int .i64 a0_0, .int .i64 a0_1] (claim_Norm.calls a0_0 a0_1 t175 t176 t177 _ A2.out) ?_; intro w22 hb; replace BK174 := Aq.mk (bB_ (g := gb174) (o := .cells #[.int .i64 a0_0, .int .i64 a0_1] 24 (0, 0)) (sK BK174.out) hb); replace HB := yB HB hb; try clear hb) | ((with_reducible refine gD_ (N := 3) rfl ?_); refine bxE (N := 3) #[.int .i64 0, .int .i64 0] 24 ?_; intro gb178 hg w23 hbox hb; have BK178 := Aq.mk hbox; have GW178 := yS HB hg; have GE178 := yS HB hg; have NB174_178 := Aq.mk ((by rw [hg]; exact Nat.ne_of_lt (blk_lt (g := gb174) (o := .cells #[.int .i64 a0_0, .int .i64 a0_1] 24 (0, 0)) (sK BK174.out)) : gb174 ≠ gb178)); have NB178_174 := Aq.mk ((by rw [hg]; exact Nat.ne_of_gt (blk_lt (g := gb174) (o := .cells #[.int .i64 a0_0, .int .i64 a0_1] 24 (0, 0)) (sK BK174.out)) : gb178 ≠ gb174)); replace BK174 := Aq.mk (bB_ (g := gb174) (o := .cells #[.int .i64 a0_0, .int .i64 a0_1] 24 (0, 0)) (sK BK174.out) hb); replace HB := yB HB hb; clear hb hbox hg; have hnb24 := NB178_174.out; have hnc24 := NB174_178.out; obtain ⟨hcz25_0, hcz25_1, hfz25_0, hfz25_1⟩ := cf2 BK178.out))
  go_ret
  exact ⟨sE, sB HB.out⟩
end
section
attribute [local go_sem] max2_int min2_int max_two min_two max_three min_three max_four min_four
theorem eqA26 (d : Nat) (w : World) (x0 y0 : Int) (x1 y1 : Int) (x2 y2 : Int) (x3 y3 : ByteArray) (x4 y4 : Int) (x5 y5 : Int) (x6 y6 : Int) (x7 y7 : Int) (x8 y8 : Int) :
  (Op.equalIn (d + 3) 26 (.agg #[.int .i64 x0, .int .i64 x1, .int .i64 x2, .string x3, .int .i64 x4, .int .i64 x5, .int .i64 x6, .int .i64 x7, .int .i64 x8]) (.agg #[.int .i64 y0, .int .i64 y1, .int .i64 y2, .string y3, .int .i64 y4, .int .i64 y5, .int .i64 y6, .int .i64 y7, .int .i64 y8])).run Tryz.prog w = .ok (x0 == y0 && (x1 == y1 && (x2 == y2 && (x3.toList == y3.toList && ((x4 == y4 && (x5 == y5)) && (x6 == y6 && (x7 == y7 && (x8 == y8)))))))) w := by
 refine eqA_of Tryz.underlying26 (by kernel_rfl) ?_
 refine eqf_cons (by rfl) (by go_simp; rfl) (by go_simp; rfl) (by go_simp) ?_
 refine eqf_cons (by rfl) (by go_simp; rfl) (by go_simp; rfl) (by go_simp) ?_
 refine eqf_cons (by rfl) (by go_simp; rfl) (by go_simp; rfl) (by go_simp) ?_
 refine eqf_cons (by rfl) (by go_simp; rfl) (by go_simp; rfl) (by go_simp) ?_
 refine eqf_cons (by rfl) (by go_simp) (by go_simp) (eqA24 (d + 0) w _ _ _ _) ?_
 refine eqf_cons (by rfl) (by go_simp; rfl) (by go_simp; rfl) (by go_simp) ?_
 refine eqf_cons (by rfl) (by go_simp; rfl) (by go_simp; rfl) (by go_simp) ?_
 exact eqf_last (by rfl) (by go_simp; rfl) (by go_simp; rfl) (by go_simp)
end
section
attribute [local go_sem] max2_int min2_int max_two min_two max_three min_three max_four min_four
attribute [local go_sem high] eqA26
def award_CheckRate.j0 : Nat → Bool → Int → Int → Int → ByteArray → Int → Int → Int → Int → Int → Option (Int)
 | 0, _, _, _, _, _, _, _, _, _, _ => none
 | k + 1, x3, x181000, x181001, x181002, x181003, x181004, x181005, x181006, x181007, x181008 => if x181008 = 0 then (if x3 = true then ((award_in.f x181002 0 1000000).bind fun t183 => (if t183 = true then (if x181003.toList = ([] : List UInt8) then ((award_isPart.f x181004 x181005).bind fun t184 => (if t184 = true then ((award_in.f x181006 0 100000).bind fun t185 => (if t185 = true then ((award_in.f x181007 0 100000).bind fun t186 => (if t186 = true then (some 0) else (some 1))) else (some 1))) else (some 1))) else ((award_isName.f x181003).bind fun t187 => (if t187 = true then (if x181003.toList = ([97, 108, 108] : List UInt8) then (some 1) else ((award_isPart.f x181004 x181005).bind fun t188 => (if t188 = true then ((award_in.f x181006 0 100000).bind fun t189 => (if t189 = true then ((award_in.f x181007 0 100000).bind fun t190 => (if t190 = true then (some 0) else (some 1))) else (some 1))) else (some 1)))) else (some 1)))) else (some 1))) else (some 1)) else (if x3 = true then ((award_in.f x181008 1 1000000).bind fun t191 => (if t191 = true then (if ((x181002 == 0 && (x181003.toList.isEmpty && ((x181004 == 0 && (x181005 == 0)) && (x181006 == 0 && (x181007 == 0))))) = true) then (some 0) else (some 1)) else (some 1))) else (some 1))
def award_CheckRate.f (k : Nat) (a0_0 : Int) (a0_1 : Int) (a0_2 : Int) (a0_3 : ByteArray) (a0_4 : Int) (a0_5 : Int) (a0_6 : Int) (a0_7 : Int) (a0_8 : Int) : Option (Int) := (award_in.f a0_0 1 1000000).bind fun t181 => (if t181 = true then ((award_in.f a0_1 0 1000000).bind fun t182 => (award_CheckRate.j0 k t182 a0_0 a0_1 a0_2 a0_3 a0_4 a0_5 a0_6 a0_7 a0_8)) else (award_CheckRate.j0 k false a0_0 a0_1 a0_2 a0_3 a0_4 a0_5 a0_6 a0_7 a0_8))
theorem kF62_1 {Q : Prop} (f : Q := by
 obtain ⟨hcz_0_0, hcz_0_1, hcz_0_2, hcz_0_3, hcz_0_4, hcz_0_5, hcz_0_6, hcz_0_7, hcz_0_8, hfz_0_0, hfz_0_1, hfz_0_2, hfz_0_3, hfz_0_4, hfz_0_5, hfz_0_6, hfz_0_7, hfz_0_8⟩ := cf9 BK180.out
 go_wp2_with (first | (go_at_call 66; (with_reducible refine cY (award_in.calls a0_2 0 1000000 _ _ A11.out) ?_); intro nd) | (go_at_call 97; (with_reducible refine cX (award_isPart.calls a0_4 a0_5 _ _ A14.out) ?_); intro w21 hb; replace BK180 := Aq.mk (bB_ (g := gb180) (o := .cells #[.int .i64 a0_0, .int .i64 a0_1, .int .i64 a0_2, .string a0_3, .int .i64 a0_4, .int .i64 a0_5, .int .i64 a0_6, .int .i64 a0_7, .int .i64 a0_8] 26 (0, 0)) (sK BK180.out) hb); replace HB := yB HB hb; try clear hb; obtain ⟨hcz22_0, hcz22_1, hcz22_2, hcz22_3, hcz22_4, hcz22_5, hcz22_6, hcz22_7, hcz22_8, hfz22_0, hfz22_1, hfz22_2, hfz22_3, hfz22_4, hfz22_5, hfz22_6, hfz22_7, hfz22_8⟩ := cf9 BK180.out) | (go_at_call 66; (with_reducible refine cY (award_in.calls a0_6 0 100000 _ _ A16.out) ?_); intro nd) | (go_at_call 66; (with_reducible refine cY (award_in.calls a0_7 0 100000 _ _ A18.out) ?_); intro nd) | (go_at_call 97; (with_reducible refine cX (award_isPart.calls a0_4 a0_5 _ _ A14.out) ?_); intro w24 hb; replace BK180 := Aq.mk (bB_ (g := gb180) (o := .cells #[.int .i64 a0_0, .int .i64 a0_1, .int .i64 a0_2, .string a0_3, .int .i64 a0_4, .int .i64 a0_5, .int .i64 a0_6, .int .i64 a0_7, .int .i64 a0_8] 26 (0, 0)) (sK BK180.out) hb); replace HB := yB HB hb; try clear hb; obtain ⟨hcz25_0, hcz25_1, hcz25_2, hcz25_3, hcz25_4, hcz25_5, hcz25_6, hcz25_7, hcz25_8, hfz25_0, hfz25_1, hfz25_2, hfz25_3, hfz25_4, hfz25_5, hfz25_6, hfz25_7, hfz25_8⟩ := cf9 BK180.out) | (go_at_call 97; (with_reducible refine cX (award_isPart.calls a0_4 a0_5 _ _ A14.out) ?_); intro w27 hb; replace BK180 := Aq.mk (bB_ (g := gb180) (o := .cells #[.int .i64 a0_0, .int .i64 a0_1, .int .i64 a0_2, .string a0_3, .int .i64 a0_4, .int .i64 a0_5, .int .i64 a0_6, .int .i64 a0_7, .int .i64 a0_8] 26 (0, 0)) (sK BK180.out) hb); replace HB := yB HB hb; try clear hb; obtain ⟨hcz28_0, hcz28_1, hcz28_2, hcz28_3, hcz28_4, hcz28_5, hcz28_6, hcz28_7, hcz28_8, hfz28_0, hfz28_1, hfz28_2, hfz28_3, hfz28_4, hfz28_5, hfz28_6, hfz28_7, hfz28_8⟩ := cf9 BK180.out) | (go_at_call 97; (with_reducible refine cX (award_isPart.calls a0_4 a0_5 _ _ A14.out) ?_); intro w30 hb; replace BK180 := Aq.mk (bB_ (g := gb180) (o := .cells #[.int .i64 a0_0, .int .i64 a0_1, .int .i64 a0_2, .string a0_3, .int .i64 a0_4, .int .i64 a0_5, .int .i64 a0_6, .int .i64 a0_7, .int .i64 a0_8] 26 (0, 0)) (sK BK180.out) hb); replace HB := yB HB hb; try clear hb) | (go_at_call 96; (with_reducible refine cX (award_isName.calls a0_3 _ _ A31.out) ?_); intro w35 hb; replace BK180 := Aq.mk (bB_ (g := gb180) (o := .cells #[.int .i64 a0_0, .int .i64 a0_1, .int .i64 a0_2, .string a0_3, .int .i64 a0_4, .int .i64 a0_5, .int .i64 a0_6, .int .i64 a0_7, .int .i64 a0_8] 26 (0, 0)) (sK BK180.out) hb); replace HB := yB HB hb; try clear hb; obtain ⟨hcz36_0, hcz36_1, hcz36_2, hcz36_3, hcz36_4, hcz36_5, hcz36_6, hcz36_7, hcz36_8, hfz36_0, hfz36_1, hfz36_2, hfz36_3, hfz36_4, hfz36_5, hfz36_6, hfz36_7, hfz36_8⟩ := cf9 BK180.out) | (go_at_call 96; (with_reducible refine cX (award_isName.calls a0_3 _ _ A31.out) ?_); intro w44 hb; replace BK180 := Aq.mk (bB_ (g := gb180) (o := .cells #[.int .i64 a0_0, .int .i64 a0_1, .int .i64 a0_2, .string a0_3, .int .i64 a0_4, .int .i64 a0_5, .int .i64 a0_6, .int .i64 a0_7, .int .i64 a0_8] 26 (0, 0)) (sK BK180.out) hb); replace HB := yB HB hb; try clear hb; obtain ⟨hcz45_0, hcz45_1, hcz45_2, hcz45_3, hcz45_4, hcz45_5, hcz45_6, hcz45_7, hcz45_8, hfz45_0, hfz45_1, hfz45_2, hfz45_3, hfz45_4, hfz45_5, hfz45_6, hfz45_7, hfz45_8⟩ := cf9 BK180.out) | (go_at_call 97; (with_reducible refine cX (award_isPart.calls a0_4 a0_5 _ _ A37.out) ?_); intro w46 hb; replace BK180 := Aq.mk (bB_ (g := gb180) (o := .cells #[.int .i64 a0_0, .int .i64 a0_1, .int .i64 a0_2, .string a0_3, .int .i64 a0_4, .int .i64 a0_5, .int .i64 a0_6, .int .i64 a0_7, .int .i64 a0_8] 26 (0, 0)) (sK BK180.out) hb); replace HB := yB HB hb; try clear hb; obtain ⟨hcz47_0, hcz47_1, hcz47_2, hcz47_3, hcz47_4, hcz47_5, hcz47_6, hcz47_7, hcz47_8, hfz47_0, hfz47_1, hfz47_2, hfz47_3, hfz47_4, hfz47_5, hfz47_6, hfz47_7, hfz47_8⟩ := cf9 BK180.out) | (go_at_call 66; (with_reducible refine cY (award_in.calls a0_6 0 100000 _ _ A39.out) ?_); intro nd) | (go_at_call 66; (with_reducible refine cY (award_in.calls a0_7 0 100000 _ _ A41.out) ?_); intro nd) | (go_at_call 96; (with_reducible refine cX (award_isName.calls a0_3 _ _ A31.out) ?_); intro w49 hb; replace BK180 := Aq.mk (bB_ (g := gb180) (o := .cells #[.int .i64 a0_0, .int .i64 a0_1, .int .i64 a0_2, .string a0_3, .int .i64 a0_4, .int .i64 a0_5, .int .i64 a0_6, .int .i64 a0_7, .int .i64 a0_8] 26 (0, 0)) (sK BK180.out) hb); replace HB := yB HB hb; try clear hb; obtain ⟨hcz50_0, hcz50_1, hcz50_2, hcz50_3, hcz50_4, hcz50_5, hcz50_6, hcz50_7, hcz50_8, hfz50_0, hfz50_1, hfz50_2, hfz50_3, hfz50_4, hfz50_5, hfz50_6, hfz50_7, hfz50_8⟩ := cf9 BK180.out) | (go_at_call 97; (with_reducible refine cX (award_isPart.calls a0_4 a0_5 _ _ A37.out) ?_); intro w51 hb; replace BK180 := Aq.mk (bB_ (g := gb180) (o := .cells #[.int .i64 a0_0, .int .i64 a0_1, .int .i64 a0_2, .string a0_3, .int .i64 a0_4, .int .i64 a0_5, .int .i64 a0_6, .int .i64 a0_7, .int .i64 a0_8] 26 (0, 0)) (sK BK180.out) hb); replace HB := yB HB hb; try clear hb; obtain ⟨hcz52_0, hcz52_1, hcz52_2, hcz52_3, hcz52_4, hcz52_5, hcz52_6, hcz52_7, hcz52_8, hfz52_0, hfz52_1, hfz52_2, hfz52_3, hfz52_4, hfz52_5, hfz52_6, hfz52_7, hfz52_8⟩ := cf9 BK180.out) | (go_at_call 96; (with_reducible refine cX (award_isName.calls a0_3 _ _ A31.out) ?_); intro w54 hb; replace BK180 := Aq.mk (bB_ (g := gb180) (o := .cells #[.int .i64 a0_0, .int .i64 a0_1, .int .i64 a0_2, .string a0_3, .int .i64 a0_4, .int .i64 a0_5, .int .i64 a0_6, .int .i64 a0_7, .int .i64 a0_8] 26 (0, 0)) (sK BK180.out) hb); replace HB := yB HB hb; try clear hb; obtain ⟨hcz55_0, hcz55_1, hcz55_2, hcz55_3, hcz55_4, hcz55_5, hcz55_6, hcz55_7, hcz55_8, hfz55_0, hfz55_1, hfz55_2, hfz55_3, hfz55_4, hfz55_5, hfz55_6, hfz55_7, hfz55_8⟩ := cf9 BK180.out) | (go_at_call 97; (with_reducible refine cX (award_isPart.calls a0_4 a0_5 _ _ A37.out) ?_); intro w56 hb; replace BK180 := Aq.mk (bB_ (g := gb180) (o := .cells #[.int .i64 a0_0, .int .i64 a0_1, .int .i64 a0_2, .string a0_3, .int .i64 a0_4, .int .i64 a0_5, .int .i64 a0_6, .int .i64 a0_7, .int .i64 a0_8] 26 (0, 0)) (sK BK180.out) hb); replace HB := yB HB hb; try clear hb; obtain ⟨hcz57_0, hcz57_1, hcz57_2, hcz57_3, hcz57_4, hcz57_5, hcz57_6, hcz57_7, hcz57_8, hfz57_0, hfz57_1, hfz57_2, hfz57_3, hfz57_4, hfz57_5, hfz57_6, hfz57_7, hfz57_8⟩ := cf9 BK180.out) | (go_at_call 96; (with_reducible refine cX (award_isName.calls a0_3 _ _ A31.out) ?_); intro w59 hb; replace BK180 := Aq.mk (bB_ (g := gb180) (o := .cells #[.int .i64 a0_0, .int .i64 a0_1, .int .i64 a0_2, .string a0_3, .int .i64 a0_4, .int .i64 a0_5, .int .i64 a0_6, .int .i64 a0_7, .int .i64 a0_8] 26 (0, 0)) (sK BK180.out) hb); replace HB := yB HB hb; try clear hb; obtain ⟨hcz60_0, hcz60_1, hcz60_2, hcz60_3, hcz60_4, hcz60_5, hcz60_6, hcz60_7, hcz60_8, hfz60_0, hfz60_1, hfz60_2, hfz60_3, hfz60_4, hfz60_5, hfz60_6, hfz60_7, hfz60_8⟩ := cf9 BK180.out) | (go_at_call 97; (with_reducible refine cX (award_isPart.calls a0_4 a0_5 _ _ A37.out) ?_); intro w61 hb; replace BK180 := Aq.mk (bB_ (g := gb180) (o := .cells #[.int .i64 a0_0, .int .i64 a0_1, .int .i64 a0_2, .string a0_3, .int .i64 a0_4, .int .i64 a0_5, .int .i64 a0_6, .int .i64 a0_7, .int .i64 a0_8] 26 (0, 0)) (sK BK180.out) hb); replace HB := yB HB hb; try clear hb) | (go_at_call 96; (with_reducible refine cX (award_isName.calls a0_3 _ _ A31.out) ?_); intro w63 hb; replace BK180 := Aq.mk (bB_ (g := gb180) (o := .cells #[.int .i64 a0_0, .int .i64 a0_1, .int .i64 a0_2, .string a0_3, .int .i64 a0_4, .int .i64 a0_5, .int .i64 a0_6, .int .i64 a0_7, .int .i64 a0_8] 26 (0, 0)) (sK BK180.out) hb); replace HB := yB HB hb; try clear hb) | (go_at_call 66; (with_reducible refine cY (award_in.calls a0_8 1 1000000 _ _ A67.out) ?_); intro nd))
 go_ret
 exact ⟨sE, sB HB.out⟩) : Q := f
set_option maxHeartbeats 8000000 in
set_option maxRecDepth 100000 in
theorem award_CheckRate.calls (k : Nat) (a0_0 : Int) (a0_1 : Int) (a0_2 : Int) (a0_3 : ByteArray) (a0_4 : Int) (a0_5 : Int) (a0_6 : Int) (a0_7 : Int) (a0_8 : Int) (r : Int) (w : World) (h : award_CheckRate.f k a0_0 a0_1 a0_2 a0_3 a0_4 a0_5 a0_6 a0_7 a0_8 = some r) :
  Calls Tryz.prog 62 #[.agg #[.int .i64 a0_0, .int .i64 a0_1, .int .i64 a0_2, .string a0_3, .int .i64 a0_4, .int .i64 a0_5, .int .i64 a0_6, .int .i64 a0_7, .int .i64 a0_8]] w fun e w' => e = .returned (.int .i64 r) ∧ Below w.heap.size w w' := by
 have hu26 := Tryz.underlying26
 have hu24 := Tryz.underlying24
 have HB := Aq.mk (Below.refl w.heap.size w)
 have H : ((award_in.f a0_0 1 1000000).bind fun t181 => (if t181 = true then ((award_in.f a0_1 0 1000000).bind fun t182 => (award_CheckRate.j0 k t182 a0_0 a0_1 a0_2 a0_3 a0_4 a0_5 a0_6 a0_7 a0_8)) else (award_CheckRate.j0 k false a0_0 a0_1 a0_2 a0_3 a0_4 a0_5 a0_6 a0_7 a0_8))) = some r := h
 clear h
 have HC2 := Aq.mk H
 clear H
 go_enter Tryz.func62, Tryz.ntmps62
 go_upto_region 1 with (first | ((with_reducible refine gD_ (N := 1) rfl ?_); refine bxE (N := 1) #[.int .i64 a0_0, .int .i64 a0_1, .int .i64 a0_2, .string a0_3, .int .i64 a0_4, .int .i64 a0_5, .int .i64 a0_6, .int .i64 a0_7, .int .i64 a0_8] 26 ?_; intro gb180 hg w3 hbox hb; have BK180 := Aq.mk hbox; have GW180 := yS HB hg; have GE180 := yS HB hg; replace HB := yB HB hb; clear hb hbox hg))
 (try simp only [Act.put, List.setIfInBounds_toArray, List.set_cons_zero, List.set_cons_succ])
 go_cut [3] (fun v3 wc => ∃ (kq : Nat) (x3_1 : Bool), v3 = .bool x3_1 ∧ Aq (award_CheckRate.j0 kq x3_1 a0_0 a0_1 a0_2 a0_3 a0_4 a0_5 a0_6 a0_7 a0_8 = some r) ∧ Aq (kq ≤ k) ∧ Aq (wc.heap[gb180]? = some (.cells #[.int .i64 a0_0, .int .i64 a0_1, .int .i64 a0_2, .string a0_3, .int .i64 a0_4, .int .i64 a0_5, .int .i64 a0_6, .int .i64 a0_7, .int .i64 a0_8] 26 (0, 0))) ∧ Aq (Below w.heap.size w wc))
 case first =>
  have H := HC2.out
  clear HC2
  replace H := oB H; obtain ⟨t181, A4, H⟩ := H
  replace H := oT H; rcases H with ⟨rfl, H⟩ | ⟨rfl, H⟩
  ·replace H := oB H; obtain ⟨t182, A6, H⟩ := H
   have H' := Aq.mk H
   clear H
   obtain ⟨hcz7_0, hcz7_1, hcz7_2, hcz7_3, hcz7_4, hcz7_5, hcz7_6, hcz7_7, hcz7_8, hfz7_0, hfz7_1, hfz7_2, hfz7_3, hfz7_4, hfz7_5, hfz7_6, hfz7_7, hfz7_8⟩ := cf9 BK180.out
   go_wp2_with (first | ((with_reducible refine gD_ (N := 6) rfl ?_); refine gY 6 rfl #[.int .i64 a0_0, .int .i64 1, .int .i64 1000000] (award_in.calls a0_0 1 1000000 true _ A4.out) ?_; intro nd) | (go_at_call 66; (with_reducible refine cY (award_in.calls a0_1 0 1000000 t182 _ A6.out) ?_); intro nd))
   go_meet
   case rel => exact ⟨_, (t182), sS, H', ⟨by first | omega | exact Nat.le_refl _⟩, ⟨sL BK180.out⟩, ⟨sB HB.out⟩⟩
  ·have H' := Aq.mk H
   clear H
   obtain ⟨hcz8_0, hcz8_1, hcz8_2, hcz8_3, hcz8_4, hcz8_5, hcz8_6, hcz8_7, hcz8_8, hfz8_0, hfz8_1, hfz8_2, hfz8_3, hfz8_4, hfz8_5, hfz8_6, hfz8_7, hfz8_8⟩ := cf9 BK180.out
   go_wp2_with (first | ((with_reducible refine gD_ (N := 6) rfl ?_); refine gY 6 rfl #[.int .i64 a0_0, .int .i64 1, .int .i64 1000000] (award_in.calls a0_0 1 1000000 false _ A4.out) ?_; intro nd))
   go_meet
   case rel => exact ⟨_, (false), sS, H', ⟨by first | omega | exact Nat.le_refl _⟩, ⟨sL BK180.out⟩, ⟨sB HB.out⟩⟩
 case rest =>
  clear HC2
  obtain ⟨kq, x3_1, rfl, HA, HJ1, BK180, HB⟩ := hcut
  cases kq with
  | zero => exact absurd HA.out (by simp [award_CheckRate.j0])
  | succ kj1 =>
   have H := HA.out
   clear HA
   simp only [award_CheckRate.j0] at H
   replace H := oI H; rcases H with ⟨c9, H⟩ | ⟨c9, H⟩
   ·have c9b0 := bT c9
    have c9b1 := bN c9
    clear c9
    replace H := oT H; rcases H with ⟨rfl, H⟩ | ⟨rfl, H⟩
    ·replace H := oB H; obtain ⟨t183, A11, H⟩ := H
     replace H := oT H; rcases H with ⟨rfl, H⟩ | ⟨rfl, H⟩
     ·replace H := oI H; rcases H with ⟨c13, H⟩ | ⟨c13, H⟩
      ·have c13b0 := bT c13
       have c13b1 := bN c13
       clear c13
       replace H := oB H; obtain ⟨t184, A14, H⟩ := H
       replace H := oT H; rcases H with ⟨rfl, H⟩ | ⟨rfl, H⟩
       ·replace H := oB H; obtain ⟨t185, A16, H⟩ := H
        replace H := oT H; rcases H with ⟨rfl, H⟩ | ⟨rfl, H⟩
        ·replace H := oB H; obtain ⟨t186, A18, H⟩ := H
         replace H := oT H; rcases H with ⟨rfl, H⟩ | ⟨rfl, H⟩
         ·obtain rfl := Option.some.inj H
          exact kF62_1
         ·obtain rfl := Option.some.inj H
          exact kF62_1
        ·obtain rfl := Option.some.inj H
         exact kF62_1
       ·obtain rfl := Option.some.inj H
        exact kF62_1
      ·have c13b0 := bF c13
       have c13b1 := bM c13
       replace H := oB H; obtain ⟨t187, A31, H⟩ := H
       replace H := oT H; rcases H with ⟨rfl, H⟩ | ⟨rfl, H⟩
       ·replace H := oI H; rcases H with ⟨c33, H⟩ | ⟨c33, H⟩
        ·have c33b0 := bT c33
         have c33b1 := bN c33
         clear c33
         obtain rfl := Option.some.inj H
         exact kF62_1
        ·have c33b0 := bF c33
         have c33b1 := bM c33
         replace H := oB H; obtain ⟨t188, A37, H⟩ := H
         replace H := oT H; rcases H with ⟨rfl, H⟩ | ⟨rfl, H⟩
         ·replace H := oB H; obtain ⟨t189, A39, H⟩ := H
          replace H := oT H; rcases H with ⟨rfl, H⟩ | ⟨rfl, H⟩
          ·replace H := oB H; obtain ⟨t190, A41, H⟩ := H
           replace H := oT H; rcases H with ⟨rfl, H⟩ | ⟨rfl, H⟩
           ·obtain rfl := Option.some.inj H
            exact kF62_1
           ·obtain rfl := Option.some.inj H
            exact kF62_1
          ·obtain rfl := Option.some.inj H
           exact kF62_1
         ·obtain rfl := Option.some.inj H
          exact kF62_1
       ·obtain rfl := Option.some.inj H
        exact kF62_1
     ·obtain rfl := Option.some.inj H
      exact kF62_1
    ·obtain rfl := Option.some.inj H
     obtain ⟨hcz65_0, hcz65_1, hcz65_2, hcz65_3, hcz65_4, hcz65_5, hcz65_6, hcz65_7, hcz65_8, hfz65_0, hfz65_1, hfz65_2, hfz65_3, hfz65_4, hfz65_5, hfz65_6, hfz65_7, hfz65_8⟩ := cf9 BK180.out
     go_wp2
     go_ret
     exact ⟨sE, sB HB.out⟩
   ·have c9b0 := bF c9
    have c9b1 := bM c9
    replace H := oT H; rcases H with ⟨rfl, H⟩ | ⟨rfl, H⟩
    ·replace H := oB H; obtain ⟨t191, A67, H⟩ := H
     replace H := oT H; rcases H with ⟨rfl, H⟩ | ⟨rfl, H⟩
     ·replace H := oI H; rcases H with ⟨c69, H⟩ | ⟨c69, H⟩
      ·have c69b0 : (a0_2 == 0 && (a0_3.toList.isEmpty && ((a0_4 == 0 && (a0_5 == 0)) && (a0_6 == 0 && (a0_7 == 0))))) = true := c69
       (try (have c69b1 : decide (a0_2 = 0 && (a0_3.toList.isEmpty && ((a0_4 == 0 && (a0_5 == 0)) && (a0_6 == 0 && (a0_7 == 0))))) = true := by simpa using c69))
       (try (have c69b2 : (a0_2 == 0 && (a0_3.toList.isEmpty && ((a0_4 == 0 && (a0_5 == 0)) && (a0_6 == 0 && (a0_7 == 0))))) = true := by simpa using c69))
       clear c69
       obtain rfl := Option.some.inj H
       exact kF62_1
      ·have c69b0 : (a0_2 == 0 && (a0_3.toList.isEmpty && ((a0_4 == 0 && (a0_5 == 0)) && (a0_6 == 0 && (a0_7 == 0))))) = false := by simpa using c69
       (try (have c69b1 : decide (a0_2 = 0 && (a0_3.toList.isEmpty && ((a0_4 == 0 && (a0_5 == 0)) && (a0_6 == 0 && (a0_7 == 0))))) = false := by simpa using c69))
       (try (have c69b2 : (a0_2 == 0 && (a0_3.toList.isEmpty && ((a0_4 == 0 && (a0_5 == 0)) && (a0_6 == 0 && (a0_7 == 0))))) = false := by simpa using c69))
       (try (have c69b3 : ¬ (a0_2 = 0 && (a0_3.toList.isEmpty && ((a0_4 == 0 && (a0_5 == 0)) && (a0_6 == 0 && (a0_7 == 0))))) := by simpa using c69))
       clear c69
       obtain rfl := Option.some.inj H
       exact kF62_1
     ·obtain rfl := Option.some.inj H
      exact kF62_1
    ·obtain rfl := Option.some.inj H
     obtain ⟨hcz73_0, hcz73_1, hcz73_2, hcz73_3, hcz73_4, hcz73_5, hcz73_6, hcz73_7, hcz73_8, hfz73_0, hfz73_1, hfz73_2, hfz73_3, hfz73_4, hfz73_5, hfz73_6, hfz73_7, hfz73_8⟩ := cf9 BK180.out
     go_wp2
     go_ret
     exact ⟨sE, sB HB.out⟩
end
section
attribute [local go_sem] max2_int min2_int max_two min_two max_three min_three max_four min_four
theorem eqA39 (d : Nat) (w : World) (x0 y0 : Int) (x1 y1 : Int) (x2 y2 : Int) (x3 y3 : Int) (x4 y4 : Int) (x5 y5 : Int) (x6 y6 : Int) (x7 y7 : Int) (x8 y8 : Int) :
  (Op.equalIn (d + 2) 39 (.agg #[.int .i64 x0, .int .i64 x1, .int .i64 x2, .int .i64 x3, .int .i64 x4, .int .i64 x5, .int .i64 x6, .int .i64 x7, .int .i64 x8]) (.agg #[.int .i64 y0, .int .i64 y1, .int .i64 y2, .int .i64 y3, .int .i64 y4, .int .i64 y5, .int .i64 y6, .int .i64 y7, .int .i64 y8])).run Tryz.prog w = .ok (x0 == y0 && (x1 == y1 && (x2 == y2 && (x3 == y3 && (x4 == y4 && (x5 == y5 && (x6 == y6 && (x7 == y7 && (x8 == y8))))))))) w := by
 refine eqA_of Tryz.underlying39 (by kernel_rfl) ?_
 refine eqf_cons (by rfl) (by go_simp; rfl) (by go_simp; rfl) (by go_simp) ?_
 refine eqf_cons (by rfl) (by go_simp; rfl) (by go_simp; rfl) (by go_simp) ?_
 refine eqf_cons (by rfl) (by go_simp; rfl) (by go_simp; rfl) (by go_simp) ?_
 refine eqf_cons (by rfl) (by go_simp; rfl) (by go_simp; rfl) (by go_simp) ?_
 refine eqf_cons (by rfl) (by go_simp; rfl) (by go_simp; rfl) (by go_simp) ?_
 refine eqf_cons (by rfl) (by go_simp; rfl) (by go_simp; rfl) (by go_simp) ?_
 refine eqf_cons (by rfl) (by go_simp; rfl) (by go_simp; rfl) (by go_simp) ?_
 refine eqf_cons (by rfl) (by go_simp; rfl) (by go_simp; rfl) (by go_simp) ?_
 exact eqf_last (by rfl) (by go_simp; rfl) (by go_simp; rfl) (by go_simp)
end
section
attribute [local go_sem] max2_int min2_int max_two min_two max_three min_three max_four min_four
attribute [local go_sem high] eqA39
def award_CheckSale.j0 : Nat → Bool → Int → Int → Int → Int → Int → Int → Int → Int → Int → Option (Int)
 | 0, _, _, _, _, _, _, _, _, _, _ => none
 | k + 1, x3, x395000, x395001, x395002, x395003, x395004, x395005, x395006, x395007, x395008 => if x395008 = 0 then (if x3 = true then ((award_in.f x395002 0 x395001).bind fun t397 => (if t397 = true then ((award_in.f x395003 10 10000007).bind fun t398 => (if t398 = true then ((award_in.f x395004 1 1000000000).bind fun t399 => (if t399 = true then ((award_in.f x395005 0 40).bind fun t400 => (if t400 = true then ((award_in.f x395006 0 40).bind fun t401 => (if t401 = true then ((award_in.f x395007 0 x395002).bind fun t402 => (if t402 = true then (if x395006 > 0 then (some 0) else (if x395007 = 0 then (some 0) else (some 1))) else (some 1))) else (some 1))) else (some 1))) else (some 1))) else (some 1))) else (some 1))) else (some 1)) else (if x3 = true then ((award_in.f x395008 1 1000000).bind fun t403 => (if t403 = true then (if ((x395002 == 0 && (x395003 == 0 && (x395004 == 0 && (x395005 == 0 && (x395006 == 0 && (x395007 == 0)))))) = true) then (some 0) else (some 1)) else (some 1))) else (some 1))
def award_CheckSale.f (k : Nat) (a0_0 : Int) (a0_1 : Int) (a0_2 : Int) (a0_3 : Int) (a0_4 : Int) (a0_5 : Int) (a0_6 : Int) (a0_7 : Int) (a0_8 : Int) : Option (Int) := (award_in.f a0_0 1 1000000).bind fun t395 => (if t395 = true then ((award_in.f a0_1 0 1000000).bind fun t396 => (award_CheckSale.j0 k t396 a0_0 a0_1 a0_2 a0_3 a0_4 a0_5 a0_6 a0_7 a0_8)) else (award_CheckSale.j0 k false a0_0 a0_1 a0_2 a0_3 a0_4 a0_5 a0_6 a0_7 a0_8))
theorem kF63_1 {Q : Prop} (f : Q := by
 obtain ⟨hcz_0_0, hcz_0_1, hcz_0_2, hcz_0_3, hcz_0_4, hcz_0_5, hcz_0_6, hcz_0_7, hcz_0_8, hfz_0_0, hfz_0_1, hfz_0_2, hfz_0_3, hfz_0_4, hfz_0_5, hfz_0_6, hfz_0_7, hfz_0_8⟩ := cf9 BK394.out
 go_wp2_with (first | (go_at_call 66; (with_reducible refine cY (award_in.calls a0_2 0 a0_1 _ _ A11.out) ?_); intro nd) | (go_at_call 66; (with_reducible refine cY (award_in.calls a0_3 10 10000007 _ _ A13.out) ?_); intro nd) | (go_at_call 66; (with_reducible refine cY (award_in.calls a0_4 1 1000000000 _ _ A15.out) ?_); intro nd) | (go_at_call 66; (with_reducible refine cY (award_in.calls a0_5 0 40 _ _ A17.out) ?_); intro nd) | (go_at_call 66; (with_reducible refine cY (award_in.calls a0_6 0 40 _ _ A19.out) ?_); intro nd) | (go_at_call 66; (with_reducible refine cY (award_in.calls a0_7 0 a0_2 _ _ A21.out) ?_); intro nd) | (go_at_call 66; (with_reducible refine cY (award_in.calls a0_8 1 1000000 _ _ A36.out) ?_); intro nd))
 go_ret
 exact ⟨sE, sB HB.out⟩) : Q := f
set_option maxHeartbeats 8000000 in
set_option maxRecDepth 100000 in
theorem award_CheckSale.calls (k : Nat) (a0_0 : Int) (a0_1 : Int) (a0_2 : Int) (a0_3 : Int) (a0_4 : Int) (a0_5 : Int) (a0_6 : Int) (a0_7 : Int) (a0_8 : Int) (r : Int) (w : World) (h : award_CheckSale.f k a0_0 a0_1 a0_2 a0_3 a0_4 a0_5 a0_6 a0_7 a0_8 = some r) :
  Calls Tryz.prog 63 #[.agg #[.int .i64 a0_0, .int .i64 a0_1, .int .i64 a0_2, .int .i64 a0_3, .int .i64 a0_4, .int .i64 a0_5, .int .i64 a0_6, .int .i64 a0_7, .int .i64 a0_8]] w fun e w' => e = .returned (.int .i64 r) ∧ Below w.heap.size w w' := by
 have hu39 := Tryz.underlying39
 have HB := Aq.mk (Below.refl w.heap.size w)
 have H : ((award_in.f a0_0 1 1000000).bind fun t395 => (if t395 = true then ((award_in.f a0_1 0 1000000).bind fun t396 => (award_CheckSale.j0 k t396 a0_0 a0_1 a0_2 a0_3 a0_4 a0_5 a0_6 a0_7 a0_8)) else (award_CheckSale.j0 k false a0_0 a0_1 a0_2 a0_3 a0_4 a0_5 a0_6 a0_7 a0_8))) = some r := h
 clear h
 have HC2 := Aq.mk H
 clear H
 go_enter Tryz.func63, Tryz.ntmps63
 go_upto_region 1 with (first | ((with_reducible refine gD_ (N := 1) rfl ?_); refine bxE (N := 1) #[.int .i64 a0_0, .int .i64 a0_1, .int .i64 a0_2, .int .i64 a0_3, .int .i64 a0_4, .int .i64 a0_5, .int .i64 a0_6, .int .i64 a0_7, .int .i64 a0_8] 39 ?_; intro gb394 hg w3 hbox hb; have BK394 := Aq.mk hbox; have GW394 := yS HB hg; have GE394 := yS HB hg; replace HB := yB HB hb; clear hb hbox hg))
 (try simp only [Act.put, List.setIfInBounds_toArray, List.set_cons_zero, List.set_cons_succ])
 go_cut [3] (fun v3 wc => ∃ (kq : Nat) (x3_1 : Bool), v3 = .bool x3_1 ∧ Aq (award_CheckSale.j0 kq x3_1 a0_0 a0_1 a0_2 a0_3 a0_4 a0_5 a0_6 a0_7 a0_8 = some r) ∧ Aq (kq ≤ k) ∧ Aq (wc.heap[gb394]? = some (.cells #[.int .i64 a0_0, .int .i64 a0_1, .int .i64 a0_2, .int .i64 a0_3, .int .i64 a0_4, .int .i64 a0_5, .int .i64 a0_6, .int .i64 a0_7, .int .i64 a0_8] 39 (0, 0))) ∧ Aq (Below w.heap.size w wc))
 case first =>
  have H := HC2.out
  clear HC2
  replace H := oB H; obtain ⟨t395, A4, H⟩ := H
  replace H := oT H; rcases H with ⟨rfl, H⟩ | ⟨rfl, H⟩
  ·replace H := oB H; obtain ⟨t396, A6, H⟩ := H
   have H' := Aq.mk H
   clear H
   obtain ⟨hcz7_0, hcz7_1, hcz7_2, hcz7_3, hcz7_4, hcz7_5, hcz7_6, hcz7_7, hcz7_8, hfz7_0, hfz7_1, hfz7_2, hfz7_3, hfz7_4, hfz7_5, hfz7_6, hfz7_7, hfz7_8⟩ := cf9 BK394.out
   go_wp2_with (first | ((with_reducible refine gD_ (N := 6) rfl ?_); refine gY 6 rfl #[.int .i64 a0_0, .int .i64 1, .int .i64 1000000] (award_in.calls a0_0 1 1000000 true _ A4.out) ?_; intro nd) | (go_at_call 66; (with_reducible refine cY (award_in.calls a0_1 0 1000000 t396 _ A6.out) ?_); intro nd))
   go_meet
   case rel => exact ⟨_, (t396), sS, H', ⟨by first | omega | exact Nat.le_refl _⟩, ⟨sL BK394.out⟩, ⟨sB HB.out⟩⟩
  ·have H' := Aq.mk H
   clear H
   obtain ⟨hcz8_0, hcz8_1, hcz8_2, hcz8_3, hcz8_4, hcz8_5, hcz8_6, hcz8_7, hcz8_8, hfz8_0, hfz8_1, hfz8_2, hfz8_3, hfz8_4, hfz8_5, hfz8_6, hfz8_7, hfz8_8⟩ := cf9 BK394.out
   go_wp2_with (first | ((with_reducible refine gD_ (N := 6) rfl ?_); refine gY 6 rfl #[.int .i64 a0_0, .int .i64 1, .int .i64 1000000] (award_in.calls a0_0 1 1000000 false _ A4.out) ?_; intro nd))
   go_meet
   case rel => exact ⟨_, (false), sS, H', ⟨by first | omega | exact Nat.le_refl _⟩, ⟨sL BK394.out⟩, ⟨sB HB.out⟩⟩
 case rest =>
  clear HC2
  obtain ⟨kq, x3_1, rfl, HA, HJ1, BK394, HB⟩ := hcut
  cases kq with
  | zero => exact absurd HA.out (by simp [award_CheckSale.j0])
  | succ kj1 =>
   have H := HA.out
   clear HA
   simp only [award_CheckSale.j0] at H
   replace H := oI H; rcases H with ⟨c9, H⟩ | ⟨c9, H⟩
   ·have c9b0 := bT c9
    have c9b1 := bN c9
    clear c9
    replace H := oT H; rcases H with ⟨rfl, H⟩ | ⟨rfl, H⟩
    ·replace H := oB H; obtain ⟨t397, A11, H⟩ := H
     replace H := oT H; rcases H with ⟨rfl, H⟩ | ⟨rfl, H⟩
     ·replace H := oB H; obtain ⟨t398, A13, H⟩ := H
      replace H := oT H; rcases H with ⟨rfl, H⟩ | ⟨rfl, H⟩
      ·replace H := oB H; obtain ⟨t399, A15, H⟩ := H
       replace H := oT H; rcases H with ⟨rfl, H⟩ | ⟨rfl, H⟩
       ·replace H := oB H; obtain ⟨t400, A17, H⟩ := H
        replace H := oT H; rcases H with ⟨rfl, H⟩ | ⟨rfl, H⟩
        ·replace H := oB H; obtain ⟨t401, A19, H⟩ := H
         replace H := oT H; rcases H with ⟨rfl, H⟩ | ⟨rfl, H⟩
         ·replace H := oB H; obtain ⟨t402, A21, H⟩ := H
          replace H := oT H; rcases H with ⟨rfl, H⟩ | ⟨rfl, H⟩
          ·replace H := oI H; rcases H with ⟨c23, H⟩ | ⟨c23, H⟩
           ·have c23b0 : decide (0 < a0_6) = true := decide_eq_true c23
            clear c23
            obtain rfl := Option.some.inj H
            exact kF63_1
           ·have c23b0 : decide (0 < a0_6) = false := decide_eq_false c23
            clear c23
            replace H := oI H; rcases H with ⟨c25, H⟩ | ⟨c25, H⟩
            ·have c25b0 := bT c25
             have c25b1 := bN c25
             clear c25
             obtain rfl := Option.some.inj H
             exact kF63_1
            ·have c25b0 := bF c25
             have c25b1 := bM c25
             obtain rfl := Option.some.inj H
             exact kF63_1
          ·obtain rfl := Option.some.inj H
           exact kF63_1
         ·obtain rfl := Option.some.inj H
          exact kF63_1
        ·obtain rfl := Option.some.inj H
         exact kF63_1
       ·obtain rfl := Option.some.inj H
        exact kF63_1
      ·obtain rfl := Option.some.inj H
       exact kF63_1
     ·obtain rfl := Option.some.inj H
      exact kF63_1
    ·obtain rfl := Option.some.inj H
     obtain ⟨hcz34_0, hcz34_1, hcz34_2, hcz34_3, hcz34_4, hcz34_5, hcz34_6, hcz34_7, hcz34_8, hfz34_0, hfz34_1, hfz34_2, hfz34_3, hfz34_4, hfz34_5, hfz34_6, hfz34_7, hfz34_8⟩ := cf9 BK394.out
     go_wp2
     go_ret
     exact ⟨sE, sB HB.out⟩
   ·have c9b0 := bF c9
    have c9b1 := bM c9
    replace H := oT H; rcases H with ⟨rfl, H⟩ | ⟨rfl, H⟩
    ·replace H := oB H; obtain ⟨t403, A36, H⟩ := H
     replace H := oT H; rcases H with ⟨rfl, H⟩ | ⟨rfl, H⟩
     ·replace H := oI H; rcases H with ⟨c38, H⟩ | ⟨c38, H⟩
      ·have c38b0 : (a0_2 == 0 && (a0_3 == 0 && (a0_4 == 0 && (a0_5 == 0 && (a0_6 == 0 && (a0_7 == 0)))))) = true := c38
       (try (have c38b1 : decide (a0_2 = 0 && (a0_3 == 0 && (a0_4 == 0 && (a0_5 == 0 && (a0_6 == 0 && (a0_7 == 0)))))) = true := by simpa using c38))
       (try (have c38b2 : (a0_2 == 0 && (a0_3 == 0 && (a0_4 == 0 && (a0_5 == 0 && (a0_6 == 0 && (a0_7 == 0)))))) = true := by simpa using c38))
       clear c38
       obtain rfl := Option.some.inj H
       exact kF63_1
      ·have c38b0 : (a0_2 == 0 && (a0_3 == 0 && (a0_4 == 0 && (a0_5 == 0 && (a0_6 == 0 && (a0_7 == 0)))))) = false := by simpa using c38
       (try (have c38b1 : decide (a0_2 = 0 && (a0_3 == 0 && (a0_4 == 0 && (a0_5 == 0 && (a0_6 == 0 && (a0_7 == 0)))))) = false := by simpa using c38))
       (try (have c38b2 : (a0_2 == 0 && (a0_3 == 0 && (a0_4 == 0 && (a0_5 == 0 && (a0_6 == 0 && (a0_7 == 0)))))) = false := by simpa using c38))
       (try (have c38b3 : ¬ (a0_2 = 0 && (a0_3 == 0 && (a0_4 == 0 && (a0_5 == 0 && (a0_6 == 0 && (a0_7 == 0)))))) := by simpa using c38))
       clear c38
       obtain rfl := Option.some.inj H
       exact kF63_1
     ·obtain rfl := Option.some.inj H
      exact kF63_1
    ·obtain rfl := Option.some.inj H
     obtain ⟨hcz42_0, hcz42_1, hcz42_2, hcz42_3, hcz42_4, hcz42_5, hcz42_6, hcz42_7, hcz42_8, hfz42_0, hfz42_1, hfz42_2, hfz42_3, hfz42_4, hfz42_5, hfz42_6, hfz42_7, hfz42_8⟩ := cf9 BK394.out
     go_wp2
     go_ret
     exact ⟨sE, sB HB.out⟩
end
section
open Go.Shelf
theorem in_f (n a b : Int) : award_in.f n a b = some (inB n a b) := by
 unfold award_in.f inB
 by_cases h : n ≥ a
 ·rw [if_pos h, decide_eq_true h]; simp
 ·rw [if_neg h, decide_eq_false h]; simp
def partB (a b : Int) : Bool := match claim_Norm.f a b with
 | some (x, y, e) => decide (e = 0) && ((a == x && b == y) && inB a 0 b)
 | none => false
theorem isPart_f (a b : Int) : award_isPart.f a b = some (partB a b) := by
 unfold award_isPart.f partB
 obtain ⟨x, y, e, h⟩ : ∃ x y e, claim_Norm.f a b = some (x, y, e) := ⟨_, _, _, rfl⟩
 rw [h]
 simp only [Option.bind_some, in_f]
 by_cases he : e = 0
 ·simp [he]
  cases hq : (a == x && b == y) <;> simp_all
 ·simp [he]
def rateB (x : S26) : Bool :=
 inB x.f0 1 1000000 && inB x.f1 0 1000000 && (if x.f7 = 0 then inB x.f2 0 1000000 && (decide (x.f3.toList = []) || nameB x.f3 && !decide (x.f3.toList = [97, 108, 108])) && partB x.f4.f0 x.f4.f1 && inB x.f5 0 100000 && inB x.f6 0 100000
  else inB x.f7 1 1000000 && (x.f2 == 0 && (x.f3.toList.isEmpty && ((x.f4.f0 == 0 && (x.f4.f1 == 0)) && (x.f5 == 0 && (x.f6 == 0))))))
def ckR (x : S26) : Int := if rateB x then 0 else 1
theorem checkRate_f (x : S26) (k : Nat) : award_CheckRate.f (k + 1) x.f0 x.f1 x.f2 x.f3 x.f4.f0 x.f4.f1 x.f5 x.f6 x.f7 = some (ckR x) := by
 unfold award_CheckRate.f
 simp only [award_CheckRate.j0, in_f, isPart_f, award_isName.f, Option.bind_some]
 unfold ckR rateB
 by_cases h7 : x.f7 = 0
 ·simp only [h7, if_true]
  by_cases h3 : x.f3.toList = []
  ·simp only [h3, if_true]
   repeat' split
   all_goals simp_all
  ·simp only [h3, if_false]
   by_cases h4 : x.f3.toList = [97, 108, 108]
   ·simp only [h4, if_true]
    repeat' split
    all_goals simp_all
   ·simp only [h4, if_false]
    repeat' split
    all_goals simp_all
 ·simp only [h7, if_false]
  repeat' split
  all_goals simp_all
theorem checkRate_any (x : S26) (w : World) : Calls Tryz.prog 62 #[.agg #[.int .i64 x.f0, .int .i64 x.f1, .int .i64 x.f2, .string x.f3, .int .i64 x.f4.f0, .int .i64 x.f4.f1, .int .i64 x.f5, .int .i64 x.f6, .int .i64 x.f7]] w fun e w' => e = .returned (.int .i64 (ckR x)) ∧ Below w.heap.size w w' :=
 award_CheckRate.calls 1 x.f0 x.f1 x.f2 x.f3 x.f4.f0 x.f4.f1 x.f5 x.f6 x.f7 _ w (checkRate_f x 0)
def saleB (x : S39) : Bool :=
 inB x.f0 1 1000000 && inB x.f1 0 1000000 && (if x.f8 = 0 then inB x.f2 0 x.f1 && inB x.f3 10 10000007 && inB x.f4 1 1000000000 && inB x.f5 0 40 && inB x.f6 0 40 && inB x.f7 0 x.f2 && (decide (x.f6 > 0) || decide (x.f7 = 0))
  else inB x.f8 1 1000000 && (x.f2 == 0 && (x.f3 == 0 && (x.f4 == 0 && (x.f5 == 0 && (x.f6 == 0 && (x.f7 == 0)))))))
def ckS (x : S39) : Int := if saleB x then 0 else 1
theorem checkSale_f (x : S39) (k : Nat) : award_CheckSale.f (k + 1) x.f0 x.f1 x.f2 x.f3 x.f4 x.f5 x.f6 x.f7 x.f8 = some (ckS x) := by
 unfold award_CheckSale.f
 simp only [award_CheckSale.j0, in_f, Option.bind_some]
 unfold ckS saleB
 by_cases h8 : x.f8 = 0
 ·simp only [h8, if_true]
  repeat' split
  all_goals (try simp_all)
  all_goals (try omega)
 ·simp only [h8, if_false]
  repeat' split
  all_goals simp_all
theorem checkSale_any (x : S39) (w : World) : Calls Tryz.prog 63 #[.agg #[.int .i64 x.f0, .int .i64 x.f1, .int .i64 x.f2, .int .i64 x.f3, .int .i64 x.f4, .int .i64 x.f5, .int .i64 x.f6, .int .i64 x.f7, .int .i64 x.f8]] w fun e w' => e = .returned (.int .i64 (ckS x)) ∧ Below w.heap.size w w' :=
 award_CheckSale.calls 1 x.f0 x.f1 x.f2 x.f3 x.f4 x.f5 x.f6 x.f7 x.f8 _ w (checkSale_f x 0)
end
section
open Go.Shelf
set_option maxRecDepth 100000 in
set_option maxHeartbeats 2000000 in
theorem index_int (g : Nat) (lb : Array Value) (p : Int → Bool) (A : Option Addr) (c : Nat) (l : List Int) (w : World)
  (eg : ∀ args w, (callFunc g args).run Tryz.prog w = .ok (.enter g args) w)
  (hp : ∀ (W : World) (x : Int), x ∈ l → Below w.heap.size w W → Calls Tryz.prog g (#[.int .i64 x] ++ lb) W fun e W' => e = .returned (.bool (p x)) ∧ Below w.heap.size w W')
  (hr : Kd.C (Kd.int .i64) w A l.length l) :
  Calls Tryz.prog 139 #[.slice A l.length c, .func (.func g) #[] lb] w fun e w' => e = .returned (.int .i64 (idxOf p l)) ∧ Below w.heap.size w w' := by
 have hm : l.length ≤ 9223372036854775807 := hr.2.1
 have HR := Aq.mk hr
 have HP := Aq.mk hp
 clear hr hp
 go_enter Tryz.func139, Tryz.ntmps139
 go_wp2
 go_loopg [5, 8] l.length (fun gg _ s8 wr => ∃ kk : Nat, kk ≤ l.length ∧ l.length - kk ≤ gg ∧ s8 = .int .i64 kk ∧ Aq (Below w.heap.size w wr) ∧ Aq (idxOf p l = shifted kk (idxOf p (l.drop kk))))
 case atStart => exact ⟨0, Nat.zero_le _, by omega, rfl, ⟨Below.refl _ w⟩, ⟨shifted_start p l⟩⟩
 case round =>
  obtain ⟨kk, hkk, hg, rfl, BW, A0⟩ := hrel
  by_cases hlt : kk < l.length
  ·have hltz : (kk : Int) < (l.length : Int) := by omega
   have h0 : (0 : Int) ≤ (kk : Int) := by omega
   obtain ⟨ad, e_, hx0⟩ := at_int HR.out (kk : Int) h0 hltz
   cases e_
   obtain ⟨HX, HD⟩ := rd_drop l kk hlt
   generalize rd l (kk : Int) = X at hx0 HX HD
   replace hx0 := (BW.out.cell (World.block_lt_of_cell? w _ hx0)).trans hx0
   simp only [Int.toNat_natCast] at hx0
   have hcall := HP.out wr X (by exact HX) BW.out
   have hd : l.drop kk = X :: l.drop (kk + 1) := HD
   cases hq : p X with
   | true =>
    rw [hq] at hcall
    have HF : Aq (idxOf p l = kk) := ⟨by rw [A0.out, hd, idxOf_yes hq]; simp [shifted]⟩
    clear hd A0 HX HD
    go_wp2_with (go_at_fn g; refine hcall.mono ?_; rintro e w' ⟨rfl, hb'⟩)
    go_ret
    exact ⟨by rw [HF.out]; rfl, hb'⟩
   | false =>
    rw [hq] at hcall
    have HF : Aq (idxOf p l = shifted (kk + 1) (idxOf p (l.drop (kk + 1)))) := ⟨by rw [A0.out, hd, idxOf_no hq, shifted_shifted]⟩
    clear hd A0 HX HD
    go_wp2_with (go_at_fn g; refine hcall.mono ?_; rintro e w' ⟨rfl, hb'⟩)
    go_roundg (l.length - (kk + 1))
    case measure => omega
    case rel => exact ⟨kk + 1, by omega, by omega, by go_num, ⟨hb'⟩, HF⟩
  ·have hltz : ¬ (kk : Int) < (l.length : Int) := by omega
   have HF : Aq (idxOf p l = -1) := ⟨by rw [A0.out, List.drop_eq_nil_of_le (by omega)]; rfl⟩
   clear A0
   go_wp2
   go_ret
   exact ⟨by rw [HF.out]; rfl, BW.out⟩
theorem contains_int (g : Nat) (lb : Array Value) (p : Int → Bool) (A : Option Addr) (c : Nat) (l : List Int) (w : World)
  (eg : ∀ args w, (callFunc g args).run Tryz.prog w = .ok (.enter g args) w)
  (hp : ∀ (W : World) (x : Int), x ∈ l → Below w.heap.size w W → Calls Tryz.prog g (#[.int .i64 x] ++ lb) W fun e W' => e = .returned (.bool (p x)) ∧ Below w.heap.size w W')
  (hr : Kd.C (Kd.int .i64) w A l.length l) :
  Calls Tryz.prog 100 #[.slice A l.length c, .func (.func g) #[] lb] w fun e w' => e = .returned (.bool (l.any p)) ∧ Below w.heap.size w w' := by
 have HI := Aq.mk (index_int g lb p A c l w eg hp hr)
 have HA := Aq.mk (idxOf_any p l)
 clear hp hr eg
 generalize idxOf p l = n at HI HA
 generalize l.any p = b at HA
 go_enter Tryz.func100, Tryz.ntmps100
 go_wp2_with (go_at_call 139; refine HI.out.mono ?_; rintro e w' ⟨rfl, hb'⟩)
 go_ret
 exact ⟨by rw [HA.out]; rfl, hb'⟩
end
section
open Go.Shelf
def award_areParties.f (l : List Int) : Option Bool := some (inB l.length 1 40 && !(l.any fun p => !inB p 1 40))
theorem parties1 (x : Int) (W : World) : Calls Tryz.prog 101 #[.int .i64 x] W fun e W' => e = .returned (.bool (!inB x 1 40)) ∧ W = W' := by
 go_enter Tryz.func101, Tryz.ntmps101
 go_wp2_with (go_at_call 66; refine (in_any _ _ _ _).mono ?_; rintro e w' ⟨rfl, rfl⟩)
 go_ret
 exact ⟨rfl, rfl⟩
theorem award_areParties.calls (A0 : Option Addr) (c0 : Nat) (l0 : List Int) (r : Bool) (w : World) (hr0 : Kd.C (Kd.int .i64) w A0 l0.length l0) (hc0 : l0.length ≤ c0) (h : award_areParties.f l0 = some r) :
  Calls Tryz.prog 67 #[.slice A0 l0.length c0] w fun e w' => e = .returned (.bool r) ∧ Below w.heap.size w w' := by
 obtain rfl := Option.some.inj h
 clear h
 have hm : l0.length ≤ 9223372036854775807 := hr0.2.1
 have hC := Aq.mk (fun W (hb : Below w.heap.size w W) => contains_int 101 #[] (fun p => !inB p 1 40) A0 c0 l0 W (enters_of Tryz.func101 (by kernel_rfl) rfl)
  (fun W2 x _ hb2 => (parties1 x W2).mono fun e W' ⟨he, hw⟩ => by subst hw; exact ⟨he, hb2⟩) (Kd.C_below hr0 hb))
 clear hr0
 generalize (l0.any fun p => !inB p 1 40) = q at hC
 cases hi : inB (l0.length : Int) 1 40 with
 | true =>
  have h66 := fun w => in_any (l0.length : Int) 1 40 w
  simp only [hi] at h66
  clear hi
  go_enter Tryz.func67, Tryz.ntmps67
  go_wp2_with (first | (go_at_call 66; refine (h66 _).mono ?_; rintro e w' ⟨rfl, rfl⟩) | (go_at_call 100; refine (hC.out _ (Below.refl _ _)).mono ?_; rintro e w' ⟨rfl, hb⟩))
  go_ret
  exact ⟨by simp, hb⟩
 | false =>
  have h66 := fun w => in_any (l0.length : Int) 1 40 w
  simp only [hi] at h66
  clear hi hC
  go_enter Tryz.func67, Tryz.ntmps67
  go_wp2_with (go_at_call 66; refine (h66 _).mono ?_; rintro e w' ⟨rfl, rfl⟩)
  go_ret
  exact ⟨by simp, Below.refl _ _⟩
end
end Go.Proofs.YtbicfbnempiocaaGreat.G
section
namespace Go.Proofs.YtbicfbnempiocaaGreatW.PrintLast
open Go Go.RowKit Go.Proofs.YtbicfbnempiocaaGreatW.PrintWords Go.Proofs.YtbicfbnempiocaaGreatW.PrintMore
section
variable {P : Program} {ops : Array Oper} {Q : Exit → Act → World → Prop} {md : Region.Mode} {S : World → Prop} {ds : List Nat}
theorem nM (N : Nat) {fuel : Nat} {l : Array Bool} {b a' : Act} {v : Value} {w : World} (h : wpAnyLast P md ops Q S ds fuel l a' w)
  (ha : b.put (some N) v = a' := by simp only [Act.put, List.setIfInBounds_toArray, List.set_cons_zero, List.set_cons_succ, i64_w, i32_w]; rfl) : wpAnyLast P md ops Q S ds fuel l (b.put (some N) v) w := norm_ ha h
theorem stT (n : Nat) (S : World → Prop) {id : Nat} {a : Act} {w : World} (hS : S w.drew) (h : S w.drew → wpAnyLast P .any ops Q S [] n (Array.replicate n false) a w.drew)
  (hm : P.follows .mixedOrders = true := by kernel_rfl) (hn : ops.size = n := by rfl) : (Code.region id ops true).wp P Q a w := start_ (Array.replicate n false) hm hn rfl hS h
end
end Go.Proofs.YtbicfbnempiocaaGreatW.PrintLast
end
