/- Part 12 of what the law's proof rests on: what each function of the program computes, and that the machine's call of it comes to just that. -/
import Derived.ChangeSame
import Derived.ChangeArms
import Derived.DataReads
import Derived.Deep.Slices
import Derived.Test.YtbicfbnempiocaaGreatZB0
set_option linter.unusedVariables false
set_option linter.unusedSimpArgs false
namespace Go.Proofs.YtbicfbnempiocaaGreat.G
open Go.RowKit Go.Proofs.YtbicfbnempiocaaGreatW.PrintWords Go.Proofs.YtbicfbnempiocaaGreatW.PrintLast Go.Proofs.YtbicfbnempiocaaGreatW.PrintMore
section
open Go.Shelf
open Go.ChangeShapes Go.WideShapes
section
variable {H : Type} {enc : TypeId × Value → H} {P : Program} {w : World} {base : Nat} {spare : Nat → Bool} {held : Bool}
theorem take_one (cs : List Value) (i : Nat) (v : Value) (h : (cs.drop i).take 1 = [v]) : cs[i]? = some v := by
 have : ((cs.drop i).take 1)[0]? = some v := by rw [h]; rfl
 rw [List.getElem?_take, if_pos (by decide), List.getElem?_drop] at this
 simpa using this
theorem row_of_trod {α : Type} (d : Kd α) (ok : α → Prop) {t e : TypeId} (ht : P.underlying t = some (.slice e)) (hC : P.cellsOf e = d.sz)
  (hel : ∀ (n : Nat) (cs : List Value) (y : DataW H × List MemPlace), DataW.trod enc P w base spare held n e cs = some y → ∃ x, d.K w x cs ∧ ok x)
  {A : Option Addr} {len cap : Nat} {dd : DataW H} {ps : List MemPlace} (h : DataW.Trod enc P w base spare held t (.slice A len cap) dd ps) : ∃ l : List α, len = l.length ∧ l.length ≤ cap ∧ Kd.C d w A l.length l ∧ (∀ x ∈ l, ok x) ∧ l.length ≤ maxLen := by
 obtain ⟨fuel, hf⟩ := h
 rcases Go.Deep.open_slice ht hf with ⟨hcs, _⟩ | ⟨a, l, c, m, n, D, Pl, hcs, _, hl, hm, hmm, _, hi⟩
 ·simp [Value.cells] at hcs
  obtain ⟨rfl, rfl, rfl⟩ := hcs
  exact ⟨[], rfl, Nat.le_refl _, ⟨rfl, by simp, fun h => absurd h (by simp)⟩, fun x hx => by simp at hx, by simp⟩
 ·simp [Value.cells] at hcs
  obtain ⟨rfl, rfl, rfl⟩ := hcs
  have hlm : len ≤ m := by rw [hmm]; split <;> omega
  have hx : ∀ i : Fin len, ∃ x : α, (∃ cs, d.K w x cs ∧ ∀ j u, cs[j]? = some u → w.cell? (a.add (i.1 * d.sz + j)) = some u) ∧ ok x := by
   intro i
   obtain ⟨cs', hc, ht'⟩ := hi i.1 (by have := i.2; omega)
   obtain ⟨x, hK, ho⟩ := hel _ _ _ ht'
   obtain ⟨_, hlen, hat⟩ := World.cells?_some hc
   refine ⟨x, ⟨cs', hK, fun j u hj => ?_⟩, ho⟩
   have hjl : j < cs'.length := (List.getElem?_eq_some_iff.1 hj).1
   have := hat j (by omega)
   rw [hC] at this
   rw [← Go.Deep.add_add, this, hj]
  have hlen : (List.ofFn fun i : Fin len => Classical.choose (hx i)).length = len := by simp
  refine ⟨List.ofFn fun i : Fin len => Classical.choose (hx i), hlen.symm, by rw [hlen]; exact hl, ⟨rfl, by rw [hlen]; unfold maxLen at hm; omega, fun h0 => ⟨a, rfl, fun j p hj => ?_⟩⟩, fun x hm_ => ?_, by rw [hlen]; omega⟩
  ·have hjl : j < len := by have := (List.getElem?_eq_some_iff.1 hj).1; omega
   rw [List.getElem?_ofFn, dif_pos hjl] at hj
   obtain rfl := Option.some.inj hj
   obtain ⟨⟨cs, hK, hcell⟩, _⟩ := Classical.choose_spec (hx ⟨j, hjl⟩)
   exact ⟨cs, d.K_len hK, hK, hcell⟩
  ·obtain ⟨i, rfl⟩ := (List.mem_ofFn ..).1 hm_
   exact (Classical.choose_spec (hx i)).2
end
section
variable {H : Type} {enc : TypeId × Value → H} {w : World} {base : Nat} {spare : Nat → Bool} {held : Bool}
def Ok24 (x : S24) : Prop := (Lit.int .i64 x.f0).wf = true ∧ (Lit.int .i64 x.f1).wf = true
set_option maxRecDepth 100000 in
theorem el24 (n : Nat) (cs : List Value) (y : DataW H × List MemPlace) (h : DataW.trod enc Tryz.prog w base spare held n 24 cs = some y) : ∃ x : S24, k24.K w x cs ∧ Ok24 x := by
 obtain ⟨xs, n', _, _, hl, hlen, hf⟩ := DataW.trod_struct Tryz.underlying24 h
 have hl : cs.length = 2 := hl.trans (by kernel_rfl)
 match cs, hl with
 | [c0, c1], _ =>
  match xs, hlen with
  | [y0, y1], _ =>
   obtain ⟨n0, e0, _, w0⟩ := DataW.trod_int (x := y0) Tryz.underlying3 (hf 0 _ rfl)
   obtain rfl : c0 = .int .i64 n0 := Option.some.inj (take_one [c0, c1] 0 _ ((congrArg (fun z => List.take z (List.drop 0 [c0, c1])) (by kernel_rfl : 1 = Tryz.prog.cellsOf 3)).trans e0))
   obtain ⟨n1, e1, _, w1⟩ := DataW.trod_int (x := y1) Tryz.underlying3 (hf 1 _ rfl)
   obtain rfl : c1 = .int .i64 n1 := Option.some.inj (take_one [.int .i64 n0, c1] 1 _ ((congrArg (fun z => List.take z (List.drop 1 [.int .i64 n0, c1])) (by kernel_rfl : 1 = Tryz.prog.cellsOf 3)).trans e1))
   exact ⟨⟨n0, n1⟩, k24_mk w ⟨n0, n1⟩, ⟨w0, w1⟩⟩
def Ok69 (x : S69) : Prop := (Lit.int .i64 x.f0).wf = true ∧ (Lit.int .i64 x.f1).wf = true
set_option maxRecDepth 100000 in
theorem el69 (n : Nat) (cs : List Value) (y : DataW H × List MemPlace) (h : DataW.trod enc Tryz.prog w base spare held n 69 cs = some y) : ∃ x : S69, k69.K w x cs ∧ Ok69 x := by
 obtain ⟨xs, n', _, _, hl, hlen, hf⟩ := DataW.trod_struct Tryz.underlying69 h
 have hl : cs.length = 2 := hl.trans (by kernel_rfl)
 match cs, hl with
 | [c0, c1], _ =>
  match xs, hlen with
  | [y0, y1], _ =>
   obtain ⟨n0, e0, _, w0⟩ := DataW.trod_int (x := y0) Tryz.underlying3 (hf 0 _ rfl)
   obtain rfl : c0 = .int .i64 n0 := Option.some.inj (take_one [c0, c1] 0 _ ((congrArg (fun z => List.take z (List.drop 0 [c0, c1])) (by kernel_rfl : 1 = Tryz.prog.cellsOf 3)).trans e0))
   obtain ⟨n1, e1, _, w1⟩ := DataW.trod_int (x := y1) Tryz.underlying3 (hf 1 _ rfl)
   obtain rfl : c1 = .int .i64 n1 := Option.some.inj (take_one [.int .i64 n0, c1] 1 _ ((congrArg (fun z => List.take z (List.drop 1 [.int .i64 n0, c1])) (by kernel_rfl : 1 = Tryz.prog.cellsOf 3)).trans e1))
   exact ⟨⟨n0, n1⟩, k69_mk w ⟨n0, n1⟩, ⟨w0, w1⟩⟩
def Ok26 (x : S26) : Prop := (Lit.int .i64 x.f0).wf = true ∧ (Lit.int .i64 x.f1).wf = true ∧ (Lit.int .i64 x.f2).wf = true ∧ x.f3.size ≤ maxLen ∧ Ok24 x.f4 ∧ (Lit.int .i64 x.f5).wf = true ∧ (Lit.int .i64 x.f6).wf = true ∧ (Lit.int .i64 x.f7).wf = true
set_option maxRecDepth 100000 in
theorem el26 (n : Nat) (cs : List Value) (y : DataW H × List MemPlace) (h : DataW.trod enc Tryz.prog w base spare held n 26 cs = some y) : ∃ x : S26, k26.K w x cs ∧ Ok26 x := by
 obtain ⟨xs, n', _, _, hl, hlen, hf⟩ := DataW.trod_struct Tryz.underlying26 h
 have hl : cs.length = 9 := hl.trans (by kernel_rfl)
 match cs, hl with
 | [c0, c1, c2, c3, c4, c5, c6, c7, c8], _ =>
  match xs, hlen with
  | [y0, y1, y2, y3, y4, y5, y6, y7], _ =>
   obtain ⟨n0, e0, _, w0⟩ := DataW.trod_int (x := y0) Tryz.underlying3 (hf 0 _ rfl)
   obtain rfl : c0 = .int .i64 n0 := Option.some.inj (take_one [c0, c1, c2, c3, c4, c5, c6, c7, c8] 0 _ ((congrArg (fun z => List.take z (List.drop 0 [c0, c1, c2, c3, c4, c5, c6, c7, c8])) (by kernel_rfl : 1 = Tryz.prog.cellsOf 3)).trans e0))
   obtain ⟨n1, e1, _, w1⟩ := DataW.trod_int (x := y1) Tryz.underlying3 (hf 1 _ rfl)
   obtain rfl : c1 = .int .i64 n1 := Option.some.inj (take_one [.int .i64 n0, c1, c2, c3, c4, c5, c6, c7, c8] 1 _ ((congrArg (fun z => List.take z (List.drop 1 [.int .i64 n0, c1, c2, c3, c4, c5, c6, c7, c8])) (by kernel_rfl : 1 = Tryz.prog.cellsOf 3)).trans e1))
   obtain ⟨n2, e2, _, w2⟩ := DataW.trod_int (x := y2) Tryz.underlying3 (hf 2 _ rfl)
   obtain rfl : c2 = .int .i64 n2 := Option.some.inj (take_one [.int .i64 n0, .int .i64 n1, c2, c3, c4, c5, c6, c7, c8] 2 _ ((congrArg (fun z => List.take z (List.drop 2 [.int .i64 n0, .int .i64 n1, c2, c3, c4, c5, c6, c7, c8])) (by kernel_rfl : 1 = Tryz.prog.cellsOf 3)).trans e2))
   obtain ⟨n3, e3, _, w3⟩ := DataW.trod_string (x := y3) Tryz.underlying9 (hf 3 _ rfl)
   obtain rfl : c3 = .string n3 := Option.some.inj (take_one [.int .i64 n0, .int .i64 n1, .int .i64 n2, c3, c4, c5, c6, c7, c8] 3 _ ((congrArg (fun z => List.take z (List.drop 3 [.int .i64 n0, .int .i64 n1, .int .i64 n2, c3, c4, c5, c6, c7, c8])) (by kernel_rfl : 1 = Tryz.prog.cellsOf 9)).trans e3))
   obtain ⟨n4, e4, w4⟩ := el24 _ _ y4 (hf 4 _ rfl)
   have g4 : [c4, c5] = [.int .i64 n4.f0, .int .i64 n4.f1] := (congrArg (fun z => List.take z (List.drop 4 [.int .i64 n0, .int .i64 n1, .int .i64 n2, .string n3, c4, c5, c6, c7, c8])) (by kernel_rfl : 2 = Tryz.prog.cellsOf 24)).trans (k24_open e4)
   injection g4 with a4_0 g4
   injection g4 with a4_1 g4
   subst a4_0
   subst a4_1
   obtain ⟨n5, e5, _, w5⟩ := DataW.trod_int (x := y5) Tryz.underlying3 (hf 5 _ rfl)
   obtain rfl : c6 = .int .i64 n5 := Option.some.inj (take_one [.int .i64 n0, .int .i64 n1, .int .i64 n2, .string n3, .int .i64 n4.f0, .int .i64 n4.f1, c6, c7, c8] 6 _ ((congrArg (fun z => List.take z (List.drop 6 [.int .i64 n0, .int .i64 n1, .int .i64 n2, .string n3, .int .i64 n4.f0, .int .i64 n4.f1, c6, c7, c8])) (by kernel_rfl : 1 = Tryz.prog.cellsOf 3)).trans e5))
   obtain ⟨n6, e6, _, w6⟩ := DataW.trod_int (x := y6) Tryz.underlying3 (hf 6 _ rfl)
   obtain rfl : c7 = .int .i64 n6 := Option.some.inj (take_one [.int .i64 n0, .int .i64 n1, .int .i64 n2, .string n3, .int .i64 n4.f0, .int .i64 n4.f1, .int .i64 n5, c7, c8] 7 _ ((congrArg (fun z => List.take z (List.drop 7 [.int .i64 n0, .int .i64 n1, .int .i64 n2, .string n3, .int .i64 n4.f0, .int .i64 n4.f1, .int .i64 n5, c7, c8])) (by kernel_rfl : 1 = Tryz.prog.cellsOf 3)).trans e6))
   obtain ⟨n7, e7, _, w7⟩ := DataW.trod_int (x := y7) Tryz.underlying3 (hf 7 _ rfl)
   obtain rfl : c8 = .int .i64 n7 := Option.some.inj (take_one [.int .i64 n0, .int .i64 n1, .int .i64 n2, .string n3, .int .i64 n4.f0, .int .i64 n4.f1, .int .i64 n5, .int .i64 n6, c8] 8 _ ((congrArg (fun z => List.take z (List.drop 8 [.int .i64 n0, .int .i64 n1, .int .i64 n2, .string n3, .int .i64 n4.f0, .int .i64 n4.f1, .int .i64 n5, .int .i64 n6, c8])) (by kernel_rfl : 1 = Tryz.prog.cellsOf 3)).trans e7))
   exact ⟨⟨n0, n1, n2, n3, n4, n5, n6, n7⟩, k26_mk w ⟨n0, n1, n2, n3, n4, n5, n6, n7⟩, ⟨w0, w1, w2, w3, w4, w5, w6, w7⟩⟩
def Ok39 (x : S39) : Prop := (Lit.int .i64 x.f0).wf = true ∧ (Lit.int .i64 x.f1).wf = true ∧ (Lit.int .i64 x.f2).wf = true ∧ (Lit.int .i64 x.f3).wf = true ∧ (Lit.int .i64 x.f4).wf = true ∧ (Lit.int .i64 x.f5).wf = true ∧ (Lit.int .i64 x.f6).wf = true ∧ (Lit.int .i64 x.f7).wf = true ∧ (Lit.int .i64 x.f8).wf = true
set_option maxRecDepth 100000 in
theorem el39 (n : Nat) (cs : List Value) (y : DataW H × List MemPlace) (h : DataW.trod enc Tryz.prog w base spare held n 39 cs = some y) : ∃ x : S39, k39.K w x cs ∧ Ok39 x := by
 obtain ⟨xs, n', _, _, hl, hlen, hf⟩ := DataW.trod_struct Tryz.underlying39 h
 have hl : cs.length = 9 := hl.trans (by kernel_rfl)
 match cs, hl with
 | [c0, c1, c2, c3, c4, c5, c6, c7, c8], _ =>
  match xs, hlen with
  | [y0, y1, y2, y3, y4, y5, y6, y7, y8], _ =>
   obtain ⟨n0, e0, _, w0⟩ := DataW.trod_int (x := y0) Tryz.underlying3 (hf 0 _ rfl)
   obtain rfl : c0 = .int .i64 n0 := Option.some.inj (take_one [c0, c1, c2, c3, c4, c5, c6, c7, c8] 0 _ ((congrArg (fun z => List.take z (List.drop 0 [c0, c1, c2, c3, c4, c5, c6, c7, c8])) (by kernel_rfl : 1 = Tryz.prog.cellsOf 3)).trans e0))
   obtain ⟨n1, e1, _, w1⟩ := DataW.trod_int (x := y1) Tryz.underlying3 (hf 1 _ rfl)
   obtain rfl : c1 = .int .i64 n1 := Option.some.inj (take_one [.int .i64 n0, c1, c2, c3, c4, c5, c6, c7, c8] 1 _ ((congrArg (fun z => List.take z (List.drop 1 [.int .i64 n0, c1, c2, c3, c4, c5, c6, c7, c8])) (by kernel_rfl : 1 = Tryz.prog.cellsOf 3)).trans e1))
   obtain ⟨n2, e2, _, w2⟩ := DataW.trod_int (x := y2) Tryz.underlying3 (hf 2 _ rfl)
   obtain rfl : c2 = .int .i64 n2 := Option.some.inj (take_one [.int .i64 n0, .int .i64 n1, c2, c3, c4, c5, c6, c7, c8] 2 _ ((congrArg (fun z => List.take z (List.drop 2 [.int .i64 n0, .int .i64 n1, c2, c3, c4, c5, c6, c7, c8])) (by kernel_rfl : 1 = Tryz.prog.cellsOf 3)).trans e2))
   obtain ⟨n3, e3, _, w3⟩ := DataW.trod_int (x := y3) Tryz.underlying3 (hf 3 _ rfl)
   obtain rfl : c3 = .int .i64 n3 := Option.some.inj (take_one [.int .i64 n0, .int .i64 n1, .int .i64 n2, c3, c4, c5, c6, c7, c8] 3 _ ((congrArg (fun z => List.take z (List.drop 3 [.int .i64 n0, .int .i64 n1, .int .i64 n2, c3, c4, c5, c6, c7, c8])) (by kernel_rfl : 1 = Tryz.prog.cellsOf 3)).trans e3))
   obtain ⟨n4, e4, _, w4⟩ := DataW.trod_int (x := y4) Tryz.underlying3 (hf 4 _ rfl)
   obtain rfl : c4 = .int .i64 n4 := Option.some.inj (take_one [.int .i64 n0, .int .i64 n1, .int .i64 n2, .int .i64 n3, c4, c5, c6, c7, c8] 4 _ ((congrArg (fun z => List.take z (List.drop 4 [.int .i64 n0, .int .i64 n1, .int .i64 n2, .int .i64 n3, c4, c5, c6, c7, c8])) (by kernel_rfl : 1 = Tryz.prog.cellsOf 3)).trans e4))
   obtain ⟨n5, e5, _, w5⟩ := DataW.trod_int (x := y5) Tryz.underlying3 (hf 5 _ rfl)
   obtain rfl : c5 = .int .i64 n5 := Option.some.inj (take_one [.int .i64 n0, .int .i64 n1, .int .i64 n2, .int .i64 n3, .int .i64 n4, c5, c6, c7, c8] 5 _ ((congrArg (fun z => List.take z (List.drop 5 [.int .i64 n0, .int .i64 n1, .int .i64 n2, .int .i64 n3, .int .i64 n4, c5, c6, c7, c8])) (by kernel_rfl : 1 = Tryz.prog.cellsOf 3)).trans e5))
   obtain ⟨n6, e6, _, w6⟩ := DataW.trod_int (x := y6) Tryz.underlying3 (hf 6 _ rfl)
   obtain rfl : c6 = .int .i64 n6 := Option.some.inj (take_one [.int .i64 n0, .int .i64 n1, .int .i64 n2, .int .i64 n3, .int .i64 n4, .int .i64 n5, c6, c7, c8] 6 _ ((congrArg (fun z => List.take z (List.drop 6 [.int .i64 n0, .int .i64 n1, .int .i64 n2, .int .i64 n3, .int .i64 n4, .int .i64 n5, c6, c7, c8])) (by kernel_rfl : 1 = Tryz.prog.cellsOf 3)).trans e6))
   obtain ⟨n7, e7, _, w7⟩ := DataW.trod_int (x := y7) Tryz.underlying3 (hf 7 _ rfl)
   obtain rfl : c7 = .int .i64 n7 := Option.some.inj (take_one [.int .i64 n0, .int .i64 n1, .int .i64 n2, .int .i64 n3, .int .i64 n4, .int .i64 n5, .int .i64 n6, c7, c8] 7 _ ((congrArg (fun z => List.take z (List.drop 7 [.int .i64 n0, .int .i64 n1, .int .i64 n2, .int .i64 n3, .int .i64 n4, .int .i64 n5, .int .i64 n6, c7, c8])) (by kernel_rfl : 1 = Tryz.prog.cellsOf 3)).trans e7))
   obtain ⟨n8, e8, _, w8⟩ := DataW.trod_int (x := y8) Tryz.underlying3 (hf 8 _ rfl)
   obtain rfl : c8 = .int .i64 n8 := Option.some.inj (take_one [.int .i64 n0, .int .i64 n1, .int .i64 n2, .int .i64 n3, .int .i64 n4, .int .i64 n5, .int .i64 n6, .int .i64 n7, c8] 8 _ ((congrArg (fun z => List.take z (List.drop 8 [.int .i64 n0, .int .i64 n1, .int .i64 n2, .int .i64 n3, .int .i64 n4, .int .i64 n5, .int .i64 n6, .int .i64 n7, c8])) (by kernel_rfl : 1 = Tryz.prog.cellsOf 3)).trans e8))
   exact ⟨⟨n0, n1, n2, n3, n4, n5, n6, n7, n8⟩, k39_mk w ⟨n0, n1, n2, n3, n4, n5, n6, n7, n8⟩, ⟨w0, w1, w2, w3, w4, w5, w6, w7, w8⟩⟩
end
end
end Go.Proofs.YtbicfbnempiocaaGreat.G
