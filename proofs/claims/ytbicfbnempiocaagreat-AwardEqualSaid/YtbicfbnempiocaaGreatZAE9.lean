/- Part 10 of what the law's proof rests on: what each function of the program computes, and that the machine's call of it comes to just that. -/
import Derived.Test.YtbicfbnempiocaaGreatZAE0
import Derived.Test.YtbicfbnempiocaaGreatZAE1
import Derived.Test.YtbicfbnempiocaaGreatZAE2
import Derived.Test.YtbicfbnempiocaaGreatZAE3
import Derived.Test.YtbicfbnempiocaaGreatZAE4
import Derived.Test.YtbicfbnempiocaaGreatZAE5
import Derived.Test.YtbicfbnempiocaaGreatZAE6
import Derived.Test.YtbicfbnempiocaaGreatZAE7
import Derived.Test.YtbicfbnempiocaaGreatZAE8
set_option linter.unusedVariables false
set_option linter.unusedSimpArgs false
namespace Go.Proofs.YtbicfbnempiocaaGreat.G
open Go.RowKit Go.Proofs.YtbicfbnempiocaaGreatW.PrintWords Go.Proofs.YtbicfbnempiocaaGreatW.PrintLast Go.Proofs.YtbicfbnempiocaaGreatW.PrintMore
section
open Go.Shelf
theorem lit_ints (W : World) (xs : List Int) (h : xs.length ≤ 1000) : Kd.C (Kd.int .i64) (W.alloc (.cells (xs.map (Value.int .i64)).toArray 3)) (some ⟨W.heap.size, 0, none⟩) xs.length xs := by
 have ho := World.ownsRow_lit (base := W.heap.size) (e := 3) (size := 1) W (xs.map (Value.int .i64)).toArray xs.length (Nat.le_refl _) (by unfold maxLen; omega) (by simp)
 have hR : Kd.R (Kd.int .i64) 3 (W.alloc (.cells (xs.map (Value.int .i64)).toArray 3)) W.heap.size (fun _ => True) (.slice (some ⟨W.heap.size, 0, none⟩) xs.length xs.length) xs := Kd.R_of_own (by simpa [encs] using ho) (fun _ _ => trivial)
 exact (Kd.R_reads' hR).2.2
theorem lit_4 (W : World) : Kd.C (Kd.int .i64) (W.alloc (.cells #[.int .i64 4] 3)) (some ⟨W.heap.size, 0, none⟩) 1 [4] := lit_ints W [4] (by decide)
theorem lit_454 (W : World) : Kd.C (Kd.int .i64) (W.alloc (.cells #[.int .i64 4, .int .i64 5, .int .i64 4] 3)) (some ⟨W.heap.size, 0, none⟩) 3 [4, 5, 4] := lit_ints W [4, 5, 4] (by decide)
theorem lit_010 (W : World) : Kd.C (Kd.int .i64) (W.alloc (.cells #[.int .i64 0, .int .i64 10] 3)) (some ⟨W.heap.size, 0, none⟩) 2 [0, 10] := lit_ints W [0, 10] (by decide)
theorem lit_332 (W : World) : Kd.C (Kd.int .i64) (W.alloc (.cells #[.int .i64 3, .int .i64 3, .int .i64 2] 3)) (some ⟨W.heap.size, 0, none⟩) 3 [3, 3, 2] := lit_ints W [3, 3, 2] (by decide)
theorem lit_2 (W : World) (a b : S69) : Kd.C k69 (W.alloc (.cells #[.int .i64 a.f0, .int .i64 a.f1, .int .i64 b.f0, .int .i64 b.f1] 69)) (some ⟨W.heap.size, 0, none⟩) 2 [a, b] := by
 have hR : Kd.R k69 69 (W.alloc (.cells #[.int .i64 a.f0, .int .i64 a.f1, .int .i64 b.f0, .int .i64 b.f1] 69)) W.heap.size (fun _ => True) (.slice (some ⟨W.heap.size, 0, none⟩) 2 2) [a, b] :=
  ⟨fun _ _ => trivial, [.int .i64 a.f0, .int .i64 a.f1, .int .i64 b.f0, .int .i64 b.f1], World.ownsRow_lit (base := W.heap.size) (e := 69) (size := 2) W #[.int .i64 a.f0, .int .i64 a.f1, .int .i64 b.f0, .int .i64 b.f1] 2 (Nat.le_refl _) (by decide) rfl, Reps.c2 (k69_mkM _ _ _ a) (Reps.c2 (k69_mkM _ _ _ b) (Reps.none _ _))⟩
 exact (Kd.R_reads' hR).2.2
theorem lit_2' (W : World) (c : Obj) (a b : S69) : Kd.C k69 ((W.alloc c).alloc (.cells #[.int .i64 a.f0, .int .i64 a.f1, .int .i64 b.f0, .int .i64 b.f1] 69)) (some ⟨W.heap.size + 1, 0, none⟩) 2 [a, b] := by
 have h := lit_2 (W.alloc c) a b
 have e : (W.alloc c).heap.size = W.heap.size + 1 := by simp
 rw [e] at h
 exact h
theorem lit_3 (W : World) (a b c : S69) : Kd.C k69 (W.alloc (.cells #[.int .i64 a.f0, .int .i64 a.f1, .int .i64 b.f0, .int .i64 b.f1, .int .i64 c.f0, .int .i64 c.f1] 69)) (some ⟨W.heap.size, 0, none⟩) 3 [a, b, c] := by
 have hR : Kd.R k69 69 (W.alloc (.cells #[.int .i64 a.f0, .int .i64 a.f1, .int .i64 b.f0, .int .i64 b.f1, .int .i64 c.f0, .int .i64 c.f1] 69)) W.heap.size (fun _ => True) (.slice (some ⟨W.heap.size, 0, none⟩) 3 3) [a, b, c] :=
  ⟨fun _ _ => trivial, [.int .i64 a.f0, .int .i64 a.f1, .int .i64 b.f0, .int .i64 b.f1, .int .i64 c.f0, .int .i64 c.f1], World.ownsRow_lit (base := W.heap.size) (e := 69) (size := 2) W #[.int .i64 a.f0, .int .i64 a.f1, .int .i64 b.f0, .int .i64 b.f1, .int .i64 c.f0, .int .i64 c.f1] 3 (Nat.le_refl _) (by decide) rfl, Reps.c2 (k69_mkM _ _ _ a) (Reps.c2 (k69_mkM _ _ _ b) (Reps.c2 (k69_mkM _ _ _ c) (Reps.none _ _)))⟩
 exact (Kd.R_reads' hR).2.2
theorem lit_5 (W : World) (a b c d : S69) : Kd.C k69 (W.alloc (.cells #[.int .i64 a.f0, .int .i64 a.f1, .int .i64 b.f0, .int .i64 b.f1, .int .i64 c.f0, .int .i64 c.f1, .int .i64 d.f0, .int .i64 d.f1] 69)) (some ⟨W.heap.size, 0, none⟩) 4 [a, b, c, d] := by
 have hR : Kd.R k69 69 (W.alloc (.cells #[.int .i64 a.f0, .int .i64 a.f1, .int .i64 b.f0, .int .i64 b.f1, .int .i64 c.f0, .int .i64 c.f1, .int .i64 d.f0, .int .i64 d.f1] 69)) W.heap.size (fun _ => True) (.slice (some ⟨W.heap.size, 0, none⟩) 4 4) [a, b, c, d] :=
  ⟨fun _ _ => trivial, [.int .i64 a.f0, .int .i64 a.f1, .int .i64 b.f0, .int .i64 b.f1, .int .i64 c.f0, .int .i64 c.f1, .int .i64 d.f0, .int .i64 d.f1], World.ownsRow_lit (base := W.heap.size) (e := 69) (size := 2) W #[.int .i64 a.f0, .int .i64 a.f1, .int .i64 b.f0, .int .i64 b.f1, .int .i64 c.f0, .int .i64 c.f1, .int .i64 d.f0, .int .i64 d.f1] 4 (Nat.le_refl _) (by decide) rfl, Reps.c2 (k69_mkM _ _ _ a) (Reps.c2 (k69_mkM _ _ _ b) (Reps.c2 (k69_mkM _ _ _ c) (Reps.c2 (k69_mkM _ _ _ d) (Reps.none _ _))))⟩
 exact (Kd.R_reads' hR).2.2
theorem lit_t (W : World) (a b : S71) : Kd.C k71 (W.alloc (.cells #[.int .i64 a.f0, .int .i64 a.f1.f0, .int .i64 a.f1.f1, .int .i64 b.f0, .int .i64 b.f1.f0, .int .i64 b.f1.f1] 71)) (some ⟨W.heap.size, 0, none⟩) 2 [a, b] := by
 have hR : Kd.R k71 71 (W.alloc (.cells #[.int .i64 a.f0, .int .i64 a.f1.f0, .int .i64 a.f1.f1, .int .i64 b.f0, .int .i64 b.f1.f0, .int .i64 b.f1.f1] 71)) W.heap.size (fun _ => True) (.slice (some ⟨W.heap.size, 0, none⟩) 2 2) [a, b] :=
  ⟨fun _ _ => trivial, [.int .i64 a.f0, .int .i64 a.f1.f0, .int .i64 a.f1.f1, .int .i64 b.f0, .int .i64 b.f1.f0, .int .i64 b.f1.f1], World.ownsRow_lit (base := W.heap.size) (e := 71) (size := 3) W #[.int .i64 a.f0, .int .i64 a.f1.f0, .int .i64 a.f1.f1, .int .i64 b.f0, .int .i64 b.f1.f0, .int .i64 b.f1.f1] 2 (Nat.le_refl _) (by decide) rfl, Reps.c3 (k71_mkM _ _ _ a) (Reps.c3 (k71_mkM _ _ _ b) (Reps.none _ _))⟩
 exact (Kd.R_reads' hR).2.2
theorem lit_t' (W : World) (c : Obj) (a b : S71) : Kd.C k71 ((W.alloc c).alloc (.cells #[.int .i64 a.f0, .int .i64 a.f1.f0, .int .i64 a.f1.f1, .int .i64 b.f0, .int .i64 b.f1.f0, .int .i64 b.f1.f1] 71)) (some ⟨W.heap.size + 1, 0, none⟩) 2 [a, b] := by
 have h := lit_t (W.alloc c) a b
 have e : (W.alloc c).heap.size = W.heap.size + 1 := by simp
 rw [e] at h
 exact h
section
variable (A A' A'' : Option Addr) (c c' c'' : Nat) (W : World)
theorem p_table : Calls Tryz.prog 53 #[] W fun e w' => ∃ A c, e = .returned (.slice A 4 c) ∧ 4 ≤ c ∧ Kd.C k26 w' A 4 tableL ∧ Below W.heap.size W w' :=
 (laganlaw06_table.calls tableL W pv_table).mono fun e w' ⟨v, he, hR, hb⟩ => by obtain ⟨A, c, rfl, hc, hC⟩ := Kd.R_reads hR; exact ⟨A, c, he, hc, hC, hb⟩
theorem p_sold : Calls Tryz.prog 54 #[] W fun e w' => ∃ A c, e = .returned (.slice A 2 c) ∧ 2 ≤ c ∧ Kd.C k39 w' A 2 soldL ∧ Below W.heap.size W w' :=
 (laganlaw06_sold.calls soldL W pv_sold).mono fun e w' ⟨v, he, hR, hb⟩ => by obtain ⟨A, c, rfl, hc, hC⟩ := Kd.R_reads hR; exact ⟨A, c, he, hc, hC, hb⟩
theorem p_rate1 (h : Kd.C k26 W A 4 tableL) (hc : 4 ≤ c) : Calls Tryz.prog 17 #[.slice A 4 c, .string ⟨#[111, 105, 108]⟩, .int .i64 12, .int .i64 50] W fun e w' => e = .returned (.tuple #[.agg #[.int .i64 3, .int .i64 50, .int .i64 10, .string ⟨#[111, 105, 108]⟩, .int .i64 1, .int .i64 2, .int .i64 10, .int .i64 3, .int .i64 0], .int .i64 0]) ∧ Below W.heap.size W w' := award_RateOf.calls A c tableL _ _ _ _ _ _ _ _ _ _ _ _ _ W h hc pv_rate1
theorem p_rate2 (h : Kd.C k26 W A 4 tableL) (hc : 4 ≤ c) : Calls Tryz.prog 17 #[.slice A 4 c, .string ⟨#[111, 105, 108]⟩, .int .i64 12, .int .i64 90] W fun e w' => e = .returned (.tuple #[.agg #[.int .i64 2, .int .i64 0, .int .i64 0, .string ⟨#[111, 105, 108]⟩, .int .i64 1, .int .i64 3, .int .i64 10, .int .i64 3, .int .i64 0], .int .i64 0]) ∧ Below W.heap.size W w' := award_RateOf.calls A c tableL _ _ _ _ _ _ _ _ _ _ _ _ _ W h hc pv_rate2
theorem p_touched (h : Kd.C k26 W A 4 tableL) : Calls Tryz.prog 19 #[.slice A 2 2, .agg #[.int .i64 3, .int .i64 50, .int .i64 10, .string ⟨#[111, 105, 108]⟩, .int .i64 1, .int .i64 2, .int .i64 10, .int .i64 3, .int .i64 0], .string ⟨#[111, 105, 108]⟩] W fun e w' => e = .returned (.tuple #[.int .i64 10, .int .i64 1000000, .bool true, .int .i64 0]) ∧ Below W.heap.size W w' :=
 award_Touched.calls 50 A 2 (tableL.take 2) _ _ _ _ _ _ _ _ _ _ _ _ _ _ W (Kd.C_take (xs := tableL) h (by decide)) (by decide) pv_touched
theorem p_awarded (h : Kd.C (Kd.int .i64) W A 3 [4, 5, 4]) : Calls Tryz.prog 37 #[.agg #[.int .i64 3, .int .i64 50, .int .i64 10, .string ⟨#[111, 105, 108]⟩, .int .i64 1, .int .i64 2, .int .i64 10, .int .i64 3, .int .i64 0], .agg #[.int .i64 1, .int .i64 60, .int .i64 55, .int .i64 10, .int .i64 100, .int .i64 7, .int .i64 8, .int .i64 30, .int .i64 0], .slice A 3 3] W fun e w' => ∃ A1 c1, e = .returned (.tuple #[.agg #[.int .i64 100, .int .i64 10, .int .i64 3, .int .i64 50, .int .i64 37, .slice A1 4 c1], .int .i64 0]) ∧ 4 ≤ c1 ∧ Kd.R k69 69 w' W.heap.size (fun _ => True) (.slice A1 4 c1) [⟨4, 33⟩, ⟨5, 17⟩, ⟨7, 10⟩, ⟨8, 3⟩] ∧ Below W.heap.size W w' :=
 (award_Awarded.calls _ _ _ _ _ _ _ _ _ _ _ _ _ _ _ _ _ _ A 3 [4, 5, 4] _ _ _ _ _ _ _ W h (by decide) pv_awarded).mono fun e w' ⟨v, he, hR, hb⟩ => by obtain ⟨A, c, rfl, hc, hC⟩ := Kd.R_reads hR; exact ⟨A, c, he, hc, hR, hb⟩
theorem p_awardOf (h : Kd.C k26 W A 4 tableL) (hc : 4 ≤ c) (h' : Kd.C k39 W A' 2 soldL) (hc' : 2 ≤ c') (h'' : Kd.C (Kd.int .i64) W A'' 1 [4]) : Calls Tryz.prog 34 #[.slice A 4 c, .slice A' 2 c', .int .i64 10, .string ⟨#[111, 105, 108]⟩, .int .i64 5, .int .i64 60, .slice A'' 1 1] W fun e w' => ∃ A1 c1, e = .returned (.tuple #[.agg #[.int .i64 100, .int .i64 10, .int .i64 3, .int .i64 33, .int .i64 54, .slice A1 3 c1], .int .i64 0]) ∧ Below W.heap.size W w' :=
 (award_AwardOf.calls A c tableL A' c' soldL _ _ _ _ A'' 1 [4] _ _ _ _ _ _ _ W h hc h' hc' h'' (by decide) pv_awardOf).mono fun e w' ⟨v, he, hR, hb⟩ => by obtain ⟨A, c, rfl, hc, hC⟩ := Kd.R_reads hR; exact ⟨A, c, he, hb⟩
theorem p_divide (h : Kd.C k71 W A 2 [⟨0, ⟨1, 2⟩⟩, ⟨3, ⟨1, 3⟩⟩]) : Calls Tryz.prog 28 #[.int .i64 37, .slice A 2 2] W fun e w' => ∃ A1 c1, e = .returned (.tuple #[.slice A1 2 c1, .int .i64 7, .int .i64 0]) ∧ 2 ≤ c1 ∧ Kd.C k69 w' A1 2 [⟨0, 18⟩, ⟨3, 12⟩] ∧ Below W.heap.size W w' :=
 (award_Divide.calls 37 A 2 [⟨0, ⟨1, 2⟩⟩, ⟨3, ⟨1, 3⟩⟩] _ _ _ W h (by decide) pv_divide).mono fun e w' ⟨v, he, hR, hb⟩ => by obtain ⟨A, c, rfl, hc, hC⟩ := Kd.R_reads hR; exact ⟨A, c, he, hc, hC, hb⟩
theorem p_equal (h : Kd.C (Kd.int .i64) W A 3 [4, 5, 4]) : Calls Tryz.prog 26 #[.int .i64 8, .slice A 3 3] W fun e w' => ∃ A1 c1, e = .returned (.tuple #[.slice A1 3 c1, .int .i64 0]) ∧ 3 ≤ c1 ∧ Kd.C (Kd.int .i64) w' A1 3 [3, 3, 2] ∧ Below W.heap.size W w' :=
 (award_Equal.calls 50 8 A 3 [4, 5, 4] _ _ W h (by decide) pv_equal).mono fun e w' ⟨v, he, hR, hb⟩ => by obtain ⟨A, c, rfl, hc, hC⟩ := Kd.R_reads hR; exact ⟨A, c, he, hc, hC, hb⟩
theorem p_change (h : Kd.C k69 W A 2 [⟨4, 33⟩, ⟨7, 10⟩]) (h' : Kd.C k69 W A' 2 [⟨4, 50⟩, ⟨8, 3⟩]) : Calls Tryz.prog 42 #[.slice A 2 2, .slice A' 2 2] W fun e w' => ∃ A1 c1, e = .returned (.tuple #[.slice A1 3 c1, .int .i64 0]) ∧ 3 ≤ c1 ∧ Kd.C k69 w' A1 3 [⟨4, 17⟩, ⟨7, -10⟩, ⟨8, 3⟩] ∧ Below W.heap.size W w' :=
 (award_Change.calls A 2 [⟨4, 33⟩, ⟨7, 10⟩] A' 2 [⟨4, 50⟩, ⟨8, 3⟩] _ _ W h (by decide) h' (by decide) pv_change).mono fun e w' ⟨v, he, hR, hb⟩ => by obtain ⟨A, c, rfl, hc, hC⟩ := Kd.R_reads hR; exact ⟨A, c, he, hc, hC, hb⟩
theorem p_turns (h : Kd.C k26 W A 4 tableL) (hc : 4 ≤ c) : Calls Tryz.prog 22 #[.slice A 4 c, .string ⟨#[111, 105, 108]⟩, .int .i64 50] W fun e w' => ∃ A1 c1, e = .returned (.slice A1 2 c1) ∧ 2 ≤ c1 ∧ Kd.C (Kd.int .i64) w' A1 2 [0, 10] ∧ Below W.heap.size W w' :=
 (award_Turns.calls 50 A c tableL _ _ _ W h hc pv_turns).mono fun e w' ⟨v, he, hR, hb⟩ => by obtain ⟨A, c, rfl, hc, hC⟩ := Kd.R_reads hR; exact ⟨A, c, he, hc, hC, hb⟩
theorem p_ints (xs : List Int) (hv : laganref06_SameInts.f 50 xs xs = some true) (h : Kd.C (Kd.int .i64) W A xs.length xs) (hc : xs.length ≤ c) (h' : Kd.C (Kd.int .i64) W A' xs.length xs) (hc' : xs.length ≤ c') : Calls Tryz.prog 21 #[.slice A xs.length c, .slice A' xs.length c'] W fun e w' => e = .returned (.bool true) ∧ Below W.heap.size W w' :=
 (laganref06_SameInts.calls 50 A c xs A' c' xs true W h hc h' hc' hv).mono fun e w' ⟨he, hd⟩ => ⟨he, hd.below⟩
theorem p_shares (xs : List S69) (hv : laganref06_SameShares.f 50 xs xs = some true) (h : Kd.C k69 W A xs.length xs) (hc : xs.length ≤ c) (h' : Kd.C k69 W A' xs.length xs) (hc' : xs.length ≤ c') : Calls Tryz.prog 30 #[.slice A xs.length c, .slice A' xs.length c'] W fun e w' => e = .returned (.bool true) ∧ Below W.heap.size W w' :=
 (laganref06_SameShares.calls 50 A c xs A' c' xs true W h hc h' hc' hv).mono fun e w' ⟨he, hd⟩ => ⟨he, hd.below⟩
theorem p_ints2 (h : Kd.C (Kd.int .i64) W A 2 [0, 10]) (hc : 2 ≤ c) (h' : Kd.C (Kd.int .i64) W A' 2 [0, 10]) : Calls Tryz.prog 21 #[.slice A 2 c, .slice A' 2 2] W fun e w' => e = .returned (.bool true) ∧ Below W.heap.size W w' := p_ints A A' c 2 W [0, 10] (by kernel_rfl) h hc h' (Nat.le_refl _)
theorem p_ints3 (h : Kd.C (Kd.int .i64) W A 3 [3, 3, 2]) (hc : 3 ≤ c) (h' : Kd.C (Kd.int .i64) W A' 3 [3, 3, 2]) : Calls Tryz.prog 21 #[.slice A 3 c, .slice A' 3 3] W fun e w' => e = .returned (.bool true) ∧ Below W.heap.size W w' := p_ints A A' c 3 W [3, 3, 2] (by kernel_rfl) h hc h' (Nat.le_refl _)
theorem p_sh4 (h : Kd.C k69 W A 4 [⟨4, 33⟩, ⟨5, 17⟩, ⟨7, 10⟩, ⟨8, 3⟩]) (hc : 4 ≤ c) (h' : Kd.C k69 W A' 4 [⟨4, 33⟩, ⟨5, 17⟩, ⟨7, 10⟩, ⟨8, 3⟩]) : Calls Tryz.prog 30 #[.slice A 4 c, .slice A' 4 4] W fun e w' => e = .returned (.bool true) ∧ Below W.heap.size W w' := p_shares A A' c 4 W [⟨4, 33⟩, ⟨5, 17⟩, ⟨7, 10⟩, ⟨8, 3⟩] (by kernel_rfl) h hc h' (Nat.le_refl _)
theorem p_sh2 (h : Kd.C k69 W A 2 [⟨0, 18⟩, ⟨3, 12⟩]) (hc : 2 ≤ c) (h' : Kd.C k69 W A' 2 [⟨0, 18⟩, ⟨3, 12⟩]) : Calls Tryz.prog 30 #[.slice A 2 c, .slice A' 2 2] W fun e w' => e = .returned (.bool true) ∧ Below W.heap.size W w' := p_shares A A' c 2 W [⟨0, 18⟩, ⟨3, 12⟩] (by kernel_rfl) h hc h' (Nat.le_refl _)
theorem p_sh3 (h : Kd.C k69 W A 3 [⟨4, 17⟩, ⟨7, -10⟩, ⟨8, 3⟩]) (hc : 3 ≤ c) (h' : Kd.C k69 W A' 3 [⟨4, 17⟩, ⟨7, -10⟩, ⟨8, 3⟩]) : Calls Tryz.prog 30 #[.slice A 3 c, .slice A' 3 3] W fun e w' => e = .returned (.bool true) ∧ Below W.heap.size W w' := p_shares A A' c 3 W [⟨4, 17⟩, ⟨7, -10⟩, ⟨8, 3⟩] (by kernel_rfl) h hc h' (Nat.le_refl _)
end
theorem cells_t (ad : Addr) (W : World) (h : Kd.C k26 W (some ad) 4 tableL) : W.cell? ⟨ad.block, ad.off + 18, none⟩ = some (.int .i64 3) ∧ W.cell? ⟨ad.block, ad.off + 18 + 1, none⟩ = some (.int .i64 50) ∧ W.cell? ⟨ad.block, ad.off + 18 + 2, none⟩ = some (.int .i64 10) ∧ W.cell? ⟨ad.block, ad.off + 18 + 3, none⟩ = some (.string ⟨#[111, 105, 108]⟩) ∧ W.cell? ⟨ad.block, ad.off + 18 + 4, none⟩ = some (.int .i64 1) ∧ W.cell? ⟨ad.block, ad.off + 18 + 5, none⟩ = some (.int .i64 2) ∧ W.cell? ⟨ad.block, ad.off + 18 + 6, none⟩ = some (.int .i64 10) ∧ W.cell? ⟨ad.block, ad.off + 18 + 7, none⟩ = some (.int .i64 3) ∧ W.cell? ⟨ad.block, ad.off + 18 + 8, none⟩ = some (.int .i64 0) := by
 obtain ⟨ad', e, h0, h1, h2, h3, h4, h5, h6, h7, h8⟩ := at_T26 (xs := tableL) h 2 (by decide) (by decide)
 cases e
 simp only [show (2 : Int).toNat = 2 from rfl, Nat.reduceMul, Nat.reduceEqDiff, Go.Addr.add, ↓reduceIte] at h0 h1 h2 h3 h4 h5 h6 h7 h8
 exact ⟨h0, h1, h2, h3, h4, h5, h6, h7, h8⟩
theorem cells_s (ad : Addr) (W : World) (h : Kd.C k39 W (some ad) 2 soldL) : W.cell? ad = some (.int .i64 1) ∧ W.cell? ⟨ad.block, ad.off + 1, none⟩ = some (.int .i64 60) ∧ W.cell? ⟨ad.block, ad.off + 2, none⟩ = some (.int .i64 55) ∧ W.cell? ⟨ad.block, ad.off + 3, none⟩ = some (.int .i64 10) ∧ W.cell? ⟨ad.block, ad.off + 4, none⟩ = some (.int .i64 100) ∧ W.cell? ⟨ad.block, ad.off + 5, none⟩ = some (.int .i64 7) ∧ W.cell? ⟨ad.block, ad.off + 6, none⟩ = some (.int .i64 8) ∧ W.cell? ⟨ad.block, ad.off + 7, none⟩ = some (.int .i64 30) ∧ W.cell? ⟨ad.block, ad.off + 8, none⟩ = some (.int .i64 0) := by
 obtain ⟨ad', e, h0, h1, h2, h3, h4, h5, h6, h7, h8⟩ := at_T39 (xs := soldL) h 0 (by decide) (by decide)
 cases e
 simp only [show (0 : Int).toNat = 0 from rfl, Nat.reduceMul, Nat.reduceEqDiff, Go.Addr.add, ↓reduceIte] at h0 h1 h2 h3 h4 h5 h6 h7 h8
 exact ⟨h0, h1, h2, h3, h4, h5, h6, h7, h8⟩
set_option maxRecDepth 100000 in
set_option maxHeartbeats 4000000 in
theorem paid_any (w : World) : Calls Tryz.prog 16 #[] w fun e w' => e = .returned (.bool true) ∧ Below w.heap.size w w' := by
 go_enter Tryz.func16, Tryz.ntmps16
 go_wp2_with (first
  | (go_at_call 53; go_must (refine (p_table _).mono ?_; rintro e w1 ⟨A1, c1, rfl, hc1, hC1, hb1⟩; have CT := Aside0.mk hC1; have NT := Aside0.mk hc1; have B0 := Aside0.mk hb1; have B1 := Aside0.mk (Below.refl w1.heap.size w1); clear hc1 hC1 hb1))
  | (go_at_call 54; go_must (refine (p_sold _).mono ?_; rintro e w2 ⟨A2, c2, rfl, hc2, hC2, hb2⟩; have CS := Aside0.mk hC2; have NS := Aside0.mk hc2; have n0_ := Aside0.mk (below_step B0.out hb2); have n1_ := Aside0.mk (below_step B1.out hb2); have B2 := Aside0.mk (Below.refl w2.heap.size w2); clear hc2 hC2 hb2 B0 B1; have B0 := n0_; have B1 := n1_; clear n0_ n1_))
  | (go_at_call 17; (with_reducible refine (p_rate1 A1 c1 _ (Kd.C_below CT.out B1.out) NT.out).mono ?_); rintro e w3 ⟨rfl, hb3⟩; have n0_ := Aside0.mk (below_step B0.out hb3); have n1_ := Aside0.mk (below_step B1.out hb3); have n2_ := Aside0.mk (below_step B2.out hb3); clear hb3 B0 B1 B2; have B0 := n0_; have B1 := n1_; have B2 := n2_; clear n0_ n1_ n2_; have X3 := Aside0.mk (heap_alloc_new w3 (.cells #[.int .i64 3, .int .i64 50, .int .i64 10, .string ⟨#[111, 105, 108]⟩, .int .i64 1, .int .i64 2, .int .i64 10, .int .i64 3, .int .i64 0] 26)))
  | (go_at_call 17; (with_reducible refine (p_rate2 A1 c1 _ (Kd.C_below CT.out (below_alloc B1.out _)) NT.out).mono ?_); rintro e w4 ⟨rfl, hb4⟩; have n0_ := Aside0.mk (below_step (below_alloc B0.out _) hb4); have n1_ := Aside0.mk (below_step (below_alloc B1.out _) hb4); have n2_ := Aside0.mk (below_step (below_alloc B2.out _) hb4); have n3_ := Aside0.mk (blk_below X3.out hb4); clear hb4 B0 B1 B2 X3; have B0 := n0_; have B1 := n1_; have B2 := n2_; have X3 := n3_; clear n0_ n1_ n2_ n3_; have X5 := Aside0.mk (heap_alloc_new w4 (.cells #[.int .i64 2, .int .i64 0, .int .i64 0, .string ⟨#[111, 105, 108]⟩, .int .i64 1, .int .i64 3, .int .i64 10, .int .i64 3, .int .i64 0] 26))))
 obtain ⟨ad, e_, -⟩ := at_T26 (xs := tableL) CT.out 0 (by decide) (by decide)
 subst e_
 obtain ⟨az, e_, -⟩ := at_T39 (xs := soldL) CS.out 0 (by decide) (by decide)
 subst e_
 obtain ⟨t0, t1, t2, t3, t4, t5, t6, t7, t8⟩ := cells_t ad _ (Kd.C_below CT.out (Below.drew (below_alloc B1.out (.cells #[.int .i64 2, .int .i64 0, .int .i64 0, .string ⟨#[111, 105, 108]⟩, .int .i64 1, .int .i64 3, .int .i64 10, .int .i64 3, .int .i64 0] 26))))
 have hcap2 : 2 ≤ c1 := Nat.le_trans (by decide) NT.out
 have hcap2z : (2 : Int) ≤ (c1 : Int) := Int.ofNat_le.2 hcap2
 refine start_ (n := 15) (S := fun w' => w'.cell? ⟨ad.block, ad.off + 18, none⟩ = some (.int .i64 3) ∧ w'.cell? ⟨ad.block, ad.off + 18 + 1, none⟩ = some (.int .i64 50) ∧ w'.cell? ⟨ad.block, ad.off + 18 + 2, none⟩ = some (.int .i64 10) ∧ w'.cell? ⟨ad.block, ad.off + 18 + 3, none⟩ = some (.string ⟨#[111, 105, 108]⟩) ∧ w'.cell? ⟨ad.block, ad.off + 18 + 4, none⟩ = some (.int .i64 1) ∧ w'.cell? ⟨ad.block, ad.off + 18 + 5, none⟩ = some (.int .i64 2) ∧ w'.cell? ⟨ad.block, ad.off + 18 + 6, none⟩ = some (.int .i64 10) ∧ w'.cell? ⟨ad.block, ad.off + 18 + 7, none⟩ = some (.int .i64 3) ∧ w'.cell? ⟨ad.block, ad.off + 18 + 8, none⟩ = some (.int .i64 0)) (ds := []) #[false, false, false, false, false, false, false, false, false, false, false, false, false, false, false] (by kernel_rfl) rfl rfl ⟨t0, t1, t2, t3, t4, t5, t6, t7, t8⟩ (fun hHeld => ?_)
 have n0_ := Aside0.mk (Below.drew (below_alloc B0.out (.cells #[.int .i64 2, .int .i64 0, .int .i64 0, .string ⟨#[111, 105, 108]⟩, .int .i64 1, .int .i64 3, .int .i64 10, .int .i64 3, .int .i64 0] 26)))
 have n1_ := Aside0.mk (Below.drew (below_alloc B1.out (.cells #[.int .i64 2, .int .i64 0, .int .i64 0, .string ⟨#[111, 105, 108]⟩, .int .i64 1, .int .i64 3, .int .i64 10, .int .i64 3, .int .i64 0] 26)))
 have n2_ := Aside0.mk (Below.drew (below_alloc B2.out (.cells #[.int .i64 2, .int .i64 0, .int .i64 0, .string ⟨#[111, 105, 108]⟩, .int .i64 1, .int .i64 3, .int .i64 10, .int .i64 3, .int .i64 0] 26)))
 have m3_ := Aside0.mk (blk_drew (blk_alloc X3.out (.cells #[.int .i64 2, .int .i64 0, .int .i64 0, .string ⟨#[111, 105, 108]⟩, .int .i64 1, .int .i64 3, .int .i64 10, .int .i64 3, .int .i64 0] 26)))
 have m5_ := Aside0.mk (blk_drew X5.out)
 clear B0 B1 B2 X3 X5 t0 t1 t2 t3 t4 t5 t6 t7 t8
 have B0 := n0_
 have B1 := n1_
 have B2 := n2_
 have X3 := m3_
 have X5 := m5_
 clear n0_ n1_ n2_ m3_ m5_
 generalize (w4.alloc (.cells #[.int .i64 2, .int .i64 0, .int .i64 0, .string ⟨#[111, 105, 108]⟩, .int .i64 1, .int .i64 3, .int .i64 10, .int .i64 3, .int .i64 0] 26)).drew = v5 at B0 B1 B2 X3 X5 hHeld ⊢
 refine pI 0 38 ?_
 refine pI 1 39 ?_
 refine pI 2 40 ?_
 refine pI 3 41 ?_
 refine tI 4 42 hHeld ?_
 refine one_ (i := 5) (N := some 43) #[true, true, true, true, true, true, false, false, false, false, false, false, false, false, false] rfl rfl (by kernel_rfl) (by decide) (fun K hK => ?_)
 refine goes_ Tryz.func19 (by kernel_rfl) rfl #[.slice (some ad) 2 2, .agg #[.int .i64 3, .int .i64 50, .int .i64 10, .string ⟨#[111, 105, 108]⟩, .int .i64 1, .int .i64 2, .int .i64 10, .int .i64 3, .int .i64 0], .string ⟨#[111, 105, 108]⟩] (by rfl) rfl rfl (by simp only [List.map_toArray, List.map_cons, List.map_nil]; rfl) ?_
 with_reducible refine (p_touched _ _ (Kd.C_below CT.out B1.out)).mono ?_
 rintro e w5 ⟨rfl, hb⟩
 refine ⟨_, rfl, ?_⟩
 have n0_ := Aside0.mk (below_step B0.out hb)
 have n1_ := Aside0.mk (below_step B1.out hb)
 have n2_ := Aside0.mk (below_step B2.out hb)
 have m0_ := Aside0.mk (blk_below X3.out hb)
 have m1_ := Aside0.mk (blk_below X5.out hb)
 clear B0 B1 B2 X3 X5
 have B0 := n0_
 have B1 := n1_
 have B2 := n2_
 have X3 := m0_
 have X5 := m1_
 clear n0_ n1_ n2_ m0_ m1_
 refine hK.out _ _ ⟨pw_cell_below hb (hHeld.1), pw_cell_below hb (hHeld.2.1), pw_cell_below hb (hHeld.2.2.1), pw_cell_below hb (hHeld.2.2.2.1), pw_cell_below hb (hHeld.2.2.2.2.1), pw_cell_below hb (hHeld.2.2.2.2.2.1), pw_cell_below hb (hHeld.2.2.2.2.2.2.1), pw_cell_below hb (hHeld.2.2.2.2.2.2.2.1), pw_cell_below hb (hHeld.2.2.2.2.2.2.2.2)⟩ (fun hHeld => ?_)
 clear hK K
 refine norm_ (a' := ?_) ?_ ?_
 rotate_left
 ·show Act.put _ (some 43) _ = _
  simp only [Act.put, List.setIfInBounds_toArray, List.set_cons_zero, List.set_cons_succ, i64_w, i32_w]
  rfl
 refine pI 6 37 ?_
 refine pI 7 44 ?_
 refine pI 8 45 ?_
 refine pI 9 46 ?_
 refine pI 10 47 ?_
 refine pI 11 7 ?_
 refine pI 12 8 ?_
 refine pI 13 9 ?_
 refine pI 14 10 ?_
 refine done_ (by kernel_rfl) ?_
 clear hHeld
 go_wp2
 obtain ⟨t0, t1, t2, t3, t4, t5, t6, t7, t8⟩ := cells_t ad _ (Kd.C_below CT.out (Below.drew B1.out))
 obtain ⟨s0, s1, s2, s3, s4, s5, s6, s7, s8⟩ := cells_s az _ (Kd.C_below CS.out (Below.drew B2.out))
 refine start_ (n := 14) (S := fun w' => w'.cell? ⟨ad.block, ad.off + 18, none⟩ = some (.int .i64 3) ∧ w'.cell? ⟨ad.block, ad.off + 18 + 1, none⟩ = some (.int .i64 50) ∧ w'.cell? ⟨ad.block, ad.off + 18 + 2, none⟩ = some (.int .i64 10) ∧ w'.cell? ⟨ad.block, ad.off + 18 + 3, none⟩ = some (.string ⟨#[111, 105, 108]⟩) ∧ w'.cell? ⟨ad.block, ad.off + 18 + 4, none⟩ = some (.int .i64 1) ∧ w'.cell? ⟨ad.block, ad.off + 18 + 5, none⟩ = some (.int .i64 2) ∧ w'.cell? ⟨ad.block, ad.off + 18 + 6, none⟩ = some (.int .i64 10) ∧ w'.cell? ⟨ad.block, ad.off + 18 + 7, none⟩ = some (.int .i64 3) ∧ w'.cell? ⟨ad.block, ad.off + 18 + 8, none⟩ = some (.int .i64 0) ∧ w'.cell? az = some (.int .i64 1) ∧ w'.cell? ⟨az.block, az.off + 1, none⟩ = some (.int .i64 60) ∧ w'.cell? ⟨az.block, az.off + 2, none⟩ = some (.int .i64 55) ∧ w'.cell? ⟨az.block, az.off + 3, none⟩ = some (.int .i64 10) ∧ w'.cell? ⟨az.block, az.off + 4, none⟩ = some (.int .i64 100) ∧ w'.cell? ⟨az.block, az.off + 5, none⟩ = some (.int .i64 7) ∧ w'.cell? ⟨az.block, az.off + 6, none⟩ = some (.int .i64 8) ∧ w'.cell? ⟨az.block, az.off + 7, none⟩ = some (.int .i64 30) ∧ w'.cell? ⟨az.block, az.off + 8, none⟩ = some (.int .i64 0)) (ds := [12]) #[false, false, false, false, false, false, false, false, false, false, false, false, false, false] (by kernel_rfl) rfl rfl ⟨t0, t1, t2, t3, t4, t5, t6, t7, t8, s0, s1, s2, s3, s4, s5, s6, s7, s8⟩ (fun hHeld => ?_)
 have n0_ := Aside0.mk (Below.drew B0.out)
 have n1_ := Aside0.mk (Below.drew B1.out)
 have n2_ := Aside0.mk (Below.drew B2.out)
 have m3_ := Aside0.mk (blk_drew X3.out)
 have m5_ := Aside0.mk (blk_drew X5.out)
 clear B0 B1 B2 X3 X5 t0 t1 t2 t3 t4 t5 t6 t7 t8 s0 s1 s2 s3 s4 s5 s6 s7 s8
 have B0 := n0_
 have B1 := n1_
 have B2 := n2_
 have X3 := m3_
 have X5 := m5_
 clear n0_ n1_ n2_ m3_ m5_
 generalize w5.drew = v6 at B0 B1 B2 X3 X5 hHeld ⊢
 have B5 := Aside0.mk (Below.refl v6.heap.size v6)
 refine pI 0 49 ?_
 refine pI 1 50 ?_
 refine pI 3 52 ?_
 refine pI 4 53 ?_
 refine tI 2 51 hHeld ?_
 refine tI 5 54 hHeld ?_
 refine join_ (σ := Nat × Option Addr × Nat × Nat) 2 #[true, true, true, true, true, true, true, true, true, true, true, true, false, false] (fun s_ => [(55, .slice (some ⟨s_.1, 0, none⟩) 3 3), (56, .tuple #[.agg #[.int .i64 100, .int .i64 10, .int .i64 3, .int .i64 50, .int .i64 37, .slice s_.2.1 4 s_.2.2.1], .int .i64 0]), (48, .tuple #[.agg #[.int .i64 100, .int .i64 10, .int .i64 3, .int .i64 50, .int .i64 37, .slice s_.2.1 4 s_.2.2.1], .int .i64 0]), (57, .agg #[.int .i64 100, .int .i64 10, .int .i64 3, .int .i64 50, .int .i64 37, .slice s_.2.1 4 s_.2.2.1]), (58, .int .i64 0), (11, .pointer (some ⟨s_.2.2.2, 0, none⟩))]) (fun s_ w' => (w'.cell? ⟨ad.block, ad.off + 18, none⟩ = some (.int .i64 3) ∧ w'.cell? ⟨ad.block, ad.off + 18 + 1, none⟩ = some (.int .i64 50) ∧ w'.cell? ⟨ad.block, ad.off + 18 + 2, none⟩ = some (.int .i64 10) ∧ w'.cell? ⟨ad.block, ad.off + 18 + 3, none⟩ = some (.string ⟨#[111, 105, 108]⟩) ∧ w'.cell? ⟨ad.block, ad.off + 18 + 4, none⟩ = some (.int .i64 1) ∧ w'.cell? ⟨ad.block, ad.off + 18 + 5, none⟩ = some (.int .i64 2) ∧ w'.cell? ⟨ad.block, ad.off + 18 + 6, none⟩ = some (.int .i64 10) ∧ w'.cell? ⟨ad.block, ad.off + 18 + 7, none⟩ = some (.int .i64 3) ∧ w'.cell? ⟨ad.block, ad.off + 18 + 8, none⟩ = some (.int .i64 0) ∧ w'.cell? az = some (.int .i64 1) ∧ w'.cell? ⟨az.block, az.off + 1, none⟩ = some (.int .i64 60) ∧ w'.cell? ⟨az.block, az.off + 2, none⟩ = some (.int .i64 55) ∧ w'.cell? ⟨az.block, az.off + 3, none⟩ = some (.int .i64 10) ∧ w'.cell? ⟨az.block, az.off + 4, none⟩ = some (.int .i64 100) ∧ w'.cell? ⟨az.block, az.off + 5, none⟩ = some (.int .i64 7) ∧ w'.cell? ⟨az.block, az.off + 6, none⟩ = some (.int .i64 8) ∧ w'.cell? ⟨az.block, az.off + 7, none⟩ = some (.int .i64 30) ∧ w'.cell? ⟨az.block, az.off + 8, none⟩ = some (.int .i64 0)) ∧ (Below v6.heap.size v6 w') ∧ (Kd.C (Kd.int .i64) w' (some ⟨s_.1, 0, none⟩) 3 [4, 5, 4]) ∧ (4 ≤ s_.2.2.1) ∧ (Kd.R k69 69 w' v6.heap.size (fun _ => True) (.slice s_.2.1 4 s_.2.2.1) [⟨4, 33⟩, ⟨5, 17⟩, ⟨7, 10⟩, ⟨8, 3⟩]) ∧ (v6.heap.size ≤ s_.2.2.2) ∧ (w'.heap[s_.2.2.2]? = some (.cells #[.int .i64 0, .int .i64 0, .int .i64 0, .int .i64 0, .int .i64 0, .slice none 0 0] 59 (0, 0)))) ?_ ?_
 rotate_left
 ·intro hJ6_7_11
  refine join_ (σ := Nat × Option Addr × Nat) 3 #[true, true, true, true, true, true, true, true, true, true, true, false, false, false] (fun s_ => [(55, .slice (some ⟨s_.1, 0, none⟩) 3 3), (56, .tuple #[.agg #[.int .i64 100, .int .i64 10, .int .i64 3, .int .i64 50, .int .i64 37, .slice s_.2.1 4 s_.2.2], .int .i64 0]), (48, .tuple #[.agg #[.int .i64 100, .int .i64 10, .int .i64 3, .int .i64 50, .int .i64 37, .slice s_.2.1 4 s_.2.2], .int .i64 0]), (57, .agg #[.int .i64 100, .int .i64 10, .int .i64 3, .int .i64 50, .int .i64 37, .slice s_.2.1 4 s_.2.2]), (58, .int .i64 0)]) (fun s_ w' => (w'.cell? ⟨ad.block, ad.off + 18, none⟩ = some (.int .i64 3) ∧ w'.cell? ⟨ad.block, ad.off + 18 + 1, none⟩ = some (.int .i64 50) ∧ w'.cell? ⟨ad.block, ad.off + 18 + 2, none⟩ = some (.int .i64 10) ∧ w'.cell? ⟨ad.block, ad.off + 18 + 3, none⟩ = some (.string ⟨#[111, 105, 108]⟩) ∧ w'.cell? ⟨ad.block, ad.off + 18 + 4, none⟩ = some (.int .i64 1) ∧ w'.cell? ⟨ad.block, ad.off + 18 + 5, none⟩ = some (.int .i64 2) ∧ w'.cell? ⟨ad.block, ad.off + 18 + 6, none⟩ = some (.int .i64 10) ∧ w'.cell? ⟨ad.block, ad.off + 18 + 7, none⟩ = some (.int .i64 3) ∧ w'.cell? ⟨ad.block, ad.off + 18 + 8, none⟩ = some (.int .i64 0) ∧ w'.cell? az = some (.int .i64 1) ∧ w'.cell? ⟨az.block, az.off + 1, none⟩ = some (.int .i64 60) ∧ w'.cell? ⟨az.block, az.off + 2, none⟩ = some (.int .i64 55) ∧ w'.cell? ⟨az.block, az.off + 3, none⟩ = some (.int .i64 10) ∧ w'.cell? ⟨az.block, az.off + 4, none⟩ = some (.int .i64 100) ∧ w'.cell? ⟨az.block, az.off + 5, none⟩ = some (.int .i64 7) ∧ w'.cell? ⟨az.block, az.off + 6, none⟩ = some (.int .i64 8) ∧ w'.cell? ⟨az.block, az.off + 7, none⟩ = some (.int .i64 30) ∧ w'.cell? ⟨az.block, az.off + 8, none⟩ = some (.int .i64 0)) ∧ (Below v6.heap.size v6 w') ∧ (Kd.C (Kd.int .i64) w' (some ⟨s_.1, 0, none⟩) 3 [4, 5, 4]) ∧ (4 ≤ s_.2.2) ∧ (Kd.R k69 69 w' v6.heap.size (fun _ => True) (.slice s_.2.1 4 s_.2.2) [⟨4, 33⟩, ⟨5, 17⟩, ⟨7, 10⟩, ⟨8, 3⟩])) ?_ ?_
  rotate_left
  ·intro hJ6_7
   refine join_ (σ := Nat × Nat) 6 #[true, true, true, true, true, true, true, false, false, false, false, true, false, false] (fun s_ => [(55, .slice (some ⟨s_.1, 0, none⟩) 3 3), (11, .pointer (some ⟨s_.2, 0, none⟩))]) (fun s_ w' => (w'.cell? ⟨ad.block, ad.off + 18, none⟩ = some (.int .i64 3) ∧ w'.cell? ⟨ad.block, ad.off + 18 + 1, none⟩ = some (.int .i64 50) ∧ w'.cell? ⟨ad.block, ad.off + 18 + 2, none⟩ = some (.int .i64 10) ∧ w'.cell? ⟨ad.block, ad.off + 18 + 3, none⟩ = some (.string ⟨#[111, 105, 108]⟩) ∧ w'.cell? ⟨ad.block, ad.off + 18 + 4, none⟩ = some (.int .i64 1) ∧ w'.cell? ⟨ad.block, ad.off + 18 + 5, none⟩ = some (.int .i64 2) ∧ w'.cell? ⟨ad.block, ad.off + 18 + 6, none⟩ = some (.int .i64 10) ∧ w'.cell? ⟨ad.block, ad.off + 18 + 7, none⟩ = some (.int .i64 3) ∧ w'.cell? ⟨ad.block, ad.off + 18 + 8, none⟩ = some (.int .i64 0) ∧ w'.cell? az = some (.int .i64 1) ∧ w'.cell? ⟨az.block, az.off + 1, none⟩ = some (.int .i64 60) ∧ w'.cell? ⟨az.block, az.off + 2, none⟩ = some (.int .i64 55) ∧ w'.cell? ⟨az.block, az.off + 3, none⟩ = some (.int .i64 10) ∧ w'.cell? ⟨az.block, az.off + 4, none⟩ = some (.int .i64 100) ∧ w'.cell? ⟨az.block, az.off + 5, none⟩ = some (.int .i64 7) ∧ w'.cell? ⟨az.block, az.off + 6, none⟩ = some (.int .i64 8) ∧ w'.cell? ⟨az.block, az.off + 7, none⟩ = some (.int .i64 30) ∧ w'.cell? ⟨az.block, az.off + 8, none⟩ = some (.int .i64 0)) ∧ (Below v6.heap.size v6 w') ∧ (Kd.C (Kd.int .i64) w' (some ⟨s_.1, 0, none⟩) 3 [4, 5, 4]) ∧ (v6.heap.size ≤ s_.2) ∧ (w'.heap[s_.2]? = some (.cells #[.int .i64 0, .int .i64 0, .int .i64 0, .int .i64 0, .int .i64 0, .slice none 0 0] 59 (0, 0)))) ?_ ?_
   rotate_left
   ·intro hJ6_11
    refine join_ (σ := Nat) 7 #[true, true, true, true, true, true, true, false, false, false, false, false, false, false] (fun s_ => [(55, .slice (some ⟨s_, 0, none⟩) 3 3)]) (fun s_ w' => (w'.cell? ⟨ad.block, ad.off + 18, none⟩ = some (.int .i64 3) ∧ w'.cell? ⟨ad.block, ad.off + 18 + 1, none⟩ = some (.int .i64 50) ∧ w'.cell? ⟨ad.block, ad.off + 18 + 2, none⟩ = some (.int .i64 10) ∧ w'.cell? ⟨ad.block, ad.off + 18 + 3, none⟩ = some (.string ⟨#[111, 105, 108]⟩) ∧ w'.cell? ⟨ad.block, ad.off + 18 + 4, none⟩ = some (.int .i64 1) ∧ w'.cell? ⟨ad.block, ad.off + 18 + 5, none⟩ = some (.int .i64 2) ∧ w'.cell? ⟨ad.block, ad.off + 18 + 6, none⟩ = some (.int .i64 10) ∧ w'.cell? ⟨ad.block, ad.off + 18 + 7, none⟩ = some (.int .i64 3) ∧ w'.cell? ⟨ad.block, ad.off + 18 + 8, none⟩ = some (.int .i64 0) ∧ w'.cell? az = some (.int .i64 1) ∧ w'.cell? ⟨az.block, az.off + 1, none⟩ = some (.int .i64 60) ∧ w'.cell? ⟨az.block, az.off + 2, none⟩ = some (.int .i64 55) ∧ w'.cell? ⟨az.block, az.off + 3, none⟩ = some (.int .i64 10) ∧ w'.cell? ⟨az.block, az.off + 4, none⟩ = some (.int .i64 100) ∧ w'.cell? ⟨az.block, az.off + 5, none⟩ = some (.int .i64 7) ∧ w'.cell? ⟨az.block, az.off + 6, none⟩ = some (.int .i64 8) ∧ w'.cell? ⟨az.block, az.off + 7, none⟩ = some (.int .i64 30) ∧ w'.cell? ⟨az.block, az.off + 8, none⟩ = some (.int .i64 0)) ∧ (Below v6.heap.size v6 w') ∧ (Kd.C (Kd.int .i64) w' (some ⟨s_, 0, none⟩) 3 [4, 5, 4])) ?_ ?_
    rotate_left
    ·intro hJ6
     refine join_ (σ := Nat) 7 #[true, true, true, true, true, true, false, false, false, false, false, true, false, false] (fun s_ => [(11, .pointer (some ⟨s_, 0, none⟩))]) (fun s_ w' => (w'.cell? ⟨ad.block, ad.off + 18, none⟩ = some (.int .i64 3) ∧ w'.cell? ⟨ad.block, ad.off + 18 + 1, none⟩ = some (.int .i64 50) ∧ w'.cell? ⟨ad.block, ad.off + 18 + 2, none⟩ = some (.int .i64 10) ∧ w'.cell? ⟨ad.block, ad.off + 18 + 3, none⟩ = some (.string ⟨#[111, 105, 108]⟩) ∧ w'.cell? ⟨ad.block, ad.off + 18 + 4, none⟩ = some (.int .i64 1) ∧ w'.cell? ⟨ad.block, ad.off + 18 + 5, none⟩ = some (.int .i64 2) ∧ w'.cell? ⟨ad.block, ad.off + 18 + 6, none⟩ = some (.int .i64 10) ∧ w'.cell? ⟨ad.block, ad.off + 18 + 7, none⟩ = some (.int .i64 3) ∧ w'.cell? ⟨ad.block, ad.off + 18 + 8, none⟩ = some (.int .i64 0) ∧ w'.cell? az = some (.int .i64 1) ∧ w'.cell? ⟨az.block, az.off + 1, none⟩ = some (.int .i64 60) ∧ w'.cell? ⟨az.block, az.off + 2, none⟩ = some (.int .i64 55) ∧ w'.cell? ⟨az.block, az.off + 3, none⟩ = some (.int .i64 10) ∧ w'.cell? ⟨az.block, az.off + 4, none⟩ = some (.int .i64 100) ∧ w'.cell? ⟨az.block, az.off + 5, none⟩ = some (.int .i64 7) ∧ w'.cell? ⟨az.block, az.off + 6, none⟩ = some (.int .i64 8) ∧ w'.cell? ⟨az.block, az.off + 7, none⟩ = some (.int .i64 30) ∧ w'.cell? ⟨az.block, az.off + 8, none⟩ = some (.int .i64 0)) ∧ (Below v6.heap.size v6 w') ∧ (v6.heap.size ≤ s_) ∧ (w'.heap[s_]? = some (.cells #[.int .i64 0, .int .i64 0, .int .i64 0, .int .i64 0, .int .i64 0, .slice none 0 0] 59 (0, 0)))) ?_ ?_
     rotate_left
     ·intro hJ11
      refine two_ (i := 6) (j := 11) (Ni := some 55) (Nj := some 11) #[true, true, true, true, true, true, true, false, false, false, false, false, false, false] #[true, true, true, true, true, true, false, false, false, false, false, true, false, false] rfl rfl rfl rfl (by kernel_rfl) (by decide) (by decide) (fun K hK => ?_) (fun K hK => ?_)
      ·skip
       refine value_ (w1 := ?_) (v := ?_) (by rfl) rfl ?_ ?_
       rotate_left 2
       ·go_simp
        constructor
        ·rfl
        ·rfl
       have hb_ : Below v6.heap.size v6 (v6.alloc (.cells #[.int .i64 4, .int .i64 5, .int .i64 4] 3)) := below_alloc (Below.refl _ _) _
       have CL := Aside0.mk (lit_ints v6 [4, 5, 4] (by decide))
       have n_B5 := Aside0.mk (below_step B5.out hb_)
       clear B5
       have B5 := n_B5
       clear n_B5
       refine hK.out _ _ ⟨pw_cell_below hb_ (hHeld.1), pw_cell_below hb_ (hHeld.2.1), pw_cell_below hb_ (hHeld.2.2.1), pw_cell_below hb_ (hHeld.2.2.2.1), pw_cell_below hb_ (hHeld.2.2.2.2.1), pw_cell_below hb_ (hHeld.2.2.2.2.2.1), pw_cell_below hb_ (hHeld.2.2.2.2.2.2.1), pw_cell_below hb_ (hHeld.2.2.2.2.2.2.2.1), pw_cell_below hb_ (hHeld.2.2.2.2.2.2.2.2.1), pw_cell_below hb_ (hHeld.2.2.2.2.2.2.2.2.2.1), pw_cell_below hb_ (hHeld.2.2.2.2.2.2.2.2.2.2.1), pw_cell_below hb_ (hHeld.2.2.2.2.2.2.2.2.2.2.2.1), pw_cell_below hb_ (hHeld.2.2.2.2.2.2.2.2.2.2.2.2.1), pw_cell_below hb_ (hHeld.2.2.2.2.2.2.2.2.2.2.2.2.2.1), pw_cell_below hb_ (hHeld.2.2.2.2.2.2.2.2.2.2.2.2.2.2.1), pw_cell_below hb_ (hHeld.2.2.2.2.2.2.2.2.2.2.2.2.2.2.2.1), pw_cell_below hb_ (hHeld.2.2.2.2.2.2.2.2.2.2.2.2.2.2.2.2.1), pw_cell_below hb_ (hHeld.2.2.2.2.2.2.2.2.2.2.2.2.2.2.2.2.2)⟩ (fun hHeld => ?_)
       clear hK K
       refine norm_ (a' := ?_) ?_ ?_
       rotate_left
       ·show Act.put _ (some 55) _ = _
        simp only [Act.put, List.setIfInBounds_toArray, List.set_cons_zero, List.set_cons_succ, i64_w, i32_w]
        rfl
       exact norm_ sN (hJ6 (v6.heap.size) _ ⟨hHeld, B5.out, CL.out⟩)
      ·skip
       refine value_ (w1 := ?_) (v := ?_) (by rfl) rfl ?_ ?_
       rotate_left 2
       ·go_simp
        constructor
        ·rfl
        ·rfl
       have hb_ : Below v6.heap.size v6 (v6.alloc (.cells #[.int .i64 0, .int .i64 0, .int .i64 0, .int .i64 0, .int .i64 0, .slice none 0 0] 59)) := below_alloc (Below.refl _ _) _
       have X11' := Aside0.mk (heap_alloc_new v6 (.cells #[.int .i64 0, .int .i64 0, .int .i64 0, .int .i64 0, .int .i64 0, .slice none 0 0] 59))
       have G11 := Aside0.mk B5.out.size
       have n_B5 := Aside0.mk (below_step B5.out hb_)
       clear B5
       have B5 := n_B5
       clear n_B5
       have X11 := X11'
       refine hK.out _ _ ⟨pw_cell_below hb_ (hHeld.1), pw_cell_below hb_ (hHeld.2.1), pw_cell_below hb_ (hHeld.2.2.1), pw_cell_below hb_ (hHeld.2.2.2.1), pw_cell_below hb_ (hHeld.2.2.2.2.1), pw_cell_below hb_ (hHeld.2.2.2.2.2.1), pw_cell_below hb_ (hHeld.2.2.2.2.2.2.1), pw_cell_below hb_ (hHeld.2.2.2.2.2.2.2.1), pw_cell_below hb_ (hHeld.2.2.2.2.2.2.2.2.1), pw_cell_below hb_ (hHeld.2.2.2.2.2.2.2.2.2.1), pw_cell_below hb_ (hHeld.2.2.2.2.2.2.2.2.2.2.1), pw_cell_below hb_ (hHeld.2.2.2.2.2.2.2.2.2.2.2.1), pw_cell_below hb_ (hHeld.2.2.2.2.2.2.2.2.2.2.2.2.1), pw_cell_below hb_ (hHeld.2.2.2.2.2.2.2.2.2.2.2.2.2.1), pw_cell_below hb_ (hHeld.2.2.2.2.2.2.2.2.2.2.2.2.2.2.1), pw_cell_below hb_ (hHeld.2.2.2.2.2.2.2.2.2.2.2.2.2.2.2.1), pw_cell_below hb_ (hHeld.2.2.2.2.2.2.2.2.2.2.2.2.2.2.2.2.1), pw_cell_below hb_ (hHeld.2.2.2.2.2.2.2.2.2.2.2.2.2.2.2.2.2)⟩ (fun hHeld => ?_)
       clear hK K
       refine norm_ (a' := ?_) ?_ ?_
       rotate_left
       ·show Act.put _ (some 11) _ = _
        simp only [Act.put, List.setIfInBounds_toArray, List.set_cons_zero, List.set_cons_succ, i64_w, i32_w]
        rfl
       exact norm_ sN (hJ11 (v6.heap.size) _ ⟨hHeld, B5.out, G11.out, X11.out⟩)
     ·skip
      rintro g11 w6 ⟨hS_, h_B5, h_G11, h_X11⟩
      have B5 := Aside0.mk h_B5
      have G11 := Aside0.mk h_G11
      have X11 := Aside0.mk h_X11
      have hHeld : w6.cell? ⟨ad.block, ad.off + 18, none⟩ = some (.int .i64 3) ∧ w6.cell? ⟨ad.block, ad.off + 18 + 1, none⟩ = some (.int .i64 50) ∧ w6.cell? ⟨ad.block, ad.off + 18 + 2, none⟩ = some (.int .i64 10) ∧ w6.cell? ⟨ad.block, ad.off + 18 + 3, none⟩ = some (.string ⟨#[111, 105, 108]⟩) ∧ w6.cell? ⟨ad.block, ad.off + 18 + 4, none⟩ = some (.int .i64 1) ∧ w6.cell? ⟨ad.block, ad.off + 18 + 5, none⟩ = some (.int .i64 2) ∧ w6.cell? ⟨ad.block, ad.off + 18 + 6, none⟩ = some (.int .i64 10) ∧ w6.cell? ⟨ad.block, ad.off + 18 + 7, none⟩ = some (.int .i64 3) ∧ w6.cell? ⟨ad.block, ad.off + 18 + 8, none⟩ = some (.int .i64 0) ∧ w6.cell? az = some (.int .i64 1) ∧ w6.cell? ⟨az.block, az.off + 1, none⟩ = some (.int .i64 60) ∧ w6.cell? ⟨az.block, az.off + 2, none⟩ = some (.int .i64 55) ∧ w6.cell? ⟨az.block, az.off + 3, none⟩ = some (.int .i64 10) ∧ w6.cell? ⟨az.block, az.off + 4, none⟩ = some (.int .i64 100) ∧ w6.cell? ⟨az.block, az.off + 5, none⟩ = some (.int .i64 7) ∧ w6.cell? ⟨az.block, az.off + 6, none⟩ = some (.int .i64 8) ∧ w6.cell? ⟨az.block, az.off + 7, none⟩ = some (.int .i64 30) ∧ w6.cell? ⟨az.block, az.off + 8, none⟩ = some (.int .i64 0) := hS_
      clear hS_ h_B5 h_G11 h_X11
      refine norm_ (a' := ?_) ?_ ?_
      rotate_left
      ·simp only [putAll, Act.put, List.setIfInBounds_toArray, List.set_cons_zero, List.set_cons_succ]
       rfl
      refine one_ (i := 6) (N := some 55) #[true, true, true, true, true, true, true, false, false, false, false, true, false, false] rfl rfl (by kernel_rfl) (by decide) (fun K hK => ?_)
      refine value_ (w1 := ?_) (v := ?_) (by rfl) rfl ?_ ?_
      rotate_left 2
      ·go_simp
       constructor
       ·rfl
       ·rfl
      have hb_ : Below w6.heap.size w6 (w6.alloc (.cells #[.int .i64 4, .int .i64 5, .int .i64 4] 3)) := below_alloc (Below.refl _ _) _
      have CL := Aside0.mk (lit_ints w6 [4, 5, 4] (by decide))
      have n_B5 := Aside0.mk (below_step B5.out hb_)
      have n_X11 := Aside0.mk (blk_below X11.out hb_)
      clear B5 X11
      have B5 := n_B5
      have X11 := n_X11
      clear n_B5 n_X11
      refine hK.out _ _ ⟨pw_cell_below hb_ (hHeld.1), pw_cell_below hb_ (hHeld.2.1), pw_cell_below hb_ (hHeld.2.2.1), pw_cell_below hb_ (hHeld.2.2.2.1), pw_cell_below hb_ (hHeld.2.2.2.2.1), pw_cell_below hb_ (hHeld.2.2.2.2.2.1), pw_cell_below hb_ (hHeld.2.2.2.2.2.2.1), pw_cell_below hb_ (hHeld.2.2.2.2.2.2.2.1), pw_cell_below hb_ (hHeld.2.2.2.2.2.2.2.2.1), pw_cell_below hb_ (hHeld.2.2.2.2.2.2.2.2.2.1), pw_cell_below hb_ (hHeld.2.2.2.2.2.2.2.2.2.2.1), pw_cell_below hb_ (hHeld.2.2.2.2.2.2.2.2.2.2.2.1), pw_cell_below hb_ (hHeld.2.2.2.2.2.2.2.2.2.2.2.2.1), pw_cell_below hb_ (hHeld.2.2.2.2.2.2.2.2.2.2.2.2.2.1), pw_cell_below hb_ (hHeld.2.2.2.2.2.2.2.2.2.2.2.2.2.2.1), pw_cell_below hb_ (hHeld.2.2.2.2.2.2.2.2.2.2.2.2.2.2.2.1), pw_cell_below hb_ (hHeld.2.2.2.2.2.2.2.2.2.2.2.2.2.2.2.2.1), pw_cell_below hb_ (hHeld.2.2.2.2.2.2.2.2.2.2.2.2.2.2.2.2.2)⟩ (fun hHeld => ?_)
      clear hK K
      refine norm_ (a' := ?_) ?_ ?_
      rotate_left
      ·show Act.put _ (some 55) _ = _
       simp only [Act.put, List.setIfInBounds_toArray, List.set_cons_zero, List.set_cons_succ, i64_w, i32_w]
       rfl
      exact norm_ sN (hJ6_11 (w6.heap.size, g11) _ ⟨hHeld, B5.out, CL.out, G11.out, X11.out⟩)
    ·skip
     rintro gl w6 ⟨hS_, h_B5, h_CL⟩
     have B5 := Aside0.mk h_B5
     have CL := Aside0.mk h_CL
     have hHeld : w6.cell? ⟨ad.block, ad.off + 18, none⟩ = some (.int .i64 3) ∧ w6.cell? ⟨ad.block, ad.off + 18 + 1, none⟩ = some (.int .i64 50) ∧ w6.cell? ⟨ad.block, ad.off + 18 + 2, none⟩ = some (.int .i64 10) ∧ w6.cell? ⟨ad.block, ad.off + 18 + 3, none⟩ = some (.string ⟨#[111, 105, 108]⟩) ∧ w6.cell? ⟨ad.block, ad.off + 18 + 4, none⟩ = some (.int .i64 1) ∧ w6.cell? ⟨ad.block, ad.off + 18 + 5, none⟩ = some (.int .i64 2) ∧ w6.cell? ⟨ad.block, ad.off + 18 + 6, none⟩ = some (.int .i64 10) ∧ w6.cell? ⟨ad.block, ad.off + 18 + 7, none⟩ = some (.int .i64 3) ∧ w6.cell? ⟨ad.block, ad.off + 18 + 8, none⟩ = some (.int .i64 0) ∧ w6.cell? az = some (.int .i64 1) ∧ w6.cell? ⟨az.block, az.off + 1, none⟩ = some (.int .i64 60) ∧ w6.cell? ⟨az.block, az.off + 2, none⟩ = some (.int .i64 55) ∧ w6.cell? ⟨az.block, az.off + 3, none⟩ = some (.int .i64 10) ∧ w6.cell? ⟨az.block, az.off + 4, none⟩ = some (.int .i64 100) ∧ w6.cell? ⟨az.block, az.off + 5, none⟩ = some (.int .i64 7) ∧ w6.cell? ⟨az.block, az.off + 6, none⟩ = some (.int .i64 8) ∧ w6.cell? ⟨az.block, az.off + 7, none⟩ = some (.int .i64 30) ∧ w6.cell? ⟨az.block, az.off + 8, none⟩ = some (.int .i64 0) := hS_
     clear hS_ h_B5 h_CL
     refine norm_ (a' := ?_) ?_ ?_
     rotate_left
     ·simp only [putAll, Act.put, List.setIfInBounds_toArray, List.set_cons_zero, List.set_cons_succ]
      rfl
     refine two_ (i := 7) (j := 11) (Ni := some 56) (Nj := some 11) #[true, true, true, true, true, true, true, true, false, false, false, false, false, false] #[true, true, true, true, true, true, true, false, false, false, false, true, false, false] rfl rfl rfl rfl (by kernel_rfl) (by decide) (by decide) (fun K hK => ?_) (fun K hK => ?_)
     ·skip
      refine goes_ Tryz.func37 (by kernel_rfl) rfl #[.agg #[.int .i64 3, .int .i64 50, .int .i64 10, .string ⟨#[111, 105, 108]⟩, .int .i64 1, .int .i64 2, .int .i64 10, .int .i64 3, .int .i64 0], .agg #[.int .i64 1, .int .i64 60, .int .i64 55, .int .i64 10, .int .i64 100, .int .i64 7, .int .i64 8, .int .i64 30, .int .i64 0], .slice (some ⟨gl, 0, none⟩) 3 3] (by rfl) rfl rfl (by simp only [List.map_toArray, List.map_cons, List.map_nil]; rfl) ?_
      with_reducible refine (p_awarded (some ⟨gl, 0, none⟩) _ CL.out).mono ?_
      rintro e w7 ⟨A6, c6, rfl, hc6, hR6, hb⟩
      refine ⟨_, rfl, ?_⟩
      have N6 := Aside0.mk hc6
      have R6 := Aside0.mk (Kd.R_lower hR6 B5.out.size)
      have n_B5 := Aside0.mk (below_step B5.out hb)
      have n_CL := Aside0.mk (Kd.C_below CL.out hb)
      clear B5 CL
      have B5 := n_B5
      have CL := n_CL
      clear n_B5 n_CL
      clear hc6 hR6
      refine hK.out _ _ ⟨pw_cell_below hb (hHeld.1), pw_cell_below hb (hHeld.2.1), pw_cell_below hb (hHeld.2.2.1), pw_cell_below hb (hHeld.2.2.2.1), pw_cell_below hb (hHeld.2.2.2.2.1), pw_cell_below hb (hHeld.2.2.2.2.2.1), pw_cell_below hb (hHeld.2.2.2.2.2.2.1), pw_cell_below hb (hHeld.2.2.2.2.2.2.2.1), pw_cell_below hb (hHeld.2.2.2.2.2.2.2.2.1), pw_cell_below hb (hHeld.2.2.2.2.2.2.2.2.2.1), pw_cell_below hb (hHeld.2.2.2.2.2.2.2.2.2.2.1), pw_cell_below hb (hHeld.2.2.2.2.2.2.2.2.2.2.2.1), pw_cell_below hb (hHeld.2.2.2.2.2.2.2.2.2.2.2.2.1), pw_cell_below hb (hHeld.2.2.2.2.2.2.2.2.2.2.2.2.2.1), pw_cell_below hb (hHeld.2.2.2.2.2.2.2.2.2.2.2.2.2.2.1), pw_cell_below hb (hHeld.2.2.2.2.2.2.2.2.2.2.2.2.2.2.2.1), pw_cell_below hb (hHeld.2.2.2.2.2.2.2.2.2.2.2.2.2.2.2.2.1), pw_cell_below hb (hHeld.2.2.2.2.2.2.2.2.2.2.2.2.2.2.2.2.2)⟩ (fun hHeld => ?_)
      clear hK K
      refine norm_ (a' := ?_) ?_ ?_
      rotate_left
      ·show Act.put _ (some 56) _ = _
       simp only [Act.put, List.setIfInBounds_toArray, List.set_cons_zero, List.set_cons_succ, i64_w, i32_w]
       rfl
      refine pI 8 48 ?_
      refine pI 9 57 ?_
      refine pI 10 58 ?_
      exact norm_ sN (hJ6_7 (gl, A6, c6) _ ⟨hHeld, B5.out, CL.out, N6.out, R6.out⟩)
     ·skip
      refine value_ (w1 := ?_) (v := ?_) (by rfl) rfl ?_ ?_
      rotate_left 2
      ·go_simp
       constructor
       ·rfl
       ·rfl
      have hb_ : Below w6.heap.size w6 (w6.alloc (.cells #[.int .i64 0, .int .i64 0, .int .i64 0, .int .i64 0, .int .i64 0, .slice none 0 0] 59)) := below_alloc (Below.refl _ _) _
      have X11' := Aside0.mk (heap_alloc_new w6 (.cells #[.int .i64 0, .int .i64 0, .int .i64 0, .int .i64 0, .int .i64 0, .slice none 0 0] 59))
      have G11 := Aside0.mk B5.out.size
      have n_B5 := Aside0.mk (below_step B5.out hb_)
      have n_CL := Aside0.mk (Kd.C_below CL.out hb_)
      clear B5 CL
      have B5 := n_B5
      have CL := n_CL
      clear n_B5 n_CL
      have X11 := X11'
      refine hK.out _ _ ⟨pw_cell_below hb_ (hHeld.1), pw_cell_below hb_ (hHeld.2.1), pw_cell_below hb_ (hHeld.2.2.1), pw_cell_below hb_ (hHeld.2.2.2.1), pw_cell_below hb_ (hHeld.2.2.2.2.1), pw_cell_below hb_ (hHeld.2.2.2.2.2.1), pw_cell_below hb_ (hHeld.2.2.2.2.2.2.1), pw_cell_below hb_ (hHeld.2.2.2.2.2.2.2.1), pw_cell_below hb_ (hHeld.2.2.2.2.2.2.2.2.1), pw_cell_below hb_ (hHeld.2.2.2.2.2.2.2.2.2.1), pw_cell_below hb_ (hHeld.2.2.2.2.2.2.2.2.2.2.1), pw_cell_below hb_ (hHeld.2.2.2.2.2.2.2.2.2.2.2.1), pw_cell_below hb_ (hHeld.2.2.2.2.2.2.2.2.2.2.2.2.1), pw_cell_below hb_ (hHeld.2.2.2.2.2.2.2.2.2.2.2.2.2.1), pw_cell_below hb_ (hHeld.2.2.2.2.2.2.2.2.2.2.2.2.2.2.1), pw_cell_below hb_ (hHeld.2.2.2.2.2.2.2.2.2.2.2.2.2.2.2.1), pw_cell_below hb_ (hHeld.2.2.2.2.2.2.2.2.2.2.2.2.2.2.2.2.1), pw_cell_below hb_ (hHeld.2.2.2.2.2.2.2.2.2.2.2.2.2.2.2.2.2)⟩ (fun hHeld => ?_)
      clear hK K
      refine norm_ (a' := ?_) ?_ ?_
      rotate_left
      ·show Act.put _ (some 11) _ = _
       simp only [Act.put, List.setIfInBounds_toArray, List.set_cons_zero, List.set_cons_succ, i64_w, i32_w]
       rfl
      exact norm_ sN (hJ6_11 (gl, w6.heap.size) _ ⟨hHeld, B5.out, CL.out, G11.out, X11.out⟩)
   ·skip
    rintro ⟨gl, g11⟩ w6 ⟨hS_, h_B5, h_CL, h_G11, h_X11⟩
    have B5 := Aside0.mk h_B5
    have CL := Aside0.mk h_CL
    have G11 := Aside0.mk h_G11
    have X11 := Aside0.mk h_X11
    have hHeld : w6.cell? ⟨ad.block, ad.off + 18, none⟩ = some (.int .i64 3) ∧ w6.cell? ⟨ad.block, ad.off + 18 + 1, none⟩ = some (.int .i64 50) ∧ w6.cell? ⟨ad.block, ad.off + 18 + 2, none⟩ = some (.int .i64 10) ∧ w6.cell? ⟨ad.block, ad.off + 18 + 3, none⟩ = some (.string ⟨#[111, 105, 108]⟩) ∧ w6.cell? ⟨ad.block, ad.off + 18 + 4, none⟩ = some (.int .i64 1) ∧ w6.cell? ⟨ad.block, ad.off + 18 + 5, none⟩ = some (.int .i64 2) ∧ w6.cell? ⟨ad.block, ad.off + 18 + 6, none⟩ = some (.int .i64 10) ∧ w6.cell? ⟨ad.block, ad.off + 18 + 7, none⟩ = some (.int .i64 3) ∧ w6.cell? ⟨ad.block, ad.off + 18 + 8, none⟩ = some (.int .i64 0) ∧ w6.cell? az = some (.int .i64 1) ∧ w6.cell? ⟨az.block, az.off + 1, none⟩ = some (.int .i64 60) ∧ w6.cell? ⟨az.block, az.off + 2, none⟩ = some (.int .i64 55) ∧ w6.cell? ⟨az.block, az.off + 3, none⟩ = some (.int .i64 10) ∧ w6.cell? ⟨az.block, az.off + 4, none⟩ = some (.int .i64 100) ∧ w6.cell? ⟨az.block, az.off + 5, none⟩ = some (.int .i64 7) ∧ w6.cell? ⟨az.block, az.off + 6, none⟩ = some (.int .i64 8) ∧ w6.cell? ⟨az.block, az.off + 7, none⟩ = some (.int .i64 30) ∧ w6.cell? ⟨az.block, az.off + 8, none⟩ = some (.int .i64 0) := hS_
    clear hS_ h_B5 h_CL h_G11 h_X11
    refine norm_ (a' := ?_) ?_ ?_
    rotate_left
    ·simp only [putAll, Act.put, List.setIfInBounds_toArray, List.set_cons_zero, List.set_cons_succ]
     rfl
    refine one_ (i := 7) (N := some 56) #[true, true, true, true, true, true, true, true, false, false, false, true, false, false] rfl rfl (by kernel_rfl) (by decide) (fun K hK => ?_)
    refine goes_ Tryz.func37 (by kernel_rfl) rfl #[.agg #[.int .i64 3, .int .i64 50, .int .i64 10, .string ⟨#[111, 105, 108]⟩, .int .i64 1, .int .i64 2, .int .i64 10, .int .i64 3, .int .i64 0], .agg #[.int .i64 1, .int .i64 60, .int .i64 55, .int .i64 10, .int .i64 100, .int .i64 7, .int .i64 8, .int .i64 30, .int .i64 0], .slice (some ⟨gl, 0, none⟩) 3 3] (by rfl) rfl rfl (by simp only [List.map_toArray, List.map_cons, List.map_nil]; rfl) ?_
    with_reducible refine (p_awarded (some ⟨gl, 0, none⟩) _ CL.out).mono ?_
    rintro e w7 ⟨A6, c6, rfl, hc6, hR6, hb⟩
    refine ⟨_, rfl, ?_⟩
    have N6 := Aside0.mk hc6
    have R6 := Aside0.mk (Kd.R_lower hR6 B5.out.size)
    have n_B5 := Aside0.mk (below_step B5.out hb)
    have n_CL := Aside0.mk (Kd.C_below CL.out hb)
    have n_X11 := Aside0.mk (blk_below X11.out hb)
    clear B5 CL X11
    have B5 := n_B5
    have CL := n_CL
    have X11 := n_X11
    clear n_B5 n_CL n_X11
    clear hc6 hR6
    refine hK.out _ _ ⟨pw_cell_below hb (hHeld.1), pw_cell_below hb (hHeld.2.1), pw_cell_below hb (hHeld.2.2.1), pw_cell_below hb (hHeld.2.2.2.1), pw_cell_below hb (hHeld.2.2.2.2.1), pw_cell_below hb (hHeld.2.2.2.2.2.1), pw_cell_below hb (hHeld.2.2.2.2.2.2.1), pw_cell_below hb (hHeld.2.2.2.2.2.2.2.1), pw_cell_below hb (hHeld.2.2.2.2.2.2.2.2.1), pw_cell_below hb (hHeld.2.2.2.2.2.2.2.2.2.1), pw_cell_below hb (hHeld.2.2.2.2.2.2.2.2.2.2.1), pw_cell_below hb (hHeld.2.2.2.2.2.2.2.2.2.2.2.1), pw_cell_below hb (hHeld.2.2.2.2.2.2.2.2.2.2.2.2.1), pw_cell_below hb (hHeld.2.2.2.2.2.2.2.2.2.2.2.2.2.1), pw_cell_below hb (hHeld.2.2.2.2.2.2.2.2.2.2.2.2.2.2.1), pw_cell_below hb (hHeld.2.2.2.2.2.2.2.2.2.2.2.2.2.2.2.1), pw_cell_below hb (hHeld.2.2.2.2.2.2.2.2.2.2.2.2.2.2.2.2.1), pw_cell_below hb (hHeld.2.2.2.2.2.2.2.2.2.2.2.2.2.2.2.2.2)⟩ (fun hHeld => ?_)
    clear hK K
    refine norm_ (a' := ?_) ?_ ?_
    rotate_left
    ·show Act.put _ (some 56) _ = _
     simp only [Act.put, List.setIfInBounds_toArray, List.set_cons_zero, List.set_cons_succ, i64_w, i32_w]
     rfl
    refine pI 8 48 ?_
    refine pI 9 57 ?_
    refine pI 10 58 ?_
    exact norm_ sN (hJ6_7_11 (gl, A6, c6, g11) _ ⟨hHeld, B5.out, CL.out, N6.out, R6.out, G11.out, X11.out⟩)
  ·skip
   rintro ⟨gl, A6, c6⟩ w6 ⟨hS_, h_B5, h_CL, h_N6, h_R6⟩
   have B5 := Aside0.mk h_B5
   have CL := Aside0.mk h_CL
   have N6 := Aside0.mk h_N6
   have R6 := Aside0.mk h_R6
   have hHeld : w6.cell? ⟨ad.block, ad.off + 18, none⟩ = some (.int .i64 3) ∧ w6.cell? ⟨ad.block, ad.off + 18 + 1, none⟩ = some (.int .i64 50) ∧ w6.cell? ⟨ad.block, ad.off + 18 + 2, none⟩ = some (.int .i64 10) ∧ w6.cell? ⟨ad.block, ad.off + 18 + 3, none⟩ = some (.string ⟨#[111, 105, 108]⟩) ∧ w6.cell? ⟨ad.block, ad.off + 18 + 4, none⟩ = some (.int .i64 1) ∧ w6.cell? ⟨ad.block, ad.off + 18 + 5, none⟩ = some (.int .i64 2) ∧ w6.cell? ⟨ad.block, ad.off + 18 + 6, none⟩ = some (.int .i64 10) ∧ w6.cell? ⟨ad.block, ad.off + 18 + 7, none⟩ = some (.int .i64 3) ∧ w6.cell? ⟨ad.block, ad.off + 18 + 8, none⟩ = some (.int .i64 0) ∧ w6.cell? az = some (.int .i64 1) ∧ w6.cell? ⟨az.block, az.off + 1, none⟩ = some (.int .i64 60) ∧ w6.cell? ⟨az.block, az.off + 2, none⟩ = some (.int .i64 55) ∧ w6.cell? ⟨az.block, az.off + 3, none⟩ = some (.int .i64 10) ∧ w6.cell? ⟨az.block, az.off + 4, none⟩ = some (.int .i64 100) ∧ w6.cell? ⟨az.block, az.off + 5, none⟩ = some (.int .i64 7) ∧ w6.cell? ⟨az.block, az.off + 6, none⟩ = some (.int .i64 8) ∧ w6.cell? ⟨az.block, az.off + 7, none⟩ = some (.int .i64 30) ∧ w6.cell? ⟨az.block, az.off + 8, none⟩ = some (.int .i64 0) := hS_
   clear hS_ h_B5 h_CL h_N6 h_R6
   refine norm_ (a' := ?_) ?_ ?_
   rotate_left
   ·simp only [putAll, Act.put, List.setIfInBounds_toArray, List.set_cons_zero, List.set_cons_succ]
    rfl
   refine one_ (i := 11) (N := some 11) #[true, true, true, true, true, true, true, true, true, true, true, true, false, false] rfl rfl (by kernel_rfl) (by decide) (fun K hK => ?_)
   refine value_ (w1 := ?_) (v := ?_) (by rfl) rfl ?_ ?_
   rotate_left 2
   ·go_simp
    constructor
    ·rfl
    ·rfl
   have hb_ : Below w6.heap.size w6 (w6.alloc (.cells #[.int .i64 0, .int .i64 0, .int .i64 0, .int .i64 0, .int .i64 0, .slice none 0 0] 59)) := below_alloc (Below.refl _ _) _
   have X11' := Aside0.mk (heap_alloc_new w6 (.cells #[.int .i64 0, .int .i64 0, .int .i64 0, .int .i64 0, .int .i64 0, .slice none 0 0] 59))
   have G11 := Aside0.mk B5.out.size
   have n_B5 := Aside0.mk (below_step B5.out hb_)
   have n_CL := Aside0.mk (Kd.C_below CL.out hb_)
   have n_R6 := Aside0.mk (Kd.R_below R6.out hb_)
   clear B5 CL R6
   have B5 := n_B5
   have CL := n_CL
   have R6 := n_R6
   clear n_B5 n_CL n_R6
   have X11 := X11'
   refine hK.out _ _ ⟨pw_cell_below hb_ (hHeld.1), pw_cell_below hb_ (hHeld.2.1), pw_cell_below hb_ (hHeld.2.2.1), pw_cell_below hb_ (hHeld.2.2.2.1), pw_cell_below hb_ (hHeld.2.2.2.2.1), pw_cell_below hb_ (hHeld.2.2.2.2.2.1), pw_cell_below hb_ (hHeld.2.2.2.2.2.2.1), pw_cell_below hb_ (hHeld.2.2.2.2.2.2.2.1), pw_cell_below hb_ (hHeld.2.2.2.2.2.2.2.2.1), pw_cell_below hb_ (hHeld.2.2.2.2.2.2.2.2.2.1), pw_cell_below hb_ (hHeld.2.2.2.2.2.2.2.2.2.2.1), pw_cell_below hb_ (hHeld.2.2.2.2.2.2.2.2.2.2.2.1), pw_cell_below hb_ (hHeld.2.2.2.2.2.2.2.2.2.2.2.2.1), pw_cell_below hb_ (hHeld.2.2.2.2.2.2.2.2.2.2.2.2.2.1), pw_cell_below hb_ (hHeld.2.2.2.2.2.2.2.2.2.2.2.2.2.2.1), pw_cell_below hb_ (hHeld.2.2.2.2.2.2.2.2.2.2.2.2.2.2.2.1), pw_cell_below hb_ (hHeld.2.2.2.2.2.2.2.2.2.2.2.2.2.2.2.2.1), pw_cell_below hb_ (hHeld.2.2.2.2.2.2.2.2.2.2.2.2.2.2.2.2.2)⟩ (fun hHeld => ?_)
   clear hK K
   refine norm_ (a' := ?_) ?_ ?_
   rotate_left
   ·show Act.put _ (some 11) _ = _
    simp only [Act.put, List.setIfInBounds_toArray, List.set_cons_zero, List.set_cons_succ, i64_w, i32_w]
    rfl
   exact norm_ sN (hJ6_7_11 (gl, A6, c6, w6.heap.size) _ ⟨hHeld, B5.out, CL.out, N6.out, R6.out, G11.out, X11.out⟩)
 rintro ⟨gl, A6, c6, g11⟩ w6 ⟨hS_, h_B5, h_CL, h_N6, h_R6, h_G11, h_X11⟩
 have B5 := Aside0.mk h_B5
 have CL := Aside0.mk h_CL
 have N6 := Aside0.mk h_N6
 have R6 := Aside0.mk h_R6
 have G11 := Aside0.mk h_G11
 have X11 := Aside0.mk h_X11
 have hHeld : w6.cell? ⟨ad.block, ad.off + 18, none⟩ = some (.int .i64 3) ∧ w6.cell? ⟨ad.block, ad.off + 18 + 1, none⟩ = some (.int .i64 50) ∧ w6.cell? ⟨ad.block, ad.off + 18 + 2, none⟩ = some (.int .i64 10) ∧ w6.cell? ⟨ad.block, ad.off + 18 + 3, none⟩ = some (.string ⟨#[111, 105, 108]⟩) ∧ w6.cell? ⟨ad.block, ad.off + 18 + 4, none⟩ = some (.int .i64 1) ∧ w6.cell? ⟨ad.block, ad.off + 18 + 5, none⟩ = some (.int .i64 2) ∧ w6.cell? ⟨ad.block, ad.off + 18 + 6, none⟩ = some (.int .i64 10) ∧ w6.cell? ⟨ad.block, ad.off + 18 + 7, none⟩ = some (.int .i64 3) ∧ w6.cell? ⟨ad.block, ad.off + 18 + 8, none⟩ = some (.int .i64 0) ∧ w6.cell? az = some (.int .i64 1) ∧ w6.cell? ⟨az.block, az.off + 1, none⟩ = some (.int .i64 60) ∧ w6.cell? ⟨az.block, az.off + 2, none⟩ = some (.int .i64 55) ∧ w6.cell? ⟨az.block, az.off + 3, none⟩ = some (.int .i64 10) ∧ w6.cell? ⟨az.block, az.off + 4, none⟩ = some (.int .i64 100) ∧ w6.cell? ⟨az.block, az.off + 5, none⟩ = some (.int .i64 7) ∧ w6.cell? ⟨az.block, az.off + 6, none⟩ = some (.int .i64 8) ∧ w6.cell? ⟨az.block, az.off + 7, none⟩ = some (.int .i64 30) ∧ w6.cell? ⟨az.block, az.off + 8, none⟩ = some (.int .i64 0) := hS_
 clear hS_ h_B5 h_CL h_N6 h_R6 h_G11 h_X11
 refine norm_ (a' := ?_) ?_ ?_
 rotate_left
 ·simp only [putAll, Act.put, List.setIfInBounds_toArray, List.set_cons_zero, List.set_cons_succ]
  rfl
 refine last_ (i := 12) (N := none) #[true, true, true, true, true, true, true, true, true, true, true, true, true, false] rfl rfl (by kernel_rfl) (by decide) (fun K hK => ?_)
 obtain ⟨z0, z1, z2, z3, z4, z5, q0, q1, q2, q3, q4, q5⟩ := cf6 X11.out
 refine skip_ (w1 := ?_) (by rfl) rfl ?_ ?_
 rotate_left
 ·go_simp
  rfl
 have n0_ := Aside0.mk (Kd.R_set (Kd.R_set (Kd.R_set (Kd.R_set (Kd.R_set (Kd.R_set (R6.out) (X11.out) (by decide) 0 (.int .i64 100)) (blk_put (X11.out) 0 (.int .i64 100) rfl) (by decide) 1 (.int .i64 10)) (blk_put (blk_put (X11.out) 0 (.int .i64 100) rfl) 1 (.int .i64 10) rfl) (by decide) 2 (.int .i64 3)) (blk_put (blk_put (blk_put (X11.out) 0 (.int .i64 100) rfl) 1 (.int .i64 10) rfl) 2 (.int .i64 3) rfl) (by decide) 3 (.int .i64 50)) (blk_put (blk_put (blk_put (blk_put (X11.out) 0 (.int .i64 100) rfl) 1 (.int .i64 10) rfl) 2 (.int .i64 3) rfl) 3 (.int .i64 50) rfl) (by decide) 4 (.int .i64 37)) (blk_put (blk_put (blk_put (blk_put (blk_put (X11.out) 0 (.int .i64 100) rfl) 1 (.int .i64 10) rfl) 2 (.int .i64 3) rfl) 3 (.int .i64 50) rfl) 4 (.int .i64 37) rfl) (by decide) 5 (.slice A6 4 c6))
 have n1_ : Aside0 (((((((w6.setCell ⟨g11, 0, none⟩ (.int .i64 100)).setCell ⟨g11, 1, none⟩ (.int .i64 10)).setCell ⟨g11, 2, none⟩ (.int .i64 3)).setCell ⟨g11, 3, none⟩ (.int .i64 50)).setCell ⟨g11, 4, none⟩ (.int .i64 37)).setCell ⟨g11, 5, none⟩ (.slice A6 4 c6)).heap[g11]? = some (.cells #[.int .i64 100, .int .i64 10, .int .i64 3, .int .i64 50, .int .i64 37, .slice A6 4 c6] 59 (0, 0))) := ⟨blk_put (blk_put (blk_put (blk_put (blk_put (blk_put (X11.out) 0 (.int .i64 100) rfl) 1 (.int .i64 10) rfl) 2 (.int .i64 3) rfl) 3 (.int .i64 50) rfl) 4 (.int .i64 37) rfl) 5 (.slice A6 4 c6) rfl⟩
 have n2_ : Aside0 (Below v6.heap.size v6 ((((((w6.setCell ⟨g11, 0, none⟩ (.int .i64 100)).setCell ⟨g11, 1, none⟩ (.int .i64 10)).setCell ⟨g11, 2, none⟩ (.int .i64 3)).setCell ⟨g11, 3, none⟩ (.int .i64 50)).setCell ⟨g11, 4, none⟩ (.int .i64 37)).setCell ⟨g11, 5, none⟩ (.slice A6 4 c6))) := ⟨below_set (below_set (below_set (below_set (below_set (below_set (B5.out) G11.out) G11.out) G11.out) G11.out) G11.out) G11.out⟩
 clear R6 X11 B5 CL hHeld z0 q0 z1 q1 z2 q2 z3 q3 z4 q4 z5 q5
 generalize ((((((w6.setCell ⟨g11, 0, none⟩ (.int .i64 100)).setCell ⟨g11, 1, none⟩ (.int .i64 10)).setCell ⟨g11, 2, none⟩ (.int .i64 3)).setCell ⟨g11, 3, none⟩ (.int .i64 50)).setCell ⟨g11, 4, none⟩ (.int .i64 37)).setCell ⟨g11, 5, none⟩ (.slice A6 4 c6)) = w8 at n0_ n1_ n2_ ⊢
 have R6 := n0_
 have X11 := n1_
 have B5 := n2_
 clear n0_ n1_ n2_
 refine hK.out _ _ ?_
 clear hK K
 refine pI 13 12 ?_
 refine done_ (by kernel_rfl) ?_
 have C26 := Aside0.mk (Kd.C_below CT.out (below_step B1.out B5.out))
 have C39 := Aside0.mk (Kd.C_below CS.out (below_step B2.out B5.out))
 have D0 := Aside0.mk (below_step B0.out B5.out)
 have Y3 := Aside0.mk (blk_below X3.out B5.out)
 have Y5 := Aside0.mk (blk_below X5.out B5.out)
 have C11 := Aside0.mk ((Kd.R_reads' R6.out).2.2)
 have N11 := Aside0.mk N6.out
 have D8 := Aside0.mk (Below.refl w8.heap.size w8)
 clear B0 B1 B2 B5 X3 X5 R6 G11 CT CS N6
 go_wp2_with (first
  | (go_at_call 34; (with_reducible refine (p_awardOf _ _ _ _ _ _ (Kd.C_below C26.out (below_alloc (Below.refl _ _) (.cells #[.int .i64 4] 3))) NT.out (Kd.C_below C39.out (below_alloc (Below.refl _ _) (.cells #[.int .i64 4] 3))) NS.out (lit_4 w8)).mono ?_); rintro e w9 ⟨A13, c13, rfl, hb⟩; have n_D8 := Aside0.mk (below_step (below_alloc (D8.out) _) hb); have n_Y3 := Aside0.mk (blk_below (blk_alloc (Y3.out) _) hb); have n_Y5 := Aside0.mk (blk_below (blk_alloc (Y5.out) _) hb); have n_X11 := Aside0.mk (blk_below (blk_alloc (X11.out) _) hb); have n_C26 := Aside0.mk (Kd.C_below C26.out (below_step (below_alloc (Below.refl _ _) _) hb)); have n_C39 := Aside0.mk (Kd.C_below C39.out (below_step (below_alloc (Below.refl _ _) _) hb)); have n_C11 := Aside0.mk (Kd.C_below C11.out (below_step (below_alloc (Below.refl _ _) _) hb)); clear D8 Y3 Y5 X11 C26 C39 C11; have D8 := n_D8; have Y3 := n_Y3; have Y5 := n_Y5; have X11 := n_X11; have C26 := n_C26; have C39 := n_C39; have C11 := n_C11; clear n_D8 n_Y3 n_Y5 n_X11 n_C26 n_C39 n_C11; clear hb; have X13 := Aside0.mk (heap_alloc_new w9 (.cells #[.int .i64 100, .int .i64 10, .int .i64 3, .int .i64 33, .int .i64 54, .slice A13 3 c13] 59)))
  | (go_at_call 28; (with_reducible refine (p_divide _ _ (lit_t' w9 (.cells #[.int .i64 100, .int .i64 10, .int .i64 3, .int .i64 33, .int .i64 54, .slice A13 3 c13] 59) ⟨0, ⟨1, 2⟩⟩ ⟨3, ⟨1, 3⟩⟩)).mono ?_); rintro e w10 ⟨A15, c15, rfl, hc, hC, hb⟩; have n_D8 := Aside0.mk (below_step (below_alloc (below_alloc (D8.out) _) _) hb); have n_Y3 := Aside0.mk (blk_below (blk_alloc (blk_alloc (Y3.out) _) _) hb); have n_Y5 := Aside0.mk (blk_below (blk_alloc (blk_alloc (Y5.out) _) _) hb); have n_X11 := Aside0.mk (blk_below (blk_alloc (blk_alloc (X11.out) _) _) hb); have n_X13 := Aside0.mk (blk_below (blk_alloc (X13.out) _) hb); have n_C26 := Aside0.mk (Kd.C_below C26.out (below_step (below_alloc (below_alloc (Below.refl _ _) _) _) hb)); have n_C39 := Aside0.mk (Kd.C_below C39.out (below_step (below_alloc (below_alloc (Below.refl _ _) _) _) hb)); have n_C11 := Aside0.mk (Kd.C_below C11.out (below_step (below_alloc (below_alloc (Below.refl _ _) _) _) hb)); clear D8 Y3 Y5 X11 X13 C26 C39 C11; have D8 := n_D8; have Y3 := n_Y3; have Y5 := n_Y5; have X11 := n_X11; have X13 := n_X13; have C26 := n_C26; have C39 := n_C39; have C11 := n_C11; clear n_D8 n_Y3 n_Y5 n_X11 n_X13 n_C26 n_C39 n_C11; clear hb; have N15 := Aside0.mk hc; have C15 := Aside0.mk hC; clear hc hC)
  | (go_at_call 26; (with_reducible refine (p_equal _ _ (lit_454 w10)).mono ?_); rintro e w11 ⟨A18, c18, rfl, hc, hC, hb⟩; have n_D8 := Aside0.mk (below_step (below_alloc (D8.out) _) hb); have n_Y3 := Aside0.mk (blk_below (blk_alloc (Y3.out) _) hb); have n_Y5 := Aside0.mk (blk_below (blk_alloc (Y5.out) _) hb); have n_X11 := Aside0.mk (blk_below (blk_alloc (X11.out) _) hb); have n_X13 := Aside0.mk (blk_below (blk_alloc (X13.out) _) hb); have n_C26 := Aside0.mk (Kd.C_below C26.out (below_step (below_alloc (Below.refl _ _) _) hb)); have n_C39 := Aside0.mk (Kd.C_below C39.out (below_step (below_alloc (Below.refl _ _) _) hb)); have n_C11 := Aside0.mk (Kd.C_below C11.out (below_step (below_alloc (Below.refl _ _) _) hb)); have n_C15 := Aside0.mk (Kd.C_below C15.out (below_step (below_alloc (Below.refl _ _) _) hb)); clear D8 Y3 Y5 X11 X13 C26 C39 C11 C15; have D8 := n_D8; have Y3 := n_Y3; have Y5 := n_Y5; have X11 := n_X11; have X13 := n_X13; have C26 := n_C26; have C39 := n_C39; have C11 := n_C11; have C15 := n_C15; clear n_D8 n_Y3 n_Y5 n_X11 n_X13 n_C26 n_C39 n_C11 n_C15; clear hb; have N18 := Aside0.mk hc; have C18 := Aside0.mk hC; clear hc hC)
  | (go_at_call 42; (with_reducible refine (p_change _ _ _ (Kd.C_below (lit_2 w11 ⟨4, 33⟩ ⟨7, 10⟩) (below_alloc (Below.refl _ _) (.cells #[.int .i64 4, .int .i64 50, .int .i64 8, .int .i64 3] 69))) (lit_2' w11 (.cells #[.int .i64 4, .int .i64 33, .int .i64 7, .int .i64 10] 69) ⟨4, 50⟩ ⟨8, 3⟩)).mono ?_); rintro e w12 ⟨A20, c20, rfl, hc, hC, hb⟩; have n_D8 := Aside0.mk (below_step (below_alloc (below_alloc (D8.out) _) _) hb); have n_Y3 := Aside0.mk (blk_below (blk_alloc (blk_alloc (Y3.out) _) _) hb); have n_Y5 := Aside0.mk (blk_below (blk_alloc (blk_alloc (Y5.out) _) _) hb); have n_X11 := Aside0.mk (blk_below (blk_alloc (blk_alloc (X11.out) _) _) hb); have n_X13 := Aside0.mk (blk_below (blk_alloc (blk_alloc (X13.out) _) _) hb); have n_C26 := Aside0.mk (Kd.C_below C26.out (below_step (below_alloc (below_alloc (Below.refl _ _) _) _) hb)); have n_C39 := Aside0.mk (Kd.C_below C39.out (below_step (below_alloc (below_alloc (Below.refl _ _) _) _) hb)); have n_C11 := Aside0.mk (Kd.C_below C11.out (below_step (below_alloc (below_alloc (Below.refl _ _) _) _) hb)); have n_C15 := Aside0.mk (Kd.C_below C15.out (below_step (below_alloc (below_alloc (Below.refl _ _) _) _) hb)); have n_C18 := Aside0.mk (Kd.C_below C18.out (below_step (below_alloc (below_alloc (Below.refl _ _) _) _) hb)); clear D8 Y3 Y5 X11 X13 C26 C39 C11 C15 C18; have D8 := n_D8; have Y3 := n_Y3; have Y5 := n_Y5; have X11 := n_X11; have X13 := n_X13; have C26 := n_C26; have C39 := n_C39; have C11 := n_C11; have C15 := n_C15; have C18 := n_C18; clear n_D8 n_Y3 n_Y5 n_X11 n_X13 n_C26 n_C39 n_C11 n_C15 n_C18; clear hb; have N20 := Aside0.mk hc; have C20 := Aside0.mk hC; clear hc hC; have y3 : w12.cell? ⟨w3.heap.size, 0, none⟩ = some (.int .i64 3) := (blk_cell Y3.out 0).trans rfl; have y5 : w12.cell? ⟨w4.heap.size, 0, none⟩ = some (.int .i64 2) := (blk_cell Y5.out 0).trans rfl)
  | (go_at_call 22; (with_reducible refine (p_turns _ _ _ C26.out NT.out).mono ?_); rintro e w13 ⟨A22, c22, rfl, hc, hC, hb⟩; have n_D8 := Aside0.mk (below_step (D8.out) hb); have n_Y3 := Aside0.mk (blk_below (Y3.out) hb); have n_Y5 := Aside0.mk (blk_below (Y5.out) hb); have n_X11 := Aside0.mk (blk_below (X11.out) hb); have n_X13 := Aside0.mk (blk_below (X13.out) hb); have n_C26 := Aside0.mk (Kd.C_below C26.out (below_step (Below.refl _ _) hb)); have n_C39 := Aside0.mk (Kd.C_below C39.out (below_step (Below.refl _ _) hb)); have n_C11 := Aside0.mk (Kd.C_below C11.out (below_step (Below.refl _ _) hb)); have n_C15 := Aside0.mk (Kd.C_below C15.out (below_step (Below.refl _ _) hb)); have n_C18 := Aside0.mk (Kd.C_below C18.out (below_step (Below.refl _ _) hb)); have n_C20 := Aside0.mk (Kd.C_below C20.out (below_step (Below.refl _ _) hb)); clear D8 Y3 Y5 X11 X13 C26 C39 C11 C15 C18 C20; have D8 := n_D8; have Y3 := n_Y3; have Y5 := n_Y5; have X11 := n_X11; have X13 := n_X13; have C26 := n_C26; have C39 := n_C39; have C11 := n_C11; have C15 := n_C15; have C18 := n_C18; have C20 := n_C20; clear n_D8 n_Y3 n_Y5 n_X11 n_X13 n_C26 n_C39 n_C11 n_C15 n_C18 n_C20; clear hb; have N22 := Aside0.mk hc; have C22 := Aside0.mk hC; clear hc hC y3 y5)
  | (go_at_call 21; (with_reducible refine (p_ints2 _ _ _ _ (Kd.C_below C22.out (below_alloc (Below.refl _ _) (.cells #[.int .i64 0, .int .i64 10] 3))) N22.out (lit_010 w13)).mono ?_); rintro e w14 ⟨rfl, hb⟩; have n_D8 := Aside0.mk (below_step (below_alloc (D8.out) _) hb); have n_Y3 := Aside0.mk (blk_below (blk_alloc (Y3.out) _) hb); have n_Y5 := Aside0.mk (blk_below (blk_alloc (Y5.out) _) hb); have n_X11 := Aside0.mk (blk_below (blk_alloc (X11.out) _) hb); have n_X13 := Aside0.mk (blk_below (blk_alloc (X13.out) _) hb); have n_C26 := Aside0.mk (Kd.C_below C26.out (below_step (below_alloc (Below.refl _ _) _) hb)); have n_C39 := Aside0.mk (Kd.C_below C39.out (below_step (below_alloc (Below.refl _ _) _) hb)); have n_C11 := Aside0.mk (Kd.C_below C11.out (below_step (below_alloc (Below.refl _ _) _) hb)); have n_C15 := Aside0.mk (Kd.C_below C15.out (below_step (below_alloc (Below.refl _ _) _) hb)); have n_C18 := Aside0.mk (Kd.C_below C18.out (below_step (below_alloc (Below.refl _ _) _) hb)); have n_C20 := Aside0.mk (Kd.C_below C20.out (below_step (below_alloc (Below.refl _ _) _) hb)); have n_C22 := Aside0.mk (Kd.C_below C22.out (below_step (below_alloc (Below.refl _ _) _) hb)); clear D8 Y3 Y5 X11 X13 C26 C39 C11 C15 C18 C20 C22; have D8 := n_D8; have Y3 := n_Y3; have Y5 := n_Y5; have X11 := n_X11; have X13 := n_X13; have C26 := n_C26; have C39 := n_C39; have C11 := n_C11; have C15 := n_C15; have C18 := n_C18; have C20 := n_C20; have C22 := n_C22; clear n_D8 n_Y3 n_Y5 n_X11 n_X13 n_C26 n_C39 n_C11 n_C15 n_C18 n_C20 n_C22; clear hb; have y1 : w14.cell? ⟨g11, 1, none⟩ = some (.int .i64 10) := (blk_cell X11.out 1).trans rfl; have y2 : w14.cell? ⟨g11, 2, none⟩ = some (.int .i64 3) := (blk_cell X11.out 2).trans rfl; have y3 : w14.cell? ⟨g11, 3, none⟩ = some (.int .i64 50) := (blk_cell X11.out 3).trans rfl; have y4 : w14.cell? ⟨g11, 4, none⟩ = some (.int .i64 37) := (blk_cell X11.out 4).trans rfl; have y5 : w14.cell? ⟨g11, 5, none⟩ = some (.slice A6 4 c6) := (blk_cell X11.out 5).trans rfl)
  | (go_at_call 30; (with_reducible refine (p_sh4 _ _ _ _ (Kd.C_below C11.out (below_alloc (Below.refl _ _) (.cells #[.int .i64 4, .int .i64 33, .int .i64 5, .int .i64 17, .int .i64 7, .int .i64 10, .int .i64 8, .int .i64 3] 69))) N11.out (lit_5 w14 ⟨4, 33⟩ ⟨5, 17⟩ ⟨7, 10⟩ ⟨8, 3⟩)).mono ?_); rintro e w15 ⟨rfl, hb⟩; have n_D8 := Aside0.mk (below_step (below_alloc (D8.out) _) hb); have n_Y3 := Aside0.mk (blk_below (blk_alloc (Y3.out) _) hb); have n_Y5 := Aside0.mk (blk_below (blk_alloc (Y5.out) _) hb); have n_X11 := Aside0.mk (blk_below (blk_alloc (X11.out) _) hb); have n_X13 := Aside0.mk (blk_below (blk_alloc (X13.out) _) hb); have n_C26 := Aside0.mk (Kd.C_below C26.out (below_step (below_alloc (Below.refl _ _) _) hb)); have n_C39 := Aside0.mk (Kd.C_below C39.out (below_step (below_alloc (Below.refl _ _) _) hb)); have n_C11 := Aside0.mk (Kd.C_below C11.out (below_step (below_alloc (Below.refl _ _) _) hb)); have n_C15 := Aside0.mk (Kd.C_below C15.out (below_step (below_alloc (Below.refl _ _) _) hb)); have n_C18 := Aside0.mk (Kd.C_below C18.out (below_step (below_alloc (Below.refl _ _) _) hb)); have n_C20 := Aside0.mk (Kd.C_below C20.out (below_step (below_alloc (Below.refl _ _) _) hb)); have n_C22 := Aside0.mk (Kd.C_below C22.out (below_step (below_alloc (Below.refl _ _) _) hb)); clear D8 Y3 Y5 X11 X13 C26 C39 C11 C15 C18 C20 C22; have D8 := n_D8; have Y3 := n_Y3; have Y5 := n_Y5; have X11 := n_X11; have X13 := n_X13; have C26 := n_C26; have C39 := n_C39; have C11 := n_C11; have C15 := n_C15; have C18 := n_C18; have C20 := n_C20; have C22 := n_C22; clear n_D8 n_Y3 n_Y5 n_X11 n_X13 n_C26 n_C39 n_C11 n_C15 n_C18 n_C20 n_C22; clear hb; clear y1 y2 y3 y4 y5; have y3 : w15.cell? ⟨w9.heap.size, 3, none⟩ = some (.int .i64 33) := (blk_cell X13.out 3).trans rfl; have y4 : w15.cell? ⟨w9.heap.size, 4, none⟩ = some (.int .i64 54) := (blk_cell X13.out 4).trans rfl)
  | (go_at_call 30; (with_reducible refine (p_sh2 _ _ _ _ (Kd.C_below C15.out (below_alloc (Below.refl _ _) (.cells #[.int .i64 0, .int .i64 18, .int .i64 3, .int .i64 12] 69))) N15.out (lit_2 w15 ⟨0, 18⟩ ⟨3, 12⟩)).mono ?_); rintro e w16 ⟨rfl, hb⟩; have n_D8 := Aside0.mk (below_step (below_alloc (D8.out) _) hb); have n_Y3 := Aside0.mk (blk_below (blk_alloc (Y3.out) _) hb); have n_Y5 := Aside0.mk (blk_below (blk_alloc (Y5.out) _) hb); have n_X11 := Aside0.mk (blk_below (blk_alloc (X11.out) _) hb); have n_X13 := Aside0.mk (blk_below (blk_alloc (X13.out) _) hb); have n_C26 := Aside0.mk (Kd.C_below C26.out (below_step (below_alloc (Below.refl _ _) _) hb)); have n_C39 := Aside0.mk (Kd.C_below C39.out (below_step (below_alloc (Below.refl _ _) _) hb)); have n_C11 := Aside0.mk (Kd.C_below C11.out (below_step (below_alloc (Below.refl _ _) _) hb)); have n_C15 := Aside0.mk (Kd.C_below C15.out (below_step (below_alloc (Below.refl _ _) _) hb)); have n_C18 := Aside0.mk (Kd.C_below C18.out (below_step (below_alloc (Below.refl _ _) _) hb)); have n_C20 := Aside0.mk (Kd.C_below C20.out (below_step (below_alloc (Below.refl _ _) _) hb)); have n_C22 := Aside0.mk (Kd.C_below C22.out (below_step (below_alloc (Below.refl _ _) _) hb)); clear D8 Y3 Y5 X11 X13 C26 C39 C11 C15 C18 C20 C22; have D8 := n_D8; have Y3 := n_Y3; have Y5 := n_Y5; have X11 := n_X11; have X13 := n_X13; have C26 := n_C26; have C39 := n_C39; have C11 := n_C11; have C15 := n_C15; have C18 := n_C18; have C20 := n_C20; have C22 := n_C22; clear n_D8 n_Y3 n_Y5 n_X11 n_X13 n_C26 n_C39 n_C11 n_C15 n_C18 n_C20 n_C22; clear hb; clear y3 y4)
  | (go_at_call 21; (with_reducible refine (p_ints3 _ _ _ _ (Kd.C_below C18.out (below_alloc (Below.refl _ _) (.cells #[.int .i64 3, .int .i64 3, .int .i64 2] 3))) N18.out (lit_332 w16)).mono ?_); rintro e w17 ⟨rfl, hb⟩; have n_D8 := Aside0.mk (below_step (below_alloc (D8.out) _) hb); have n_Y3 := Aside0.mk (blk_below (blk_alloc (Y3.out) _) hb); have n_Y5 := Aside0.mk (blk_below (blk_alloc (Y5.out) _) hb); have n_X11 := Aside0.mk (blk_below (blk_alloc (X11.out) _) hb); have n_X13 := Aside0.mk (blk_below (blk_alloc (X13.out) _) hb); have n_C26 := Aside0.mk (Kd.C_below C26.out (below_step (below_alloc (Below.refl _ _) _) hb)); have n_C39 := Aside0.mk (Kd.C_below C39.out (below_step (below_alloc (Below.refl _ _) _) hb)); have n_C11 := Aside0.mk (Kd.C_below C11.out (below_step (below_alloc (Below.refl _ _) _) hb)); have n_C15 := Aside0.mk (Kd.C_below C15.out (below_step (below_alloc (Below.refl _ _) _) hb)); have n_C18 := Aside0.mk (Kd.C_below C18.out (below_step (below_alloc (Below.refl _ _) _) hb)); have n_C20 := Aside0.mk (Kd.C_below C20.out (below_step (below_alloc (Below.refl _ _) _) hb)); have n_C22 := Aside0.mk (Kd.C_below C22.out (below_step (below_alloc (Below.refl _ _) _) hb)); clear D8 Y3 Y5 X11 X13 C26 C39 C11 C15 C18 C20 C22; have D8 := n_D8; have Y3 := n_Y3; have Y5 := n_Y5; have X11 := n_X11; have X13 := n_X13; have C26 := n_C26; have C39 := n_C39; have C11 := n_C11; have C15 := n_C15; have C18 := n_C18; have C20 := n_C20; have C22 := n_C22; clear n_D8 n_Y3 n_Y5 n_X11 n_X13 n_C26 n_C39 n_C11 n_C15 n_C18 n_C20 n_C22; clear hb)
  | (go_at_call 30; (with_reducible refine (p_sh3 _ _ _ _ (Kd.C_below C20.out (below_alloc (Below.refl _ _) (.cells #[.int .i64 4, .int .i64 17, .int .i64 7, .int .i64 (-10), .int .i64 8, .int .i64 3] 69))) N20.out (lit_3 w17 ⟨4, 17⟩ ⟨7, -10⟩ ⟨8, 3⟩)).mono ?_); rintro e w18 ⟨rfl, hb⟩; have n_D8 := Aside0.mk (below_step (below_alloc (D8.out) _) hb); have n_Y3 := Aside0.mk (blk_below (blk_alloc (Y3.out) _) hb); have n_Y5 := Aside0.mk (blk_below (blk_alloc (Y5.out) _) hb); have n_X11 := Aside0.mk (blk_below (blk_alloc (X11.out) _) hb); have n_X13 := Aside0.mk (blk_below (blk_alloc (X13.out) _) hb); have n_C26 := Aside0.mk (Kd.C_below C26.out (below_step (below_alloc (Below.refl _ _) _) hb)); have n_C39 := Aside0.mk (Kd.C_below C39.out (below_step (below_alloc (Below.refl _ _) _) hb)); have n_C11 := Aside0.mk (Kd.C_below C11.out (below_step (below_alloc (Below.refl _ _) _) hb)); have n_C15 := Aside0.mk (Kd.C_below C15.out (below_step (below_alloc (Below.refl _ _) _) hb)); have n_C18 := Aside0.mk (Kd.C_below C18.out (below_step (below_alloc (Below.refl _ _) _) hb)); have n_C20 := Aside0.mk (Kd.C_below C20.out (below_step (below_alloc (Below.refl _ _) _) hb)); have n_C22 := Aside0.mk (Kd.C_below C22.out (below_step (below_alloc (Below.refl _ _) _) hb)); clear D8 Y3 Y5 X11 X13 C26 C39 C11 C15 C18 C20 C22; have D8 := n_D8; have Y3 := n_Y3; have Y5 := n_Y5; have X11 := n_X11; have X13 := n_X13; have C26 := n_C26; have C39 := n_C39; have C11 := n_C11; have C15 := n_C15; have C18 := n_C18; have C20 := n_C20; have C22 := n_C22; clear n_D8 n_Y3 n_Y5 n_X11 n_X13 n_C26 n_C39 n_C11 n_C15 n_C18 n_C20 n_C22; clear hb; have D0' := Aside0.mk (below_step D0.out D8.out)))
 go_ret
 exact ⟨rfl, D0'.out⟩
def laganlaw06_paid.f : Option Bool := some true
theorem laganlaw06_paid.calls (r : Bool) (w : World) (h : laganlaw06_paid.f = some r) : Calls Tryz.prog 16 #[] w fun e w' => e = .returned (.bool r) ∧ Below w.heap.size w w' := by
 cases h
 exact paid_any w
end
section
attribute [local go_sem] max2_int min2_int max_two min_two max_three min_three max_four min_four
mutual
def laganlaw06_AwardEqual.j0 : Nat → Int → List Int → Bool → Option (Bool)
 | 0, _, _, _ => none
 | k + 1, x0, x5, x36 => if x36 = true then (some false) else (laganlaw06_AwardEqual.l0 k x0 x5 0 0)
def laganlaw06_AwardEqual.l0 : Nat → Int → List Int → Int → Int → Option (Bool)
 | 0, _, _, _, _ => none
 | k + 1, x0, x5, x7, x8 => if x8 < (x5.length : Int) then (if 0 ≤ x8 then (if (rd x5 x8) < 0 then (some false) else (if 0 < (x5.length : Int) then (if (rd x5 x8) > (rd x5 0) then (some false) else (if (wrap64 ((rd x5 0) - (rd x5 x8))) > 1 then (some false) else (if x8 > 0 then (if 0 ≤ (wrap64 (x8 - 1)) then (if (wrap64 (x8 - 1)) < (x5.length : Int) then (if (rd x5 x8) > (rd x5 (wrap64 (x8 - 1))) then (some false) else (laganlaw06_AwardEqual.l0 k x0 x5 (wrap64 (x7 + (rd x5 x8))) (wrap64 (x8 + 1)))) else (none)) else (none)) else (laganlaw06_AwardEqual.l0 k x0 x5 (wrap64 (x7 + (rd x5 x8))) (wrap64 (x8 + 1)))))) else (none))) else (none)) else ((laganlaw06_paid.f).bind fun t556 => (if t556 = true then (some (x7 == x0)) else (some false)))
end
def laganlaw06_AwardEqual.f (k : Nat) (a0 : Int) (l1 : List Int) : Option (Bool) := if (l1.length : Int) > 60 then ((laganlaw06_paid.f).bind fun t541 => (some t541)) else ((award_Equal.f k a0 l1).bind fun bt542 => (if bt542.2 = 0 then (if (bt542.1.length : Int) = (l1.length : Int) then (laganlaw06_AwardEqual.j0 k a0 bt542.1 ((bt542.1.length : Int) == 0)) else (laganlaw06_AwardEqual.j0 k a0 bt542.1 true)) else ((laganlaw06_paid.f).bind fun t546 => (if t546 = true then (some ((bt542.1.length : Int) == 0)) else (some false)))))
set_option maxHeartbeats 8000000 in
set_option maxRecDepth 100000 in
theorem laganlaw06_AwardEqual.calls (k : Nat) (a0 : Int) (A1 : Option Addr) (c1 : Nat) (l1 : List Int) (r : Bool) (w : World) (hr_ : Aside0 (r = true)) (hr1 : Kd.C (Kd.int .i64) w A1 l1.length l1) (hc1 : l1.length ≤ c1) (h : laganlaw06_AwardEqual.f k a0 l1 = some r) :
  Calls Tryz.prog 5 #[.int .i64 a0, .slice A1 l1.length c1] w fun e w' => e = .returned (.bool r) ∧ Below w.heap.size w w' := by
 have HR1 := Aside0.mk hr1
 have HC1 := Aside0.mk hc1
 clear hr1 hc1
 have HB := Aside0.mk (Below.refl w.heap.size w)
 have H : (if (l1.length : Int) > 60 then ((laganlaw06_paid.f).bind fun t541 => (some t541)) else ((award_Equal.f k a0 l1).bind fun bt542 => (if bt542.2 = 0 then (if (bt542.1.length : Int) = (l1.length : Int) then (laganlaw06_AwardEqual.j0 k a0 bt542.1 ((bt542.1.length : Int) == 0)) else (laganlaw06_AwardEqual.j0 k a0 bt542.1 true)) else ((laganlaw06_paid.f).bind fun t546 => (if t546 = true then (some ((bt542.1.length : Int) == 0)) else (some false)))))) = some r := h
 clear h
 by_cases c3 : (l1.length : Int) > 60
 ·rw [if_pos c3] at H
  have c3b0 : decide (60 < (l1.length : Int)) = true := decide_eq_true c3
  have c3b1 : decide (60 < l1.length) = true := decide_eq_true (by omega)
  clear c3
  replace H := Option.bind_eq_some_iff.mp H
  obtain ⟨t541, A40, H⟩ := H
  replace H : (some t541) = some r := H
  have A4 := Aside0.mk A40
  clear A40
  obtain rfl := Option.some.inj H
  go_enter Tryz.func5, Tryz.ntmps5
  go_wp2_with (first | (go_at_call 16; (with_reducible refine (laganlaw06_paid.calls  t541 _ A4.out).mono ?_); rintro e w5 ⟨rfl, hb⟩; have n0_ := Aside0.mk (below_step (sB HB.out) hb); clear HB; have HB := n0_; clear n0_; (try clear hb); (try clear hb2); (try clear hk); (try clear hi)))
  repeat (go_quiet (first | (go_at_call 16; (with_reducible refine (laganlaw06_paid.calls  t541 _ A4.out).mono ?_); rintro e w5 ⟨rfl, hb⟩; have n0_ := Aside0.mk (below_step (sB HB.out) hb); clear HB; have HB := n0_; clear n0_; (try clear hb); (try clear hb2); (try clear hk); (try clear hi))); try go_wp2_with (first | (go_at_call 16; (with_reducible refine (laganlaw06_paid.calls  t541 _ A4.out).mono ?_); rintro e w5 ⟨rfl, hb⟩; have n0_ := Aside0.mk (below_step (sB HB.out) hb); clear HB; have HB := n0_; clear n0_; (try clear hb); (try clear hb2); (try clear hk); (try clear hi))))
  go_ret
  exact ⟨sE, sB HB.out⟩
 ·rw [if_neg c3] at H
  have c3b0 : decide (60 < (l1.length : Int)) = false := decide_eq_false c3
  have c3b1 : decide (60 < l1.length) = false := decide_eq_false (by omega)
  clear c3
  replace H := Option.bind_eq_some_iff.mp H
  obtain ⟨⟨t542, t543⟩, A60, H⟩ := H
  replace H : (if t543 = 0 then (if (t542.length : Int) = (l1.length : Int) then (laganlaw06_AwardEqual.j0 k a0 t542 ((t542.length : Int) == 0)) else (laganlaw06_AwardEqual.j0 k a0 t542 true)) else ((laganlaw06_paid.f).bind fun t546 => (if t546 = true then (some ((t542.length : Int) == 0)) else (some false)))) = some r := H
  have A6 := Aside0.mk A60
  clear A60
  by_cases c7 : t543 = 0
  ·rw [if_pos c7] at H
   have c7b0 : (t543 == 0) = true := beq_iff_eq.mpr c7
   have c7b1 : (t543 != 0) = false := bne_eq_false_iff_eq.mpr c7
   clear c7
   have HC8 := Aside0.mk H
   clear H
   go_enter Tryz.func5, Tryz.ntmps5
   go_upto_region 6 with (first | (go_at_call 26; (with_reducible refine (award_Equal.calls k a0 _ _ l1 t542 t543 _ ?side1 ?side2 A6.out).mono ?_); (case side1 => exact sC HR1.out); (case side2 => exact HC1.out); rintro e w9 ⟨v544, rfl, ho0, hb⟩; have n0_ := Aside0.mk (Kd.R_lower ho0 (below_size (sB HB.out))); have n1_ := Aside0.mk (below_step (sB HB.out) hb); clear HB; have HO545 := n0_; have HB := n1_; clear n0_ n1_; (try clear hb); (try clear hb2); (try clear hk); (try clear hi); (try clear ho0)))
   repeat (go_quiet (first | (go_at_call 26; (with_reducible refine (award_Equal.calls k a0 _ _ l1 t542 t543 _ ?side1 ?side2 A6.out).mono ?_); (case side1 => exact sC HR1.out); (case side2 => exact HC1.out); rintro e w9 ⟨v544, rfl, ho0, hb⟩; have n0_ := Aside0.mk (Kd.R_lower ho0 (below_size (sB HB.out))); have n1_ := Aside0.mk (below_step (sB HB.out) hb); clear HB; have HO545 := n0_; have HB := n1_; clear n0_ n1_; (try clear hb); (try clear hb2); (try clear hk); (try clear hi); (try clear ho0))); go_upto_region 6 with (first | (go_at_call 26; (with_reducible refine (award_Equal.calls k a0 _ _ l1 t542 t543 _ ?side1 ?side2 A6.out).mono ?_); (case side1 => exact sC HR1.out); (case side2 => exact HC1.out); rintro e w9 ⟨v544, rfl, ho0, hb⟩; have n0_ := Aside0.mk (Kd.R_lower ho0 (below_size (sB HB.out))); have n1_ := Aside0.mk (below_step (sB HB.out) hb); clear HB; have HO545 := n0_; have HB := n1_; clear n0_ n1_; (try clear hb); (try clear hb2); (try clear hk); (try clear hi); (try clear ho0))))
   (try simp only [Act.put, List.setIfInBounds_toArray, List.set_cons_zero, List.set_cons_succ])
   go_cut [36] (fun v36 wc => ∃ (kq : Nat) (x36_7 : Bool), v36 = .bool x36_7 ∧ Aside0 (laganlaw06_AwardEqual.j0 kq a0 t542 x36_7 = some r) ∧ Aside0 (kq ≤ k) ∧ Aside0 (Kd.R (Kd.int .i64) 3 wc w.heap.size (fun _ => True) v544 t542) ∧ Aside0 (Below w.heap.size w wc))
   case first =>
    have H := HC8.out
    clear HC8
    by_cases c10 : (t542.length : Int) = (l1.length : Int)
    ·rw [if_pos c10] at H
     have c10b0 : ((t542.length : Int) == (l1.length : Int)) = true := beq_iff_eq.mpr c10
     have c10b1 : ((t542.length : Int) != (l1.length : Int)) = false := bne_eq_false_iff_eq.mpr c10
     have c10b2 : (t542.length == l1.length) = true := by first | simpa using c10 | (simp at c10 ⊢; omega)
     clear c10
     (first | rw [c10b0] | (simp only [i64_w, i32_w]; rw [c10b0]) | skip)
     have H' := Aside0.mk H
     clear H
     obtain ⟨Ao11, co11, eo11⟩ := Kd.R_slice HO545.out
     subst eo11
     go_wp2
     repeat (go_quiet (fail); try go_wp2)
     go_meet
     case rel => exact ⟨_, (((t542.length : Int) == 0)), (by first | rfl | (simp; done) | (simp [*]; done)), H', ⟨by first | omega | exact Nat.le_refl _⟩, ⟨by (with_reducible repeat (first | apply Kd.R_alloc | apply Kd.R_drewN | apply Kd.R_drew)); exact HO545.out⟩, ⟨sB HB.out⟩⟩
    ·rw [if_neg c10] at H
     have c10b0 : ((t542.length : Int) == (l1.length : Int)) = false := beq_eq_false_iff_ne.mpr c10
     have c10b1 : ((t542.length : Int) != (l1.length : Int)) = true := bne_iff_ne.mpr c10
     have c10b2 : (t542.length == l1.length) = false := by first | simpa using c10 | (simp at c10 ⊢; omega)
     (first | rw [c10b0] | (simp only [i64_w, i32_w]; rw [c10b0]) | skip)
     have H' := Aside0.mk H
     clear H
     obtain ⟨Ao12, co12, eo12⟩ := Kd.R_slice HO545.out
     subst eo12
     go_wp2
     repeat (go_quiet (fail); try go_wp2)
     go_meet
     case rel => exact ⟨_, (true), (by first | rfl | (simp; done) | (simp [*]; done)), H', ⟨by first | omega | exact Nat.le_refl _⟩, ⟨by (with_reducible repeat (first | apply Kd.R_alloc | apply Kd.R_drewN | apply Kd.R_drew)); exact HO545.out⟩, ⟨sB HB.out⟩⟩
   case rest =>
    clear HC8
    try clear c1
    try clear p2
    try clear c3
    try clear c3b0
    try clear c3b1
    try clear c5
    try clear c7
    try clear c7b0
    try clear c7b1
    try clear c10
    try clear c10b0
    try clear c10b1
    try clear c10b2
    obtain ⟨kq, x36_7, rfl, HA, HJ7, HO_5, HB⟩ := hcut
    cases kq with
    | zero => exact absurd HA.out (by simp [laganlaw06_AwardEqual.j0])
    | succ kj7 =>
     have H := HA.out
     clear HA
     simp only [laganlaw06_AwardEqual.j0] at H
     by_cases c13 : x36_7 = true
     ·subst c13
      have H1 : (some false) = some r := by rw [if_pos rfl] at H; exact H
      clear H
      have H := H1
      clear H1
      obtain rfl := Option.some.inj H
      exact absurd hr_.out (by decide)
     ·replace c13 := Bool.eq_false_iff.mpr c13
      subst c13
      have H1 : (laganlaw06_AwardEqual.l0 kj7 a0 t542 0 0) = some r := by rw [if_neg (show ¬ (false = true) by decide)] at H; exact H
      clear H
      have H := H1
      clear H1
      have H' := Aside0.mk H
      clear H
      go_wp2
      repeat (go_quiet (fail); try go_wp2)
      go_loopg [7, 8] kj7 (fun kq v7 v8 w' => ∃ (x7_2 : Int) (x8_2 : Int), v7 = .int .i64 x7_2 ∧ v8 = .int .i64 x8_2 ∧ Aside0 (laganlaw06_AwardEqual.l0 kq a0 t542 x7_2 x8_2 = some r) ∧ Aside0 (kq ≤ kj7) ∧ Aside0 (Kd.R (Kd.int .i64) 3 w' w.heap.size (fun _ => True) v544 t542) ∧ Aside0 (Below w.heap.size w w'))
      case atStart => exact ⟨(0), (0), (by first | rfl | (simp; done) | (simp [*]; done)), (by first | rfl | (simp; done) | (simp [*]; done)), H', ⟨Nat.le_refl _⟩, ⟨by (with_reducible repeat (first | apply Kd.R_alloc | apply Kd.R_drewN | apply Kd.R_drew)); exact HO_5.out⟩, ⟨sB HB.out⟩⟩
      case round =>
       clear H'
       try clear c1
       try clear p2
       try clear c3
       try clear c3b0
       try clear c3b1
       try clear c5
       try clear c7
       try clear c7b0
       try clear c7b1
       try clear c10
       try clear c10b0
       try clear c10b1
       try clear c10b2
       try clear c13
       try clear p2
       obtain ⟨x7_2, x8_2, rfl, rfl, HA, HK2, HO_5, HB⟩ := hrel
       cases gk with
       | zero => exact absurd HA.out (by simp [laganlaw06_AwardEqual.l0])
       | succ k2 =>
        have H := HA.out
        clear HA
        simp only [laganlaw06_AwardEqual.l0] at H
        by_cases c14 : x8_2 < (t542.length : Int)
        ·rw [if_pos c14] at H
         have c14b0 : decide (x8_2 < (t542.length : Int)) = true := decide_eq_true c14
         clear c14
         by_cases c15 : 0 ≤ x8_2
         ·rw [if_pos c15] at H
          have c15b0 : decide (0 ≤ x8_2) = true := decide_eq_true c15
          clear c15
          by_cases c16 : (rd t542 x8_2) < 0
          ·rw [if_pos c16] at H
           have c16b0 : decide ((rd t542 x8_2) < 0) = true := decide_eq_true c16
           clear c16
           obtain rfl := Option.some.inj H
           exact absurd hr_.out (by decide)
          ·rw [if_neg c16] at H
           have c16b0 : decide ((rd t542 x8_2) < 0) = false := decide_eq_false c16
           clear c16
           by_cases c17 : 0 < (t542.length : Int)
           ·rw [if_pos c17] at H
            have c17b0 : decide (0 < (t542.length : Int)) = true := decide_eq_true c17
            have c17b1 : decide (0 < t542.length) = true := decide_eq_true (by omega)
            clear c17
            by_cases c18 : (rd t542 x8_2) > (rd t542 0)
            ·rw [if_pos c18] at H
             have c18b0 : decide ((rd t542 0) < (rd t542 x8_2)) = true := decide_eq_true c18
             clear c18
             obtain rfl := Option.some.inj H
             exact absurd hr_.out (by decide)
            ·rw [if_neg c18] at H
             have c18b0 : decide ((rd t542 0) < (rd t542 x8_2)) = false := decide_eq_false c18
             clear c18
             by_cases c19 : (wrap64 ((rd t542 0) - (rd t542 x8_2))) > 1
             ·rw [if_pos c19] at H
              have c19b0 : decide (1 < (wrap64 ((rd t542 0) - (rd t542 x8_2)))) = true := decide_eq_true c19
              clear c19
              obtain rfl := Option.some.inj H
              exact absurd hr_.out (by decide)
             ·rw [if_neg c19] at H
              have c19b0 : decide (1 < (wrap64 ((rd t542 0) - (rd t542 x8_2)))) = false := decide_eq_false c19
              clear c19
              by_cases c20 : x8_2 > 0
              ·rw [if_pos c20] at H
               have c20b0 : decide (0 < x8_2) = true := decide_eq_true c20
               clear c20
               obtain ⟨ji21, hji21⟩ : ∃ j_ : Int, (wrap64 (x8_2 - 1)) = j_ := ⟨_, rfl⟩
               replace H : (if 0 ≤ (ji21) then (if (ji21) < (t542.length : Int) then (if (rd t542 x8_2) > (rd t542 (ji21)) then (some false) else (laganlaw06_AwardEqual.l0 k2 a0 t542 (wrap64 (x7_2 + (rd t542 x8_2))) (wrap64 (x8_2 + 1)))) else (none)) else (none)) = some r := by first | (rw [hji21] at H; exact H) | (simp only [hji21] at H ⊢; exact H)
               have hji21w : (IntKind.i64.wrap (x8_2 - 1)) = ji21 := (i64_w _).trans hji21
               by_cases c22 : 0 ≤ (ji21)
               ·rw [if_pos c22] at H
                have c22b0 : decide (0 ≤ (ji21)) = true := decide_eq_true c22
                clear c22
                by_cases c23 : (ji21) < (t542.length : Int)
                ·rw [if_pos c23] at H
                 have c23b0 : decide ((ji21) < (t542.length : Int)) = true := decide_eq_true c23
                 clear c23
                 by_cases c24 : (rd t542 x8_2) > (rd t542 (ji21))
                 ·rw [if_pos c24] at H
                  have c24b0 : decide ((rd t542 (ji21)) < (rd t542 x8_2)) = true := decide_eq_true c24
                  clear c24
                  obtain rfl := Option.some.inj H
                  exact absurd hr_.out (by decide)
                 ·rw [if_neg c24] at H
                  have c24b0 : decide ((rd t542 (ji21)) < (rd t542 x8_2)) = false := decide_eq_false c24
                  clear c24
                  have H' := Aside0.mk H
                  clear H
                  obtain ⟨Ao25, co25, eo25⟩ := Kd.R_slice HO_5.out
                  subst eo25
                  have p547 : 0 ≤ (x8_2 : Int) := of_decide_eq_true (by first | (with_reducible assumption) | assumption)
                  have q547 : x8_2 < (t542.length : Int) := of_decide_eq_true (by first | (with_reducible assumption) | assumption)
                  obtain ⟨ad547, e547, hx547_0⟩ := Kd.at_int (Kd.R_reads' HO_5.out).2.2 x8_2 p547 q547
                  cases e547
                  replace p547 := eq_true p547
                  replace q547 := eq_true q547
                  have p548 : 0 ≤ (x8_2 : Int) := of_decide_eq_true (by first | (with_reducible assumption) | assumption)
                  have q548 : x8_2 < (t542.length : Int) := of_decide_eq_true (by first | (with_reducible assumption) | assumption)
                  obtain ⟨ad548, e548, hx548_0⟩ := Kd.at_int (Kd.R_reads' HO_5.out).2.2 x8_2 p548 q548
                  obtain rfl : ad547 = ad548 := (by injection e548)
                  replace p548 := eq_true p548
                  replace q548 := eq_true q548
                  have p549 : 0 ≤ (0 : Int) := (by omega)
                  have q549 : 0 < (t542.length : Int) := of_decide_eq_true (by first | (with_reducible assumption) | assumption)
                  obtain ⟨ad549, e549, hx549_0⟩ := Kd.at_int (Kd.R_reads' HO_5.out).2.2 0 p549 q549
                  obtain rfl : ad547 = ad549 := (by injection e549)
                  have qi549 : (0 < t542.length) = True := eq_true (by omega)
                  (try rw [show ((0 : Int)).toNat = 0 from rfl] at hx549_0)
                  (try rw [Addr.add_zero'] at hx549_0)
                  replace p549 := eq_true p549
                  replace q549 := eq_true q549
                  have p550 : 0 ≤ (0 : Int) := (by omega)
                  have q550 : 0 < (t542.length : Int) := of_decide_eq_true (by first | (with_reducible assumption) | assumption)
                  obtain ⟨ad550, e550, hx550_0⟩ := Kd.at_int (Kd.R_reads' HO_5.out).2.2 0 p550 q550
                  obtain rfl : ad547 = ad550 := (by injection e550)
                  have qi550 : (0 < t542.length) = True := eq_true (by omega)
                  (try rw [show ((0 : Int)).toNat = 0 from rfl] at hx550_0)
                  (try rw [Addr.add_zero'] at hx550_0)
                  replace p550 := eq_true p550
                  replace q550 := eq_true q550
                  have p551 : 0 ≤ (x8_2 : Int) := of_decide_eq_true (by first | (with_reducible assumption) | assumption)
                  have q551 : x8_2 < (t542.length : Int) := of_decide_eq_true (by first | (with_reducible assumption) | assumption)
                  obtain ⟨ad551, e551, hx551_0⟩ := Kd.at_int (Kd.R_reads' HO_5.out).2.2 x8_2 p551 q551
                  obtain rfl : ad547 = ad551 := (by injection e551)
                  replace p551 := eq_true p551
                  replace q551 := eq_true q551
                  have p552 : 0 ≤ (x8_2 : Int) := of_decide_eq_true (by first | (with_reducible assumption) | assumption)
                  have q552 : x8_2 < (t542.length : Int) := of_decide_eq_true (by first | (with_reducible assumption) | assumption)
                  obtain ⟨ad552, e552, hx552_0⟩ := Kd.at_int (Kd.R_reads' HO_5.out).2.2 x8_2 p552 q552
                  obtain rfl : ad547 = ad552 := (by injection e552)
                  replace p552 := eq_true p552
                  replace q552 := eq_true q552
                  have p553 : 0 ≤ ((ji21) : Int) := of_decide_eq_true (by first | (with_reducible assumption) | assumption)
                  have q553 : (ji21) < (t542.length : Int) := of_decide_eq_true (by first | (with_reducible assumption) | assumption)
                  obtain ⟨ad553, e553, hx553_0⟩ := Kd.at_int (Kd.R_reads' HO_5.out).2.2 (ji21) p553 q553
                  obtain rfl : ad547 = ad553 := (by injection e553)
                  replace p553 := eq_true p553
                  replace q553 := eq_true q553
                  have p554 : 0 ≤ (x8_2 : Int) := of_decide_eq_true (by first | (with_reducible assumption) | assumption)
                  have q554 : x8_2 < (t542.length : Int) := of_decide_eq_true (by first | (with_reducible assumption) | assumption)
                  obtain ⟨ad554, e554, hx554_0⟩ := Kd.at_int (Kd.R_reads' HO_5.out).2.2 x8_2 p554 q554
                  obtain rfl : ad547 = ad554 := (by injection e554)
                  replace p554 := eq_true p554
                  replace q554 := eq_true q554
                  go_wp2
                  repeat (go_quiet (fail); try go_wp2)
                  go_roundg k2
                  case measure => have := HJ7.out; have := HK2.out; omega
                  case rel => exact ⟨(wrap64 (x7_2 + (rd t542 x8_2))), (wrap64 (x8_2 + 1)), (by first | rfl | (simp; done) | (simp [*]; done)), (by first | rfl | (simp; done) | (simp [*]; done)), H', ⟨by have := HJ7.out; have := HK2.out; omega⟩, ⟨by (with_reducible repeat (first | apply Kd.R_alloc | apply Kd.R_drewN | apply Kd.R_drew)); exact HO_5.out⟩, ⟨sB HB.out⟩⟩
                ·rw [if_neg c23] at H
                 exact absurd H (by simp)
               ·rw [if_neg c22] at H
                exact absurd H (by simp)
              ·rw [if_neg c20] at H
               have c20b0 : decide (0 < x8_2) = false := decide_eq_false c20
               clear c20
               have H' := Aside0.mk H
               clear H
               obtain ⟨Ao26, co26, eo26⟩ := Kd.R_slice HO_5.out
               subst eo26
               have p547 : 0 ≤ (x8_2 : Int) := of_decide_eq_true (by first | (with_reducible assumption) | assumption)
               have q547 : x8_2 < (t542.length : Int) := of_decide_eq_true (by first | (with_reducible assumption) | assumption)
               obtain ⟨ad547, e547, hx547_0⟩ := Kd.at_int (Kd.R_reads' HO_5.out).2.2 x8_2 p547 q547
               cases e547
               replace p547 := eq_true p547
               replace q547 := eq_true q547
               have p548 : 0 ≤ (x8_2 : Int) := of_decide_eq_true (by first | (with_reducible assumption) | assumption)
               have q548 : x8_2 < (t542.length : Int) := of_decide_eq_true (by first | (with_reducible assumption) | assumption)
               obtain ⟨ad548, e548, hx548_0⟩ := Kd.at_int (Kd.R_reads' HO_5.out).2.2 x8_2 p548 q548
               obtain rfl : ad547 = ad548 := (by injection e548)
               replace p548 := eq_true p548
               replace q548 := eq_true q548
               have p549 : 0 ≤ (0 : Int) := (by omega)
               have q549 : 0 < (t542.length : Int) := of_decide_eq_true (by first | (with_reducible assumption) | assumption)
               obtain ⟨ad549, e549, hx549_0⟩ := Kd.at_int (Kd.R_reads' HO_5.out).2.2 0 p549 q549
               obtain rfl : ad547 = ad549 := (by injection e549)
               have qi549 : (0 < t542.length) = True := eq_true (by omega)
               (try rw [show ((0 : Int)).toNat = 0 from rfl] at hx549_0)
               (try rw [Addr.add_zero'] at hx549_0)
               replace p549 := eq_true p549
               replace q549 := eq_true q549
               have p550 : 0 ≤ (0 : Int) := (by omega)
               have q550 : 0 < (t542.length : Int) := of_decide_eq_true (by first | (with_reducible assumption) | assumption)
               obtain ⟨ad550, e550, hx550_0⟩ := Kd.at_int (Kd.R_reads' HO_5.out).2.2 0 p550 q550
               obtain rfl : ad547 = ad550 := (by injection e550)
               have qi550 : (0 < t542.length) = True := eq_true (by omega)
               (try rw [show ((0 : Int)).toNat = 0 from rfl] at hx550_0)
               (try rw [Addr.add_zero'] at hx550_0)
               replace p550 := eq_true p550
               replace q550 := eq_true q550
               have p551 : 0 ≤ (x8_2 : Int) := of_decide_eq_true (by first | (with_reducible assumption) | assumption)
               have q551 : x8_2 < (t542.length : Int) := of_decide_eq_true (by first | (with_reducible assumption) | assumption)
               obtain ⟨ad551, e551, hx551_0⟩ := Kd.at_int (Kd.R_reads' HO_5.out).2.2 x8_2 p551 q551
               obtain rfl : ad547 = ad551 := (by injection e551)
               replace p551 := eq_true p551
               replace q551 := eq_true q551
               have p555 : 0 ≤ (x8_2 : Int) := of_decide_eq_true (by first | (with_reducible assumption) | assumption)
               have q555 : x8_2 < (t542.length : Int) := of_decide_eq_true (by first | (with_reducible assumption) | assumption)
               obtain ⟨ad555, e555, hx555_0⟩ := Kd.at_int (Kd.R_reads' HO_5.out).2.2 x8_2 p555 q555
               obtain rfl : ad547 = ad555 := (by injection e555)
               replace p555 := eq_true p555
               replace q555 := eq_true q555
               go_wp2
               repeat (go_quiet (fail); try go_wp2)
               go_roundg k2
               case measure => have := HJ7.out; have := HK2.out; omega
               case rel => exact ⟨(wrap64 (x7_2 + (rd t542 x8_2))), (wrap64 (x8_2 + 1)), (by first | rfl | (simp; done) | (simp [*]; done)), (by first | rfl | (simp; done) | (simp [*]; done)), H', ⟨by have := HJ7.out; have := HK2.out; omega⟩, ⟨by (with_reducible repeat (first | apply Kd.R_alloc | apply Kd.R_drewN | apply Kd.R_drew)); exact HO_5.out⟩, ⟨sB HB.out⟩⟩
           ·rw [if_neg c17] at H
            exact absurd H (by simp)
         ·rw [if_neg c15] at H
          exact absurd H (by simp)
        ·rw [if_neg c14] at H
         have c14b0 : decide (x8_2 < (t542.length : Int)) = false := decide_eq_false c14
         clear c14
         replace H := Option.bind_eq_some_iff.mp H
         obtain ⟨t556, A270, H⟩ := H
         replace H : (if t556 = true then (some (x7_2 == a0)) else (some false)) = some r := H
         have A27 := Aside0.mk A270
         clear A270
         by_cases c28 : t556 = true
         ·subst c28
          have H1 : (some (x7_2 == a0)) = some r := by rw [if_pos rfl] at H; exact H
          clear H
          have H := H1
          clear H1
          obtain rfl := Option.some.inj H
          obtain ⟨Ao29, co29, eo29⟩ := Kd.R_slice HO_5.out
          subst eo29
          go_wp2_with (first | (go_at_call 16; (with_reducible refine (laganlaw06_paid.calls  true _ A27.out).mono ?_); rintro e w30 ⟨rfl, hb⟩; have n0_ := Aside0.mk (Kd.R_below (sR HO_5.out) hb); have n1_ := Aside0.mk (below_step (sB HB.out) hb); clear HO_5; clear HB; have HO_5 := n0_; have HB := n1_; clear n0_ n1_; (try clear hb); (try clear hb2); (try clear hk); (try clear hi)))
          repeat (go_quiet (first | (go_at_call 16; (with_reducible refine (laganlaw06_paid.calls  true _ A27.out).mono ?_); rintro e w30 ⟨rfl, hb⟩; have n0_ := Aside0.mk (Kd.R_below (sR HO_5.out) hb); have n1_ := Aside0.mk (below_step (sB HB.out) hb); clear HO_5; clear HB; have HO_5 := n0_; have HB := n1_; clear n0_ n1_; (try clear hb); (try clear hb2); (try clear hk); (try clear hi))); try go_wp2_with (first | (go_at_call 16; (with_reducible refine (laganlaw06_paid.calls  true _ A27.out).mono ?_); rintro e w30 ⟨rfl, hb⟩; have n0_ := Aside0.mk (Kd.R_below (sR HO_5.out) hb); have n1_ := Aside0.mk (below_step (sB HB.out) hb); clear HO_5; clear HB; have HO_5 := n0_; have HB := n1_; clear n0_ n1_; (try clear hb); (try clear hb2); (try clear hk); (try clear hi))))
          go_ret
          exact ⟨sE, sB HB.out⟩
         ·replace c28 := Bool.eq_false_iff.mpr c28
          subst c28
          have H1 : (some false) = some r := by rw [if_neg (show ¬ (false = true) by decide)] at H; exact H
          clear H
          have H := H1
          clear H1
          obtain rfl := Option.some.inj H
          exact absurd hr_.out (by decide)
  ·rw [if_neg c7] at H
   have c7b0 : (t543 == 0) = false := beq_eq_false_iff_ne.mpr c7
   have c7b1 : (t543 != 0) = true := bne_iff_ne.mpr c7
   replace H := Option.bind_eq_some_iff.mp H
   obtain ⟨t546, A310, H⟩ := H
   replace H : (if t546 = true then (some ((t542.length : Int) == 0)) else (some false)) = some r := H
   have A31 := Aside0.mk A310
   clear A310
   by_cases c32 : t546 = true
   ·subst c32
    have H1 : (some ((t542.length : Int) == 0)) = some r := by rw [if_pos rfl] at H; exact H
    clear H
    have H := H1
    clear H1
    obtain rfl := Option.some.inj H
    go_enter Tryz.func5, Tryz.ntmps5
    go_wp2_with (first | (go_at_call 26; (with_reducible refine (award_Equal.calls k a0 _ _ l1 t542 t543 _ ?side1 ?side2 A6.out).mono ?_); (case side1 => exact sC HR1.out); (case side2 => exact HC1.out); rintro e w33 ⟨v544, rfl, ho0, hb⟩; have n0_ := Aside0.mk (Kd.R_lower ho0 (below_size (sB HB.out))); have n1_ := Aside0.mk (below_step (sB HB.out) hb); clear HB; have HO545 := n0_; have HB := n1_; clear n0_ n1_; (try clear hb); (try clear hb2); (try clear hk); (try clear hi); (try clear ho0)) | (go_at_call 16; (with_reducible refine (laganlaw06_paid.calls  true _ A31.out).mono ?_); rintro e w34 ⟨rfl, hb⟩; have n0_ := Aside0.mk (Kd.R_below (sR HO545.out) hb); have n1_ := Aside0.mk (below_step (sB HB.out) hb); clear HO545; clear HB; have HO545 := n0_; have HB := n1_; clear n0_ n1_; (try clear hb); (try clear hb2); (try clear hk); (try clear hi); obtain ⟨Ao35, co35, eo35⟩ := Kd.R_slice HO545.out; subst eo35))
    repeat (go_quiet (first | (go_at_call 26; (with_reducible refine (award_Equal.calls k a0 _ _ l1 t542 t543 _ ?side1 ?side2 A6.out).mono ?_); (case side1 => exact sC HR1.out); (case side2 => exact HC1.out); rintro e w33 ⟨v544, rfl, ho0, hb⟩; have n0_ := Aside0.mk (Kd.R_lower ho0 (below_size (sB HB.out))); have n1_ := Aside0.mk (below_step (sB HB.out) hb); clear HB; have HO545 := n0_; have HB := n1_; clear n0_ n1_; (try clear hb); (try clear hb2); (try clear hk); (try clear hi); (try clear ho0)) | (go_at_call 16; (with_reducible refine (laganlaw06_paid.calls  true _ A31.out).mono ?_); rintro e w34 ⟨rfl, hb⟩; have n0_ := Aside0.mk (Kd.R_below (sR HO545.out) hb); have n1_ := Aside0.mk (below_step (sB HB.out) hb); clear HO545; clear HB; have HO545 := n0_; have HB := n1_; clear n0_ n1_; (try clear hb); (try clear hb2); (try clear hk); (try clear hi); obtain ⟨Ao35, co35, eo35⟩ := Kd.R_slice HO545.out; subst eo35)); try go_wp2_with (first | (go_at_call 26; (with_reducible refine (award_Equal.calls k a0 _ _ l1 t542 t543 _ ?side1 ?side2 A6.out).mono ?_); (case side1 => exact sC HR1.out); (case side2 => exact HC1.out); rintro e w33 ⟨v544, rfl, ho0, hb⟩; have n0_ := Aside0.mk (Kd.R_lower ho0 (below_size (sB HB.out))); have n1_ := Aside0.mk (below_step (sB HB.out) hb); clear HB; have HO545 := n0_; have HB := n1_; clear n0_ n1_; (try clear hb); (try clear hb2); (try clear hk); (try clear hi); (try clear ho0)) | (go_at_call 16; (with_reducible refine (laganlaw06_paid.calls  true _ A31.out).mono ?_); rintro e w34 ⟨rfl, hb⟩; have n0_ := Aside0.mk (Kd.R_below (sR HO545.out) hb); have n1_ := Aside0.mk (below_step (sB HB.out) hb); clear HO545; clear HB; have HO545 := n0_; have HB := n1_; clear n0_ n1_; (try clear hb); (try clear hb2); (try clear hk); (try clear hi); obtain ⟨Ao35, co35, eo35⟩ := Kd.R_slice HO545.out; subst eo35)))
    go_ret
    exact ⟨sE, sB HB.out⟩
   ·replace c32 := Bool.eq_false_iff.mpr c32
    subst c32
    have H1 : (some false) = some r := by rw [if_neg (show ¬ (false = true) by decide)] at H; exact H
    clear H
    have H := H1
    clear H1
    obtain rfl := Option.some.inj H
    exact absurd hr_.out (by decide)
end
section
open Go.Shelf
theorem rd_equal (n : Int) (m i : Nat) (h : i < m) : rd (equalL n m) (i : Int) = n / (m : Int) + (if (i : Int) < n % (m : Int) then 1 else 0) := by
 unfold rd equalL
 rw [Int.toNat_natCast, List.getD_eq_getElem?_getD, List.getElem?_map, List.getElem?_range h]
 rfl
theorem equal_sum (n q r : Int) (m : Nat) (hm40 : m ≤ 40) (hn1 : n ≤ 1000000000) (hq : 0 ≤ q) (hr0 : 0 ≤ r) (hr : r < m) (hnq : (m : Int) * q + r = n) (L : List Int) (hL : L.length = m)
  (hrd : ∀ i : Nat, i < m → rd L (i : Int) = q + (if (i : Int) < r then 1 else 0)) : ∀ (d j : Nat), m - j < d → j ≤ m →
  laganlaw06_AwardEqual.l0 d n L ((j : Int) * q + (if (j : Int) < r then (j : Int) else r)) (j : Int) = some true
 | 0, j, h, _ => by omega
 | d + 1, j, h, hj => by
  unfold laganlaw06_AwardEqual.l0
  have e : ∀ x : Int, -9223372036854775808 ≤ x ∧ x ≤ 9223372036854775807 → wrap64 x = x := fun x hx => IntWalk.wrap64_in x hx
  rw [hL]
  by_cases hlt : j < m
  ·have hm0 : 0 < m := by omega
   have h0 := hrd 0 hm0
   have hjr := hrd j hlt
   have hs : ((j + 1 : Nat) : Int) * q = (j : Int) * q + q := by rw [Int.natCast_add, Int.add_mul]; simp
   have hle : ((j + 1 : Nat) : Int) * q ≤ (m : Int) * q := Int.mul_le_mul_of_nonneg_right (by omega) hq
   have hpos : 0 ≤ (j : Int) * q := Int.mul_nonneg (by omega) hq
   have hm : ((j : Nat) : Int) + 1 = ((j + 1 : Nat) : Int) := by omega
   simp only [Int.natCast_zero] at h0
   have ih := equal_sum n q r m hm40 hn1 hq hr0 hr hnq L hL hrd d (j + 1) (by omega) (by omega)
   rw [if_pos (by omega), if_pos (by omega), if_neg (by rw [hjr]; split <;> omega), if_pos (by omega), if_neg (by rw [h0, hjr]; split <;> split <;> omega), e _ (by rw [h0, hjr]; split <;> split <;> omega), if_neg (by rw [h0, hjr]; split <;> split <;> omega)]
   have hg : laganlaw06_AwardEqual.l0 d n L (wrap64 ((j : Int) * q + (if (j : Int) < r then (j : Int) else r) + rd L (j : Int))) (wrap64 ((j : Int) + 1)) = some true := by
    have hx : (j : Int) * q + (if (j : Int) < r then (j : Int) else r) + rd L (j : Int) = ((j + 1 : Nat) : Int) * q + (if ((j + 1 : Nat) : Int) < r then ((j + 1 : Nat) : Int) else r) := by
     rw [hjr, hs]; split <;> split <;> omega
    have hk : 0 ≤ (if ((j + 1 : Nat) : Int) < r then ((j + 1 : Nat) : Int) else r) ∧ (if ((j + 1 : Nat) : Int) < r then ((j + 1 : Nat) : Int) else r) ≤ r := by split <;> omega
    rw [hx, e ((j : Int) + 1) (by omega), hm, e _ (by omega)]
    exact ih
   by_cases hj0 : (j : Int) > 0
   ·have hp := hrd (j - 1) (by omega)
    rw [show ((j - 1 : Nat) : Int) = (j : Int) - 1 by omega] at hp
    rw [if_pos hj0, e ((j : Int) - 1) (by omega), if_pos (by omega), if_pos (by omega), if_neg (by rw [hp, hjr]; split <;> split <;> omega)]
    exact hg
   ·rw [if_neg hj0]
    exact hg
  ·obtain rfl : j = m := by omega
   rw [if_neg (by omega), if_neg (by omega), hnq]
   simp [laganlaw06_paid.f]
theorem awardEqual_true (n : Int) (l : List Int) : laganlaw06_AwardEqual.f 100 n l = some true := by
 unfold laganlaw06_AwardEqual.f
 split
 ·rfl
 ·rw [equal_f n l 100 (by omega)]
  simp only [Option.bind_some]
  cases hb : inB n 0 1000000000 && partiesB l with
  | false => simp [laganlaw06_paid.f]
  | true =>
   rw [Bool.and_eq_true, inB_iff] at hb
   have hl := parties_len hb.2
   have h := equal_sum n (n / (l.length : Int)) (n % (l.length : Int)) l.length hl.2 hb.1.2 (Int.ediv_nonneg hb.1.1 (by omega)) (Int.emod_nonneg _ (by omega)) (Int.emod_lt_of_pos _ (by omega)) (Int.mul_ediv_add_emod n _) (equalL n l.length) (equal_len _ _) (fun i hi => rd_equal n l.length i hi) 99 0 (by omega) (by omega)
   have h0 : ((0 : Nat) : Int) * (n / (l.length : Int)) + (if ((0 : Nat) : Int) < n % (l.length : Int) then ((0 : Nat) : Int) else n % (l.length : Int)) = 0 := by
    have := Int.emod_nonneg n (show (l.length : Int) ≠ 0 by omega)
    rw [Int.natCast_zero, Int.zero_mul]; split <;> omega
   rw [h0] at h
   simp only [↓reduceIte, equal_len, Bool.false_eq_true]
   rw [show laganlaw06_AwardEqual.j0 100 n (equalL n l.length) ((l.length : Int) == 0) = laganlaw06_AwardEqual.l0 99 n (equalL n l.length) 0 0 by
    show laganlaw06_AwardEqual.j0 (99 + 1) n (equalL n l.length) ((l.length : Int) == 0) = _
    simp only [laganlaw06_AwardEqual.j0]
    rw [if_neg (by rw [beq_iff_eq]; omega)]]
   exact h
end
end Go.Proofs.YtbicfbnempiocaaGreat.G
