/- Part 10 of what the law's proof rests on: what each function of the program computes, and that the machine's call of it comes to just that. -/
import Derived.Test.YtbicfbnempiocaaGreatZB0
import Derived.Test.YtbicfbnempiocaaGreatZB1
import Derived.Test.YtbicfbnempiocaaGreatZB2
import Derived.Test.YtbicfbnempiocaaGreatZB3
import Derived.Test.YtbicfbnempiocaaGreatZB4
import Derived.Test.YtbicfbnempiocaaGreatZB5
import Derived.Test.YtbicfbnempiocaaGreatZB6
import Derived.Test.YtbicfbnempiocaaGreatZB7
import Derived.Test.YtbicfbnempiocaaGreatZB8
set_option linter.unusedVariables false
set_option linter.unusedSimpArgs false
namespace Go.Proofs.YtbicfbnempiocaaGreat.G
open Go.RowKit Go.Proofs.YtbicfbnempiocaaGreatW.PrintWords Go.Proofs.YtbicfbnempiocaaGreatW.PrintLast Go.Proofs.YtbicfbnempiocaaGreatW.PrintMore
section
open Go.Shelf
theorem lit_ints (W : World) (xs : List Int) (h : xs.length ≤ 1000) : Kd.C (Kd.int .i64) (W.alloc (.cells (xs.map (Value.int .i64)).toArray 3)) (some ⟨W.heap.size, 0, none⟩) xs.length xs := by
 have ho := World.ownsRow_lit (base := W.heap.size) (e := 3) (size := 1) W (xs.map (Value.int .i64)).toArray xs.length (Nat.le_refl _) (by unfold maxLen; omega) (by simp)
 have hR : Kd.R (Kd.int .i64) 3 (W.alloc (.cells (xs.map (Value.int .i64)).toArray 3)) W.heap.size (fun _ => True) (.slice (some ⟨W.heap.size, 0, none⟩) xs.length xs.length) xs := Kd.R_of_own (by simpa [encs] using ho) (fun _ _ => trivial)
 exact (Kd.R_reads' hR).2.2
theorem lit_4 (W : World) : Kd.C (Kd.int .i64) (W.alloc (.cells #[.int .i64 4] 3)) (some ⟨W.heap.size, 0, none⟩) 1 [4] := lit_ints W [4] (by decide)
theorem lit_454 (W : World) : Kd.C (Kd.int .i64) (W.alloc (.cells #[.int .i64 4, .int .i64 5, .int .i64 4] 3)) (some ⟨W.heap.size, 0, none⟩) 3 [4, 5, 4] := lit_ints W [4, 5, 4] (by decide)
theorem lit_010 (W : World) : Kd.C (Kd.int .i64) (W.alloc (.cells #[.int .i64 0, .int .i64 10] 3)) (some ⟨W.heap.size, 0, none⟩) 2 [0, 10] := lit_ints W [0, 10] (by decide)
theorem lit_332 (W : World) : Kd.C (Kd.int .i64) (W.alloc (.cells #[.int .i64 3, .int .i64 3, .int .i64 2] 3)) (some ⟨W.heap.size, 0, none⟩) 3 [3, 3, 2] := lit_ints W [3, 3, 2] (by decide)
theorem lit_2 (W : World) (a b : S69) : Kd.C k69 (W.alloc (.cells #[.int .i64 a.f0, .int .i64 a.f1, .int .i64 b.f0, .int .i64 b.f1] 69)) (some ⟨W.heap.size, 0, none⟩) 2 [a, b] := by
 have hR : Kd.R k69 69 (W.alloc (.cells #[.int .i64 a.f0, .int .i64 a.f1, .int .i64 b.f0, .int .i64 b.f1] 69)) W.heap.size (fun _ => True) (.slice (some ⟨W.heap.size, 0, none⟩) 2 2) [a, b] :=
  ⟨fun _ _ => trivial, [.int .i64 a.f0, .int .i64 a.f1, .int .i64 b.f0, .int .i64 b.f1], World.ownsRow_lit (base := W.heap.size) (e := 69) (size := 2) W #[.int .i64 a.f0, .int .i64 a.f1, .int .i64 b.f0, .int .i64 b.f1] 2 (Nat.le_refl _) (by decide) rfl, Reps.c2 (k69_mkM _ _ _ a) (Reps.c2 (k69_mkM _ _ _ b) (Reps.none _ _))⟩
 exact (Kd.R_reads' hR).2.2
theorem lit_2' (W : World) (c : Obj) (a b : S69) : Kd.C k69 ((W.alloc c).alloc (.cells #[.int .i64 a.f0, .int .i64 a.f1, .int .i64 b.f0, .int .i64 b.f1] 69)) (some ⟨W.heap.size + 1, 0, none⟩) 2 [a, b] := by
 have h := lit_2 (W.alloc c) a b
 have e : (W.alloc c).heap.size = W.heap.size + 1 := by simp
 rw [e] at h
 exact h
theorem lit_3 (W : World) (a b c : S69) : Kd.C k69 (W.alloc (.cells #[.int .i64 a.f0, .int .i64 a.f1, .int .i64 b.f0, .int .i64 b.f1, .int .i64 c.f0, .int .i64 c.f1] 69)) (some ⟨W.heap.size, 0, none⟩) 3 [a, b, c] := by
 have hR : Kd.R k69 69 (W.alloc (.cells #[.int .i64 a.f0, .int .i64 a.f1, .int .i64 b.f0, .int .i64 b.f1, .int .i64 c.f0, .int .i64 c.f1] 69)) W.heap.size (fun _ => True) (.slice (some ⟨W.heap.size, 0, none⟩) 3 3) [a, b, c] :=
  ⟨fun _ _ => trivial, [.int .i64 a.f0, .int .i64 a.f1, .int .i64 b.f0, .int .i64 b.f1, .int .i64 c.f0, .int .i64 c.f1], World.ownsRow_lit (base := W.heap.size) (e := 69) (size := 2) W #[.int .i64 a.f0, .int .i64 a.f1, .int .i64 b.f0, .int .i64 b.f1, .int .i64 c.f0, .int .i64 c.f1] 3 (Nat.le_refl _) (by decide) rfl, Reps.c2 (k69_mkM _ _ _ a) (Reps.c2 (k69_mkM _ _ _ b) (Reps.c2 (k69_mkM _ _ _ c) (Reps.none _ _)))⟩
 exact (Kd.R_reads' hR).2.2
theorem lit_5 (W : World) (a b c d : S69) : Kd.C k69 (W.alloc (.cells #[.int .i64 a.f0, .int .i64 a.f1, .int .i64 b.f0, .int .i64 b.f1, .int .i64 c.f0, .int .i64 c.f1, .int .i64 d.f0, .int .i64 d.f1] 69)) (some ⟨W.heap.size, 0, none⟩) 4 [a, b, c, d] := by
 have hR : Kd.R k69 69 (W.alloc (.cells #[.int .i64 a.f0, .int .i64 a.f1, .int .i64 b.f0, .int .i64 b.f1, .int .i64 c.f0, .int .i64 c.f1, .int .i64 d.f0, .int .i64 d.f1] 69)) W.heap.size (fun _ => True) (.slice (some ⟨W.heap.size, 0, none⟩) 4 4) [a, b, c, d] :=
  ⟨fun _ _ => trivial, [.int .i64 a.f0, .int .i64 a.f1, .int .i64 b.f0, .int .i64 b.f1, .int .i64 c.f0, .int .i64 c.f1, .int .i64 d.f0, .int .i64 d.f1], World.ownsRow_lit (base := W.heap.size) (e := 69) (size := 2) W #[.int .i64 a.f0, .int .i64 a.f1, .int .i64 b.f0, .int .i64 b.f1, .int .i64 c.f0, .int .i64 c.f1, .int .i64 d.f0, .int .i64 d.f1] 4 (Nat.le_refl _) (by decide) rfl, Reps.c2 (k69_mkM _ _ _ a) (Reps.c2 (k69_mkM _ _ _ b) (Reps.c2 (k69_mkM _ _ _ c) (Reps.c2 (k69_mkM _ _ _ d) (Reps.none _ _))))⟩
 exact (Kd.R_reads' hR).2.2
theorem lit_t (W : World) (a b : S71) : Kd.C k71 (W.alloc (.cells #[.int .i64 a.f0, .int .i64 a.f1.f0, .int .i64 a.f1.f1, .int .i64 b.f0, .int .i64 b.f1.f0, .int .i64 b.f1.f1] 71)) (some ⟨W.heap.size, 0, none⟩) 2 [a, b] := by
 have hR : Kd.R k71 71 (W.alloc (.cells #[.int .i64 a.f0, .int .i64 a.f1.f0, .int .i64 a.f1.f1, .int .i64 b.f0, .int .i64 b.f1.f0, .int .i64 b.f1.f1] 71)) W.heap.size (fun _ => True) (.slice (some ⟨W.heap.size, 0, none⟩) 2 2) [a, b] :=
  ⟨fun _ _ => trivial, [.int .i64 a.f0, .int .i64 a.f1.f0, .int .i64 a.f1.f1, .int .i64 b.f0, .int .i64 b.f1.f0, .int .i64 b.f1.f1], World.ownsRow_lit (base := W.heap.size) (e := 71) (size := 3) W #[.int .i64 a.f0, .int .i64 a.f1.f0, .int .i64 a.f1.f1, .int .i64 b.f0, .int .i64 b.f1.f0, .int .i64 b.f1.f1] 2 (Nat.le_refl _) (by decide) rfl, Reps.c3 (k71_mkM _ _ _ a) (Reps.c3 (k71_mkM _ _ _ b) (Reps.none _ _))⟩
 exact (Kd.R_reads' hR).2.2
theorem lit_t' (W : World) (c : Obj) (a b : S71) : Kd.C k71 ((W.alloc c).alloc (.cells #[.int .i64 a.f0, .int .i64 a.f1.f0, .int .i64 a.f1.f1, .int .i64 b.f0, .int .i64 b.f1.f0, .int .i64 b.f1.f1] 71)) (some ⟨W.heap.size + 1, 0, none⟩) 2 [a, b] := by
 have h := lit_t (W.alloc c) a b
 have e : (W.alloc c).heap.size = W.heap.size + 1 := by simp
 rw [e] at h
 exact h
section
variable (A A' A'' : Option Addr) (c c' c'' : Nat) (W : World)
theorem p_table : Calls Tryz.prog 53 #[] W fun e w' => ∃ A c, e = .returned (.slice A 4 c) ∧ 4 ≤ c ∧ Kd.C k26 w' A 4 tableL ∧ Below W.heap.size W w' :=
 (laganlaw06_table.calls tableL W pv_table).mono fun e w' ⟨v, he, hR, hb⟩ => by obtain ⟨A, c, rfl, hc, hC⟩ := Kd.R_reads hR; exact ⟨A, c, he, hc, hC, hb⟩
theorem p_sold : Calls Tryz.prog 54 #[] W fun e w' => ∃ A c, e = .returned (.slice A 2 c) ∧ 2 ≤ c ∧ Kd.C k39 w' A 2 soldL ∧ Below W.heap.size W w' :=
 (laganlaw06_sold.calls soldL W pv_sold).mono fun e w' ⟨v, he, hR, hb⟩ => by obtain ⟨A, c, rfl, hc, hC⟩ := Kd.R_reads hR; exact ⟨A, c, he, hc, hC, hb⟩
theorem p_rate1 (h : Kd.C k26 W A 4 tableL) (hc : 4 ≤ c) : Calls Tryz.prog 17 #[.slice A 4 c, .string ⟨#[111, 105, 108]⟩, .int .i64 12, .int .i64 50] W fun e w' => e = .returned (.tuple #[.agg #[.int .i64 3, .int .i64 50, .int .i64 10, .string ⟨#[111, 105, 108]⟩, .int .i64 1, .int .i64 2, .int .i64 10, .int .i64 3, .int .i64 0], .int .i64 0]) ∧ Below W.heap.size W w' := award_RateOf.calls A c tableL _ _ _ _ _ _ _ _ _ _ _ _ _ W h hc pv_rate1
theorem p_rate2 (h : Kd.C k26 W A 4 tableL) (hc : 4 ≤ c) : Calls Tryz.prog 17 #[.slice A 4 c, .string ⟨#[111, 105, 108]⟩, .int .i64 12, .int .i64 90] W fun e w' => e = .returned (.tuple #[.agg #[.int .i64 2, .int .i64 0, .int .i64 0, .string ⟨#[111, 105, 108]⟩, .int .i64 1, .int .i64 3, .int .i64 10, .int .i64 3, .int .i64 0], .int .i64 0]) ∧ Below W.heap.size W w' := award_RateOf.calls A c tableL _ _ _ _ _ _ _ _ _ _ _ _ _ W h hc pv_rate2
theorem p_touched (h : Kd.C k26 W A 4 tableL) : Calls Tryz.prog 19 #[.slice A 2 2, .agg #[.int .i64 3, .int .i64 50, .int .i64 10, .string ⟨#[111, 105, 108]⟩, .int .i64 1, .int .i64 2, .int .i64 10, .int .i64 3, .int .i64 0], .string ⟨#[111, 105, 108]⟩] W fun e w' => e = .returned (.tuple #[.int .i64 10, .int .i64 1000000, .bool true, .int .i64 0]) ∧ Below W.heap.size W w' :=
 award_Touched.calls 50 A 2 (tableL.take 2) _ _ _ _ _ _ _ _ _ _ _ _ _ _ W (Kd.C_take (xs := tableL) h (by decide)) (by decide) pv_touched
theorem p_awarded (h : Kd.C (Kd.int .i64) W A 3 [4, 5, 4]) : Calls Tryz.prog 37 #[.agg #[.int .i64 3, .int .i64 50, .int .i64 10, .string ⟨#[111, 105, 108]⟩, .int .i64 1, .int .i64 2, .int .i64 10, .int .i64 3, .int .i64 0], .agg #[.int .i64 1, .int .i64 60, .int .i64 55, .int .i64 10, .int .i64 100, .int .i64 7, .int .i64 8, .int .i64 30, .int .i64 0], .slice A 3 3] W fun e w' => ∃ A1 c1, e = .returned (.tuple #[.agg #[.int .i64 100, .int .i64 10, .int .i64 3, .int .i64 50, .int .i64 37, .slice A1 4 c1], .int .i64 0]) ∧ 4 ≤ c1 ∧ Kd.R k69 69 w' W.heap.size (fun _ => True) (.slice A1 4 c1) [⟨4, 33⟩, ⟨5, 17⟩, ⟨7, 10⟩, ⟨8, 3⟩] ∧ Below W.heap.size W w' :=
 (award_Awarded.calls _ _ _ _ _ _ _ _ _ _ _ _ _ _ _ _ _ _ A 3 [4, 5, 4] _ _ _ _ _ _ _ W h (by decide) pv_awarded).mono fun e w' ⟨v, he, hR, hb⟩ => by obtain ⟨A, c, rfl, hc, hC⟩ := Kd.R_reads hR; exact ⟨A, c, he, hc, hR, hb⟩
theorem p_awardOf (h : Kd.C k26 W A 4 tableL) (hc : 4 ≤ c) (h' : Kd.C k39 W A' 2 soldL) (hc' : 2 ≤ c') (h'' : Kd.C (Kd.int .i64) W A'' 1 [4]) : Calls Tryz.prog 34 #[.slice A 4 c, .slice A' 2 c', .int .i64 10, .string ⟨#[111, 105, 108]⟩, .int .i64 5, .int .i64 60, .slice A'' 1 1] W fun e w' => ∃ A1 c1, e = .returned (.tuple #[.agg #[.int .i64 100, .int .i64 10, .int .i64 3, .int .i64 33, .int .i64 54, .slice A1 3 c1], .int .i64 0]) ∧ Below W.heap.size W w' :=
 (award_AwardOf.calls A c tableL A' c' soldL _ _ _ _ A'' 1 [4] _ _ _ _ _ _ _ W h hc h' hc' h'' (by decide) pv_awardOf).mono fun e w' ⟨v, he, hR, hb⟩ => by obtain ⟨A, c, rfl, hc, hC⟩ := Kd.R_reads hR; exact ⟨A, c, he, hb⟩
theorem p_divide (h : Kd.C k71 W A 2 [⟨0, ⟨1, 2⟩⟩, ⟨3, ⟨1, 3⟩⟩]) : Calls Tryz.prog 28 #[.int .i64 37, .slice A 2 2] W fun e w' => ∃ A1 c1, e = .returned (.tuple #[.slice A1 2 c1, .int .i64 7, .int .i64 0]) ∧ 2 ≤ c1 ∧ Kd.C k69 w' A1 2 [⟨0, 18⟩, ⟨3, 12⟩] ∧ Below W.heap.size W w' :=
 (award_Divide.calls 37 A 2 [⟨0, ⟨1, 2⟩⟩, ⟨3, ⟨1, 3⟩⟩] _ _ _ W h (by decide) pv_divide).mono fun e w' ⟨v, he, hR, hb⟩ => by obtain ⟨A, c, rfl, hc, hC⟩ := Kd.R_reads hR; exact ⟨A, c, he, hc, hC, hb⟩
theorem p_equal (h : Kd.C (Kd.int .i64) W A 3 [4, 5, 4]) : Calls Tryz.prog 26 #[.int .i64 8, .slice A 3 3] W fun e w' => ∃ A1 c1, e = .returned (.tuple #[.slice A1 3 c1, .int .i64 0]) ∧ 3 ≤ c1 ∧ Kd.C (Kd.int .i64) w' A1 3 [3, 3, 2] ∧ Below W.heap.size W w' :=
 (award_Equal.calls 50 8 A 3 [4, 5, 4] _ _ W h (by decide) pv_equal).mono fun e w' ⟨v, he, hR, hb⟩ => by obtain ⟨A, c, rfl, hc, hC⟩ := Kd.R_reads hR; exact ⟨A, c, he, hc, hC, hb⟩
theorem p_change (h : Kd.C k69 W A 2 [⟨4, 33⟩, ⟨7, 10⟩]) (h' : Kd.C k69 W A' 2 [⟨4, 50⟩, ⟨8, 3⟩]) : Calls Tryz.prog 42 #[.slice A 2 2, .slice A' 2 2] W fun e w' => ∃ A1 c1, e = .returned (.tuple #[.slice A1 3 c1, .int .i64 0]) ∧ 3 ≤ c1 ∧ Kd.C k69 w' A1 3 [⟨4, 17⟩, ⟨7, -10⟩, ⟨8, 3⟩] ∧ Below W.heap.size W w' :=
 (award_Change.calls A 2 [⟨4, 33⟩, ⟨7, 10⟩] A' 2 [⟨4, 50⟩, ⟨8, 3⟩] _ _ W h (by decide) h' (by decide) pv_change).mono fun e w' ⟨v, he, hR, hb⟩ => by obtain ⟨A, c, rfl, hc, hC⟩ := Kd.R_reads hR; exact ⟨A, c, he, hc, hC, hb⟩
theorem p_turns (h : Kd.C k26 W A 4 tableL) (hc : 4 ≤ c) : Calls Tryz.prog 22 #[.slice A 4 c, .string ⟨#[111, 105, 108]⟩, .int .i64 50] W fun e w' => ∃ A1 c1, e = .returned (.slice A1 2 c1) ∧ 2 ≤ c1 ∧ Kd.C (Kd.int .i64) w' A1 2 [0, 10] ∧ Below W.heap.size W w' :=
 (award_Turns.calls 50 A c tableL _ _ _ W h hc pv_turns).mono fun e w' ⟨v, he, hR, hb⟩ => by obtain ⟨A, c, rfl, hc, hC⟩ := Kd.R_reads hR; exact ⟨A, c, he, hc, hC, hb⟩
theorem p_ints (xs : List Int) (hv : laganref06_SameInts.f 50 xs xs = some true) (h : Kd.C (Kd.int .i64) W A xs.length xs) (hc : xs.length ≤ c) (h' : Kd.C (Kd.int .i64) W A' xs.length xs) (hc' : xs.length ≤ c') : Calls Tryz.prog 21 #[.slice A xs.length c, .slice A' xs.length c'] W fun e w' => e = .returned (.bool true) ∧ Below W.heap.size W w' :=
 (laganref06_SameInts.calls 50 A c xs A' c' xs true W h hc h' hc' hv).mono fun e w' ⟨he, hd⟩ => ⟨he, hd.below⟩
theorem p_shares (xs : List S69) (hv : laganref06_SameShares.f 50 xs xs = some true) (h : Kd.C k69 W A xs.length xs) (hc : xs.length ≤ c) (h' : Kd.C k69 W A' xs.length xs) (hc' : xs.length ≤ c') : Calls Tryz.prog 30 #[.slice A xs.length c, .slice A' xs.length c'] W fun e w' => e = .returned (.bool true) ∧ Below W.heap.size W w' :=
 (laganref06_SameShares.calls 50 A c xs A' c' xs true W h hc h' hc' hv).mono fun e w' ⟨he, hd⟩ => ⟨he, hd.below⟩
theorem p_ints2 (h : Kd.C (Kd.int .i64) W A 2 [0, 10]) (hc : 2 ≤ c) (h' : Kd.C (Kd.int .i64) W A' 2 [0, 10]) : Calls Tryz.prog 21 #[.slice A 2 c, .slice A' 2 2] W fun e w' => e = .returned (.bool true) ∧ Below W.heap.size W w' := p_ints A A' c 2 W [0, 10] (by kernel_rfl) h hc h' (Nat.le_refl _)
theorem p_ints3 (h : Kd.C (Kd.int .i64) W A 3 [3, 3, 2]) (hc : 3 ≤ c) (h' : Kd.C (Kd.int .i64) W A' 3 [3, 3, 2]) : Calls Tryz.prog 21 #[.slice A 3 c, .slice A' 3 3] W fun e w' => e = .returned (.bool true) ∧ Below W.heap.size W w' := p_ints A A' c 3 W [3, 3, 2] (by kernel_rfl) h hc h' (Nat.le_refl _)
theorem p_sh4 (h : Kd.C k69 W A 4 [⟨4, 33⟩, ⟨5, 17⟩, ⟨7, 10⟩, ⟨8, 3⟩]) (hc : 4 ≤ c) (h' : Kd.C k69 W A' 4 [⟨4, 33⟩, ⟨5, 17⟩, ⟨7, 10⟩, ⟨8, 3⟩]) : Calls Tryz.prog 30 #[.slice A 4 c, .slice A' 4 4] W fun e w' => e = .returned (.bool true) ∧ Below W.heap.size W w' := p_shares A A' c 4 W [⟨4, 33⟩, ⟨5, 17⟩, ⟨7, 10⟩, ⟨8, 3⟩] (by kernel_rfl) h hc h' (Nat.le_refl _)
theorem p_sh2 (h : Kd.C k69 W A 2 [⟨0, 18⟩, ⟨3, 12⟩]) (hc : 2 ≤ c) (h' : Kd.C k69 W A' 2 [⟨0, 18⟩, ⟨3, 12⟩]) : Calls Tryz.prog 30 #[.slice A 2 c, .slice A' 2 2] W fun e w' => e = .returned (.bool true) ∧ Below W.heap.size W w' := p_shares A A' c 2 W [⟨0, 18⟩, ⟨3, 12⟩] (by kernel_rfl) h hc h' (Nat.le_refl _)
theorem p_sh3 (h : Kd.C k69 W A 3 [⟨4, 17⟩, ⟨7, -10⟩, ⟨8, 3⟩]) (hc : 3 ≤ c) (h' : Kd.C k69 W A' 3 [⟨4, 17⟩, ⟨7, -10⟩, ⟨8, 3⟩]) : Calls Tryz.prog 30 #[.slice A 3 c, .slice A' 3 3] W fun e w' => e = .returned (.bool true) ∧ Below W.heap.size W w' := p_shares A A' c 3 W [⟨4, 17⟩, ⟨7, -10⟩, ⟨8, 3⟩] (by kernel_rfl) h hc h' (Nat.le_refl _)
end
theorem cells_t (ad : Addr) (W : World) (h : Kd.C k26 W (some ad) 4 tableL) : W.cell? ⟨ad.block, ad.off + 18, none⟩ = some (.int .i64 3) ∧ W.cell? ⟨ad.block, ad.off + 18 + 1, none⟩ = some (.int .i64 50) ∧ W.cell? ⟨ad.block, ad.off + 18 + 2, none⟩ = some (.int .i64 10) ∧ W.cell? ⟨ad.block, ad.off + 18 + 3, none⟩ = some (.string ⟨#[111, 105, 108]⟩) ∧ W.cell? ⟨ad.block, ad.off + 18 + 4, none⟩ = some (.int .i64 1) ∧ W.cell? ⟨ad.block, ad.off + 18 + 5, none⟩ = some (.int .i64 2) ∧ W.cell? ⟨ad.block, ad.off + 18 + 6, none⟩ = some (.int .i64 10) ∧ W.cell? ⟨ad.block, ad.off + 18 + 7, none⟩ = some (.int .i64 3) ∧ W.cell? ⟨ad.block, ad.off + 18 + 8, none⟩ = some (.int .i64 0) := by
 obtain ⟨ad', e, h0, h1, h2, h3, h4, h5, h6, h7, h8⟩ := at_T26 (xs := tableL) h 2 (by decide) (by decide)
 cases e
 simp only [show (2 : Int).toNat = 2 from rfl, Nat.reduceMul, Nat.reduceEqDiff, Go.Addr.add, ↓reduceIte] at h0 h1 h2 h3 h4 h5 h6 h7 h8
 exact ⟨h0, h1, h2, h3, h4, h5, h6, h7, h8⟩
theorem cells_s (ad : Addr) (W : World) (h : Kd.C k39 W (some ad) 2 soldL) : W.cell? ad = some (.int .i64 1) ∧ W.cell? ⟨ad.block, ad.off + 1, none⟩ = some (.int .i64 60) ∧ W.cell? ⟨ad.block, ad.off + 2, none⟩ = some (.int .i64 55) ∧ W.cell? ⟨ad.block, ad.off + 3, none⟩ = some (.int .i64 10) ∧ W.cell? ⟨ad.block, ad.off + 4, none⟩ = some (.int .i64 100) ∧ W.cell? ⟨ad.block, ad.off + 5, none⟩ = some (.int .i64 7) ∧ W.cell? ⟨ad.block, ad.off + 6, none⟩ = some (.int .i64 8) ∧ W.cell? ⟨ad.block, ad.off + 7, none⟩ = some (.int .i64 30) ∧ W.cell? ⟨ad.block, ad.off + 8, none⟩ = some (.int .i64 0) := by
 obtain ⟨ad', e, h0, h1, h2, h3, h4, h5, h6, h7, h8⟩ := at_T39 (xs := soldL) h 0 (by decide) (by decide)
 cases e
 simp only [show (0 : Int).toNat = 0 from rfl, Nat.reduceMul, Nat.reduceEqDiff, Go.Addr.add, ↓reduceIte] at h0 h1 h2 h3 h4 h5 h6 h7 h8
 exact ⟨h0, h1, h2, h3, h4, h5, h6, h7, h8⟩
set_option maxRecDepth 100000 in
set_option maxHeartbeats 4000000 in
theorem paid_any (w : World) : Calls Tryz.prog 16 #[] w fun e w' => e = .returned (.bool true) ∧ Below w.heap.size w w' := by
 go_enter Tryz.func16, Tryz.ntmps16
 go_wp2_with (first
  | (go_at_call 53; go_must (refine (p_table _).mono ?_; rintro e w1 ⟨A1, c1, rfl, hc1, hC1, hb1⟩; have CT := Aq.mk hC1; have NT := Aq.mk hc1; have B0 := Aq.mk hb1; have B1 := Aq.mk (Below.refl w1.heap.size w1); clear hc1 hC1 hb1))
  | (go_at_call 54; go_must (refine (p_sold _).mono ?_; rintro e w2 ⟨A2, c2, rfl, hc2, hC2, hb2⟩; have CS := Aq.mk hC2; have NS := Aq.mk hc2; have n0_ := Aq.mk (bS_ B0.out hb2); have n1_ := Aq.mk (bS_ B1.out hb2); have B2 := Aq.mk (Below.refl w2.heap.size w2); clear hc2 hC2 hb2 B0 B1; have B0 := n0_; have B1 := n1_; clear n0_ n1_))
  | (go_at_call 17; (with_reducible refine cX (p_rate1 A1 c1 _ (Kd.C_below CT.out B1.out) NT.out) ?_); intro w3 hb3; replace B0 := Aq.mk (bS_ B0.out hb3); replace B1 := Aq.mk (bS_ B1.out hb3); replace B2 := Aq.mk (bS_ B2.out hb3); clear hb3; have X3 := Aq.mk (heap_alloc_new w3 (.cells #[.int .i64 3, .int .i64 50, .int .i64 10, .string ⟨#[111, 105, 108]⟩, .int .i64 1, .int .i64 2, .int .i64 10, .int .i64 3, .int .i64 0] 26)))
  | (go_at_call 17; (with_reducible refine cX (p_rate2 A1 c1 _ (Kd.C_below CT.out (bA_ B1.out _)) NT.out) ?_); intro w4 hb4; replace B0 := Aq.mk (bS_ (bA_ B0.out _) hb4); replace B1 := Aq.mk (bS_ (bA_ B1.out _) hb4); replace B2 := Aq.mk (bS_ (bA_ B2.out _) hb4); replace X3 := Aq.mk (bB_ X3.out hb4); clear hb4; have X5 := Aq.mk (heap_alloc_new w4 (.cells #[.int .i64 2, .int .i64 0, .int .i64 0, .string ⟨#[111, 105, 108]⟩, .int .i64 1, .int .i64 3, .int .i64 10, .int .i64 3, .int .i64 0] 26))))
 obtain ⟨ad, e_, -⟩ := at_T26 (xs := tableL) CT.out 0 (by decide) (by decide)
 subst e_
 obtain ⟨az, e_, -⟩ := at_T39 (xs := soldL) CS.out 0 (by decide) (by decide)
 subst e_
 obtain ⟨t0, t1, t2, t3, t4, t5, t6, t7, t8⟩ := cells_t ad _ (Kd.C_below CT.out (Below.drew (bA_ B1.out (.cells #[.int .i64 2, .int .i64 0, .int .i64 0, .string ⟨#[111, 105, 108]⟩, .int .i64 1, .int .i64 3, .int .i64 10, .int .i64 3, .int .i64 0] 26))))
 have hcap2 : 2 ≤ c1 := Nat.le_trans (by decide) NT.out
 have hcap2z : (2 : Int) ≤ (c1 : Int) := Int.ofNat_le.2 hcap2
 refine stT 15 (fun w' => w'.cell? ⟨ad.block, ad.off + 18, none⟩ = some (.int .i64 3) ∧ w'.cell? ⟨ad.block, ad.off + 18 + 1, none⟩ = some (.int .i64 50) ∧ w'.cell? ⟨ad.block, ad.off + 18 + 2, none⟩ = some (.int .i64 10) ∧ w'.cell? ⟨ad.block, ad.off + 18 + 3, none⟩ = some (.string ⟨#[111, 105, 108]⟩) ∧ w'.cell? ⟨ad.block, ad.off + 18 + 4, none⟩ = some (.int .i64 1) ∧ w'.cell? ⟨ad.block, ad.off + 18 + 5, none⟩ = some (.int .i64 2) ∧ w'.cell? ⟨ad.block, ad.off + 18 + 6, none⟩ = some (.int .i64 10) ∧ w'.cell? ⟨ad.block, ad.off + 18 + 7, none⟩ = some (.int .i64 3) ∧ w'.cell? ⟨ad.block, ad.off + 18 + 8, none⟩ = some (.int .i64 0)) ⟨t0, t1, t2, t3, t4, t5, t6, t7, t8⟩ (fun hHeld => ?_)
 have n0_ := Aq.mk (Below.drew (bA_ B0.out (.cells #[.int .i64 2, .int .i64 0, .int .i64 0, .string ⟨#[111, 105, 108]⟩, .int .i64 1, .int .i64 3, .int .i64 10, .int .i64 3, .int .i64 0] 26)))
 have n1_ := Aq.mk (Below.drew (bA_ B1.out (.cells #[.int .i64 2, .int .i64 0, .int .i64 0, .string ⟨#[111, 105, 108]⟩, .int .i64 1, .int .i64 3, .int .i64 10, .int .i64 3, .int .i64 0] 26)))
 have n2_ := Aq.mk (Below.drew (bA_ B2.out (.cells #[.int .i64 2, .int .i64 0, .int .i64 0, .string ⟨#[111, 105, 108]⟩, .int .i64 1, .int .i64 3, .int .i64 10, .int .i64 3, .int .i64 0] 26)))
 have m3_ := Aq.mk (bD_ (bL_ X3.out (.cells #[.int .i64 2, .int .i64 0, .int .i64 0, .string ⟨#[111, 105, 108]⟩, .int .i64 1, .int .i64 3, .int .i64 10, .int .i64 3, .int .i64 0] 26)))
 have m5_ := Aq.mk (bD_ X5.out)
 clear B0 B1 B2 X3 X5 t0 t1 t2 t3 t4 t5 t6 t7 t8
 have B0 := n0_
 have B1 := n1_
 have B2 := n2_
 have X3 := m3_
 have X5 := m5_
 clear n0_ n1_ n2_ m3_ m5_
 generalize (w4.alloc (.cells #[.int .i64 2, .int .i64 0, .int .i64 0, .string ⟨#[111, 105, 108]⟩, .int .i64 1, .int .i64 3, .int .i64 10, .int .i64 3, .int .i64 0] 26)).drew = v5 at B0 B1 B2 X3 X5 hHeld ⊢
 refine pI 0 38 ?_
 refine pI 1 39 ?_
 refine pI 2 40 ?_
 refine pI 3 41 ?_
 refine tI 4 42 hHeld ?_
 refine one_ (i := 5) (N := some 43) #[true, true, true, true, true, true, false, false, false, false, false, false, false, false, false] rfl rfl (by kernel_rfl) (by decide) (fun K hK => ?_)
 refine goes_ Tryz.func19 (by kernel_rfl) rfl #[.slice (some ad) 2 2, .agg #[.int .i64 3, .int .i64 50, .int .i64 10, .string ⟨#[111, 105, 108]⟩, .int .i64 1, .int .i64 2, .int .i64 10, .int .i64 3, .int .i64 0], .string ⟨#[111, 105, 108]⟩] (by rfl) rfl rfl (by simp only [List.map_toArray, List.map_cons, List.map_nil]; rfl) ?_
 with_reducible refine (p_touched _ _ (Kd.C_below CT.out B1.out)).mono ?_
 rintro e w5 ⟨rfl, hb⟩
 refine ⟨_, rfl, ?_⟩
 have n0_ := Aq.mk (bS_ B0.out hb)
 have n1_ := Aq.mk (bS_ B1.out hb)
 have n2_ := Aq.mk (bS_ B2.out hb)
 have m0_ := Aq.mk (bB_ X3.out hb)
 have m1_ := Aq.mk (bB_ X5.out hb)
 clear B0 B1 B2 X3 X5
 have B0 := n0_
 have B1 := n1_
 have B2 := n2_
 have X3 := m0_
 have X5 := m1_
 clear n0_ n1_ n2_ m0_ m1_
 refine hK.out _ _ (hh hb hHeld) (fun hHeld => ?_)
 clear hK K
 refine nM 43 ?_
 refine pI 6 37 ?_
 refine pI 7 44 ?_
 refine pI 8 45 ?_
 refine pI 9 46 ?_
 refine pI 10 47 ?_
 refine pI 11 7 ?_
 refine pI 12 8 ?_
 refine pI 13 9 ?_
 refine pI 14 10 ?_
 refine done_ (by kernel_rfl) ?_
 clear hHeld
 go_wp2
 obtain ⟨t0, t1, t2, t3, t4, t5, t6, t7, t8⟩ := cells_t ad _ (Kd.C_below CT.out (Below.drew B1.out))
 obtain ⟨s0, s1, s2, s3, s4, s5, s6, s7, s8⟩ := cells_s az _ (Kd.C_below CS.out (Below.drew B2.out))
 refine start_ (n := 14) (S := fun w' => w'.cell? ⟨ad.block, ad.off + 18, none⟩ = some (.int .i64 3) ∧ w'.cell? ⟨ad.block, ad.off + 18 + 1, none⟩ = some (.int .i64 50) ∧ w'.cell? ⟨ad.block, ad.off + 18 + 2, none⟩ = some (.int .i64 10) ∧ w'.cell? ⟨ad.block, ad.off + 18 + 3, none⟩ = some (.string ⟨#[111, 105, 108]⟩) ∧ w'.cell? ⟨ad.block, ad.off + 18 + 4, none⟩ = some (.int .i64 1) ∧ w'.cell? ⟨ad.block, ad.off + 18 + 5, none⟩ = some (.int .i64 2) ∧ w'.cell? ⟨ad.block, ad.off + 18 + 6, none⟩ = some (.int .i64 10) ∧ w'.cell? ⟨ad.block, ad.off + 18 + 7, none⟩ = some (.int .i64 3) ∧ w'.cell? ⟨ad.block, ad.off + 18 + 8, none⟩ = some (.int .i64 0) ∧ w'.cell? az = some (.int .i64 1) ∧ w'.cell? ⟨az.block, az.off + 1, none⟩ = some (.int .i64 60) ∧ w'.cell? ⟨az.block, az.off + 2, none⟩ = some (.int .i64 55) ∧ w'.cell? ⟨az.block, az.off + 3, none⟩ = some (.int .i64 10) ∧ w'.cell? ⟨az.block, az.off + 4, none⟩ = some (.int .i64 100) ∧ w'.cell? ⟨az.block, az.off + 5, none⟩ = some (.int .i64 7) ∧ w'.cell? ⟨az.block, az.off + 6, none⟩ = some (.int .i64 8) ∧ w'.cell? ⟨az.block, az.off + 7, none⟩ = some (.int .i64 30) ∧ w'.cell? ⟨az.block, az.off + 8, none⟩ = some (.int .i64 0)) (ds := [12]) #[false, false, false, false, false, false, false, false, false, false, false, false, false, false] (by kernel_rfl) rfl rfl ⟨t0, t1, t2, t3, t4, t5, t6, t7, t8, s0, s1, s2, s3, s4, s5, s6, s7, s8⟩ (fun hHeld => ?_)
 have n0_ := Aq.mk (Below.drew B0.out)
 have n1_ := Aq.mk (Below.drew B1.out)
 have n2_ := Aq.mk (Below.drew B2.out)
 have m3_ := Aq.mk (bD_ X3.out)
 have m5_ := Aq.mk (bD_ X5.out)
 clear B0 B1 B2 X3 X5 t0 t1 t2 t3 t4 t5 t6 t7 t8 s0 s1 s2 s3 s4 s5 s6 s7 s8
 have B0 := n0_
 have B1 := n1_
 have B2 := n2_
 have X3 := m3_
 have X5 := m5_
 clear n0_ n1_ n2_ m3_ m5_
 generalize w5.drew = v6 at B0 B1 B2 X3 X5 hHeld ⊢
 have B5 := Aq.mk (Below.refl v6.heap.size v6)
 refine pI 0 49 ?_
 refine pI 1 50 ?_
 refine pI 3 52 ?_
 refine pI 4 53 ?_
 refine tI 2 51 hHeld ?_
 refine tI 5 54 hHeld ?_
 refine join_ (σ := Nat × Option Addr × Nat × Nat) 2 #[true, true, true, true, true, true, true, true, true, true, true, true, false, false] (fun s_ => [(55, .slice (some ⟨s_.1, 0, none⟩) 3 3), (56, .tuple #[.agg #[.int .i64 100, .int .i64 10, .int .i64 3, .int .i64 50, .int .i64 37, .slice s_.2.1 4 s_.2.2.1], .int .i64 0]), (48, .tuple #[.agg #[.int .i64 100, .int .i64 10, .int .i64 3, .int .i64 50, .int .i64 37, .slice s_.2.1 4 s_.2.2.1], .int .i64 0]), (57, .agg #[.int .i64 100, .int .i64 10, .int .i64 3, .int .i64 50, .int .i64 37, .slice s_.2.1 4 s_.2.2.1]), (58, .int .i64 0), (11, .pointer (some ⟨s_.2.2.2, 0, none⟩))]) (fun s_ w' => (w'.cell? ⟨ad.block, ad.off + 18, none⟩ = some (.int .i64 3) ∧ w'.cell? ⟨ad.block, ad.off + 18 + 1, none⟩ = some (.int .i64 50) ∧ w'.cell? ⟨ad.block, ad.off + 18 + 2, none⟩ = some (.int .i64 10) ∧ w'.cell? ⟨ad.block, ad.off + 18 + 3, none⟩ = some (.string ⟨#[111, 105, 108]⟩) ∧ w'.cell? ⟨ad.block, ad.off + 18 + 4, none⟩ = some (.int .i64 1) ∧ w'.cell? ⟨ad.block, ad.off + 18 + 5, none⟩ = some (.int .i64 2) ∧ w'.cell? ⟨ad.block, ad.off + 18 + 6, none⟩ = some (.int .i64 10) ∧ w'.cell? ⟨ad.block, ad.off + 18 + 7, none⟩ = some (.int .i64 3) ∧ w'.cell? ⟨ad.block, ad.off + 18 + 8, none⟩ = some (.int .i64 0) ∧ w'.cell? az = some (.int .i64 1) ∧ w'.cell? ⟨az.block, az.off + 1, none⟩ = some (.int .i64 60) ∧ w'.cell? ⟨az.block, az.off + 2, none⟩ = some (.int .i64 55) ∧ w'.cell? ⟨az.block, az.off + 3, none⟩ = some (.int .i64 10) ∧ w'.cell? ⟨az.block, az.off + 4, none⟩ = some (.int .i64 100) ∧ w'.cell? ⟨az.block, az.off + 5, none⟩ = some (.int .i64 7) ∧ w'.cell? ⟨az.block, az.off + 6, none⟩ = some (.int .i64 8) ∧ w'.cell? ⟨az.block, az.off + 7, none⟩ = some (.int .i64 30) ∧ w'.cell? ⟨az.block, az.off + 8, none⟩ = some (.int .i64 0)) ∧ (Below v6.heap.size v6 w') ∧ (Kd.C (Kd.int .i64) w' (some ⟨s_.1, 0, none⟩) 3 [4, 5, 4]) ∧ (4 ≤ s_.2.2.1) ∧ (Kd.R k69 69 w' v6.heap.size (fun _ => True) (.slice s_.2.1 4 s_.2.2.1) [⟨4, 33⟩, ⟨5, 17⟩, ⟨7, 10⟩, ⟨8, 3⟩]) ∧ (v6.heap.size ≤ s_.2.2.2) ∧ (w'.heap[s_.2.2.2]? = some (.cells #[.int .i64 0, .int .i64 0, .int .i64 0, .int .i64 0, .int .i64 0, .slice none 0 0] 59 (0, 0)))) ?_ ?_
 rotate_left
 ·intro hJ6_7_11
  refine join_ (σ := Nat × Option Addr × Nat) 3 #[true, true, true, true, true, true, true, true, true, true, true, false, false, false] (fun s_ => [(55, .slice (some ⟨s_.1, 0, none⟩) 3 3), (56, .tuple #[.agg #[.int .i64 100, .int .i64 10, .int .i64 3, .int .i64 50, .int .i64 37, .slice s_.2.1 4 s_.2.2], .int .i64 0]), (48, .tuple #[.agg #[.int .i64 100, .int .i64 10, .int .i64 3, .int .i64 50, .int .i64 37, .slice s_.2.1 4 s_.2.2], .int .i64 0]), (57, .agg #[.int .i64 100, .int .i64 10, .int .i64 3, .int .i64 50, .int .i64 37, .slice s_.2.1 4 s_.2.2]), (58, .int .i64 0)]) (fun s_ w' => (w'.cell? ⟨ad.block, ad.off + 18, none⟩ = some (.int .i64 3) ∧ w'.cell? ⟨ad.block, ad.off + 18 + 1, none⟩ = some (.int .i64 50) ∧ w'.cell? ⟨ad.block, ad.off + 18 + 2, none⟩ = some (.int .i64 10) ∧ w'.cell? ⟨ad.block, ad.off + 18 + 3, none⟩ = some (.string ⟨#[111, 105, 108]⟩) ∧ w'.cell? ⟨ad.block, ad.off + 18 + 4, none⟩ = some (.int .i64 1) ∧ w'.cell? ⟨ad.block, ad.off + 18 + 5, none⟩ = some (.int .i64 2) ∧ w'.cell? ⟨ad.block, ad.off + 18 + 6, none⟩ = some (.int .i64 10) ∧ w'.cell? ⟨ad.block, ad.off + 18 + 7, none⟩ = some (.int .i64 3) ∧ w'.cell? ⟨ad.block, ad.off + 18 + 8, none⟩ = some (.int .i64 0) ∧ w'.cell? az = some (.int .i64 1) ∧ w'.cell? ⟨az.block, az.off + 1, none⟩ = some (.int .i64 60) ∧ w'.cell? ⟨az.block, az.off + 2, none⟩ = some (.int .i64 55) ∧ w'.cell? ⟨az.block, az.off + 3, none⟩ = some (.int .i64 10) ∧ w'.cell? ⟨az.block, az.off + 4, none⟩ = some (.int .i64 100) ∧ w'.cell? ⟨az.block, az.off + 5, none⟩ = some (.int .i64 7) ∧ w'.cell? ⟨az.block, az.off + 6, none⟩ = some (.int .i64 8) ∧ w'.cell? ⟨az.block, az.off + 7, none⟩ = some (.int .i64 30) ∧ w'.cell? ⟨az.block, az.off + 8, none⟩ = some (.int .i64 0)) ∧ (Below v6.heap.size v6 w') ∧ (Kd.C (Kd.int .i64) w' (some ⟨s_.1, 0, none⟩) 3 [4, 5, 4]) ∧ (4 ≤ s_.2.2) ∧ (Kd.R k69 69 w' v6.heap.size (fun _ => True) (.slice s_.2.1 4 s_.2.2) [⟨4, 33⟩, ⟨5, 17⟩, ⟨7, 10⟩, ⟨8, 3⟩])) ?_ ?_
  rotate_left
  ·intro hJ6_7
   refine join_ (σ := Nat × Nat) 6 #[true, true, true, true, true, true, true, false, false, false, false, true, false, false] (fun s_ => [(55, .slice (some ⟨s_.1, 0, none⟩) 3 3), (11, .pointer (some ⟨s_.2, 0, none⟩))]) (fun s_ w' => (w'.cell? ⟨ad.block, ad.off + 18, none⟩ = some (.int .i64 3) ∧ w'.cell? ⟨ad.block, ad.off + 18 + 1, none⟩ = some (.int .i64 50) ∧ w'.cell? ⟨ad.block, ad.off + 18 + 2, none⟩ = some (.int .i64 10) ∧ w'.cell? ⟨ad.block, ad.off + 18 + 3, none⟩ = some (.string ⟨#[111, 105, 108]⟩) ∧ w'.cell? ⟨ad.block, ad.off + 18 + 4, none⟩ = some (.int .i64 1) ∧ w'.cell? ⟨ad.block, ad.off + 18 + 5, none⟩ = some (.int .i64 2) ∧ w'.cell? ⟨ad.block, ad.off + 18 + 6, none⟩ = some (.int .i64 10) ∧ w'.cell? ⟨ad.block, ad.off + 18 + 7, none⟩ = some (.int .i64 3) ∧ w'.cell? ⟨ad.block, ad.off + 18 + 8, none⟩ = some (.int .i64 0) ∧ w'.cell? az = some (.int .i64 1) ∧ w'.cell? ⟨az.block, az.off + 1, none⟩ = some (.int .i64 60) ∧ w'.cell? ⟨az.block, az.off + 2, none⟩ = some (.int .i64 55) ∧ w'.cell? ⟨az.block, az.off + 3, none⟩ = some (.int .i64 10) ∧ w'.cell? ⟨az.block, az.off + 4, none⟩ = some (.int .i64 100) ∧ w'.cell? ⟨az.block, az.off + 5, none⟩ = some (.int .i64 7) ∧ w'.cell? ⟨az.block, az.off + 6, none⟩ = some (.int .i64 8) ∧ w'.cell? ⟨az.block, az.off + 7, none⟩ = some (.int .i64 30) ∧ w'.cell? ⟨az.block, az.off + 8, none⟩ = some (.int .i64 0)) ∧ (Below v6.heap.size v6 w') ∧ (Kd.C (Kd.int .i64) w' (some ⟨s_.1, 0, none⟩) 3 [4, 5, 4]) ∧ (v6.heap.size ≤ s_.2) ∧ (w'.heap[s_.2]? = some (.cells #[.int .i64 0, .int .i64 0, .int .i64 0, .int .i64 0, .int .i64 0, .slice none 0 0] 59 (0, 0)))) ?_ ?_
   rotate_left
   ·intro hJ6_11
    refine join_ (σ := Nat) 7 #[true, true, true, true, true, true, true, false, false, false, false, false, false, false] (fun s_ => [(55, .slice (some ⟨s_, 0, none⟩) 3 3)]) (fun s_ w' => (w'.cell? ⟨ad.block, ad.off + 18, none⟩ = some (.int .i64 3) ∧ w'.cell? ⟨ad.block, ad.off + 18 + 1, none⟩ = some (.int .i64 50) ∧ w'.cell? ⟨ad.block, ad.off + 18 + 2, none⟩ = some (.int .i64 10) ∧ w'.cell? ⟨ad.block, ad.off + 18 + 3, none⟩ = some (.string ⟨#[111, 105, 108]⟩) ∧ w'.cell? ⟨ad.block, ad.off + 18 + 4, none⟩ = some (.int .i64 1) ∧ w'.cell? ⟨ad.block, ad.off + 18 + 5, none⟩ = some (.int .i64 2) ∧ w'.cell? ⟨ad.block, ad.off + 18 + 6, none⟩ = some (.int .i64 10) ∧ w'.cell? ⟨ad.block, ad.off + 18 + 7, none⟩ = some (.int .i64 3) ∧ w'.cell? ⟨ad.block, ad.off + 18 + 8, none⟩ = some (.int .i64 0) ∧ w'.cell? az = some (.int .i64 1) ∧ w'.cell? ⟨az.block, az.off + 1, none⟩ = some (.int .i64 60) ∧ w'.cell? ⟨az.block, az.off + 2, none⟩ = some (.int .i64 55) ∧ w'.cell? ⟨az.block, az.off + 3, none⟩ = some (.int .i64 10) ∧ w'.cell? ⟨az.block, az.off + 4, none⟩ = some (.int .i64 100) ∧ w'.cell? ⟨az.block, az.off + 5, none⟩ = some (.int .i64 7) ∧ w'.cell? ⟨az.block, az.off + 6, none⟩ = some (.int .i64 8) ∧ w'.cell? ⟨az.block, az.off + 7, none⟩ = some (.int .i64 30) ∧ w'.cell? ⟨az.block, az.off + 8, none⟩ = some (.int .i64 0)) ∧ (Below v6.heap.size v6 w') ∧ (Kd.C (Kd.int .i64) w' (some ⟨s_, 0, none⟩) 3 [4, 5, 4])) ?_ ?_
    rotate_left
    ·intro hJ6
     refine join_ (σ := Nat) 7 #[true, true, true, true, true, true, false, false, false, false, false, true, false, false] (fun s_ => [(11, .pointer (some ⟨s_, 0, none⟩))]) (fun s_ w' => (w'.cell? ⟨ad.block, ad.off + 18, none⟩ = some (.int .i64 3) ∧ w'.cell? ⟨ad.block, ad.off + 18 + 1, none⟩ = some (.int .i64 50) ∧ w'.cell? ⟨ad.block, ad.off + 18 + 2, none⟩ = some (.int .i64 10) ∧ w'.cell? ⟨ad.block, ad.off + 18 + 3, none⟩ = some (.string ⟨#[111, 105, 108]⟩) ∧ w'.cell? ⟨ad.block, ad.off + 18 + 4, none⟩ = some (.int .i64 1) ∧ w'.cell? ⟨ad.block, ad.off + 18 + 5, none⟩ = some (.int .i64 2) ∧ w'.cell? ⟨ad.block, ad.off + 18 + 6, none⟩ = some (.int .i64 10) ∧ w'.cell? ⟨ad.block, ad.off + 18 + 7, none⟩ = some (.int .i64 3) ∧ w'.cell? ⟨ad.block, ad.off + 18 + 8, none⟩ = some (.int .i64 0) ∧ w'.cell? az = some (.int .i64 1) ∧ w'.cell? ⟨az.block, az.off + 1, none⟩ = some (.int .i64 60) ∧ w'.cell? ⟨az.block, az.off + 2, none⟩ = some (.int .i64 55) ∧ w'.cell? ⟨az.block, az.off + 3, none⟩ = some (.int .i64 10) ∧ w'.cell? ⟨az.block, az.off + 4, none⟩ = some (.int .i64 100) ∧ w'.cell? ⟨az.block, az.off + 5, none⟩ = some (.int .i64 7) ∧ w'.cell? ⟨az.block, az.off + 6, none⟩ = some (.int .i64 8) ∧ w'.cell? ⟨az.block, az.off + 7, none⟩ = some (.int .i64 30) ∧ w'.cell? ⟨az.block, az.off + 8, none⟩ = some (.int .i64 0)) ∧ (Below v6.heap.size v6 w') ∧ (v6.heap.size ≤ s_) ∧ (w'.heap[s_]? = some (.cells #[.int .i64 0, .int .i64 0, .int .i64 0, .int .i64 0, .int .i64 0, .slice none 0 0] 59 (0, 0)))) ?_ ?_
     rotate_left
     ·intro hJ11
      refine two_ (i := 6) (j := 11) (Ni := some 55) (Nj := some 11) #[true, true, true, true, true, true, true, false, false, false, false, false, false, false] #[true, true, true, true, true, true, false, false, false, false, false, true, false, false] rfl rfl rfl rfl (by kernel_rfl) (by decide) (by decide) (fun K hK => ?_) (fun K hK => ?_)
      ·skip
       refine value_ (w1 := ?_) (v := ?_) (by rfl) rfl ?_ ?_
       rotate_left 2
       ·go_simp
        constructor
        ·rfl
        ·rfl
       have hb_ : Below v6.heap.size v6 (v6.alloc (.cells #[.int .i64 4, .int .i64 5, .int .i64 4] 3)) := bA_ (Below.refl _ _) _
       have CL := Aq.mk (lit_ints v6 [4, 5, 4] (by decide))
       have n_B5 := Aq.mk (bS_ B5.out hb_)
       clear B5
       have B5 := n_B5
       clear n_B5
       refine hK.out _ _ (hh hb_ hHeld) (fun hHeld => ?_)
       clear hK K
       refine nM 55 ?_
       exact norm_ sN (hJ6 (v6.heap.size) _ ⟨hHeld, B5.out, CL.out⟩)
      ·skip
       refine value_ (w1 := ?_) (v := ?_) (by rfl) rfl ?_ ?_
       rotate_left 2
       ·go_simp
        constructor
        ·rfl
        ·rfl
       have hb_ : Below v6.heap.size v6 (v6.alloc (.cells #[.int .i64 0, .int .i64 0, .int .i64 0, .int .i64 0, .int .i64 0, .slice none 0 0] 59)) := bA_ (Below.refl _ _) _
       have X11' := Aq.mk (heap_alloc_new v6 (.cells #[.int .i64 0, .int .i64 0, .int .i64 0, .int .i64 0, .int .i64 0, .slice none 0 0] 59))
       have G11 := Aq.mk B5.out.size
       have n_B5 := Aq.mk (bS_ B5.out hb_)
       clear B5
       have B5 := n_B5
       clear n_B5
       have X11 := X11'
       refine hK.out _ _ (hh hb_ hHeld) (fun hHeld => ?_)
       clear hK K
       refine nM 11 ?_
       exact norm_ sN (hJ11 (v6.heap.size) _ ⟨hHeld, B5.out, G11.out, X11.out⟩)
     ·skip
      rintro g11 w6 ⟨hS_, h_B5, h_G11, h_X11⟩
      have B5 := Aq.mk h_B5
      have G11 := Aq.mk h_G11
      have X11 := Aq.mk h_X11
      have hHeld := hS_
      clear hS_ h_B5 h_G11 h_X11
      refine norm_ (a' := ?_) ?_ ?_
      rotate_left
      ·simp only [putAll, Act.put, List.setIfInBounds_toArray, List.set_cons_zero, List.set_cons_succ]
       rfl
      refine one_ (i := 6) (N := some 55) #[true, true, true, true, true, true, true, false, false, false, false, true, false, false] rfl rfl (by kernel_rfl) (by decide) (fun K hK => ?_)
      refine value_ (w1 := ?_) (v := ?_) (by rfl) rfl ?_ ?_
      rotate_left 2
      ·go_simp
       constructor
       ·rfl
       ·rfl
      have hb_ : Below w6.heap.size w6 (w6.alloc (.cells #[.int .i64 4, .int .i64 5, .int .i64 4] 3)) := bA_ (Below.refl _ _) _
      have CL := Aq.mk (lit_ints w6 [4, 5, 4] (by decide))
      have n_B5 := Aq.mk (bS_ B5.out hb_)
      have n_X11 := Aq.mk (bB_ X11.out hb_)
      clear B5 X11
      have B5 := n_B5
      have X11 := n_X11
      clear n_B5 n_X11
      refine hK.out _ _ (hh hb_ hHeld) (fun hHeld => ?_)
      clear hK K
      refine nM 55 ?_
      exact norm_ sN (hJ6_11 (w6.heap.size, g11) _ ⟨hHeld, B5.out, CL.out, G11.out, X11.out⟩)
    ·skip
     rintro gl w6 ⟨hS_, h_B5, h_CL⟩
     have B5 := Aq.mk h_B5
     have CL := Aq.mk h_CL
     have hHeld := hS_
     clear hS_ h_B5 h_CL
     refine norm_ (a' := ?_) ?_ ?_
     rotate_left
     ·simp only [putAll, Act.put, List.setIfInBounds_toArray, List.set_cons_zero, List.set_cons_succ]
      rfl
     refine two_ (i := 7) (j := 11) (Ni := some 56) (Nj := some 11) #[true, true, true, true, true, true, true, true, false, false, false, false, false, false] #[true, true, true, true, true, true, true, false, false, false, false, true, false, false] rfl rfl rfl rfl (by kernel_rfl) (by decide) (by decide) (fun K hK => ?_) (fun K hK => ?_)
     ·skip
      refine goes_ Tryz.func37 (by kernel_rfl) rfl #[.agg #[.int .i64 3, .int .i64 50, .int .i64 10, .string ⟨#[111, 105, 108]⟩, .int .i64 1, .int .i64 2, .int .i64 10, .int .i64 3, .int .i64 0], .agg #[.int .i64 1, .int .i64 60, .int .i64 55, .int .i64 10, .int .i64 100, .int .i64 7, .int .i64 8, .int .i64 30, .int .i64 0], .slice (some ⟨gl, 0, none⟩) 3 3] (by rfl) rfl rfl (by simp only [List.map_toArray, List.map_cons, List.map_nil]; rfl) ?_
      with_reducible refine (p_awarded (some ⟨gl, 0, none⟩) _ CL.out).mono ?_
      rintro e w7 ⟨A6, c6, rfl, hc6, hR6, hb⟩
      refine ⟨_, rfl, ?_⟩
      have N6 := Aq.mk hc6
      have R6 := Aq.mk (Kd.R_lower hR6 B5.out.size)
      have n_B5 := Aq.mk (bS_ B5.out hb)
      have n_CL := Aq.mk (Kd.C_below CL.out hb)
      clear B5 CL
      have B5 := n_B5
      have CL := n_CL
      clear n_B5 n_CL
      clear hc6 hR6
      refine hK.out _ _ (hh hb hHeld) (fun hHeld => ?_)
      clear hK K
      refine nM 56 ?_
      refine pI 8 48 ?_
      refine pI 9 57 ?_
      refine pI 10 58 ?_
      exact norm_ sN (hJ6_7 (gl, A6, c6) _ ⟨hHeld, B5.out, CL.out, N6.out, R6.out⟩)
     ·skip
      refine value_ (w1 := ?_) (v := ?_) (by rfl) rfl ?_ ?_
      rotate_left 2
      ·go_simp
       constructor
       ·rfl
       ·rfl
      have hb_ : Below w6.heap.size w6 (w6.alloc (.cells #[.int .i64 0, .int .i64 0, .int .i64 0, .int .i64 0, .int .i64 0, .slice none 0 0] 59)) := bA_ (Below.refl _ _) _
      have X11' := Aq.mk (heap_alloc_new w6 (.cells #[.int .i64 0, .int .i64 0, .int .i64 0, .int .i64 0, .int .i64 0, .slice none 0 0] 59))
      have G11 := Aq.mk B5.out.size
      have n_B5 := Aq.mk (bS_ B5.out hb_)
      have n_CL := Aq.mk (Kd.C_below CL.out hb_)
      clear B5 CL
      have B5 := n_B5
      have CL := n_CL
      clear n_B5 n_CL
      have X11 := X11'
      refine hK.out _ _ (hh hb_ hHeld) (fun hHeld => ?_)
      clear hK K
      refine nM 11 ?_
      exact norm_ sN (hJ6_11 (gl, w6.heap.size) _ ⟨hHeld, B5.out, CL.out, G11.out, X11.out⟩)
   ·skip
    rintro ⟨gl, g11⟩ w6 ⟨hS_, h_B5, h_CL, h_G11, h_X11⟩
    have B5 := Aq.mk h_B5
    have CL := Aq.mk h_CL
    have G11 := Aq.mk h_G11
    have X11 := Aq.mk h_X11
    have hHeld := hS_
    clear hS_ h_B5 h_CL h_G11 h_X11
    refine norm_ (a' := ?_) ?_ ?_
    rotate_left
    ·simp only [putAll, Act.put, List.setIfInBounds_toArray, List.set_cons_zero, List.set_cons_succ]
     rfl
    refine one_ (i := 7) (N := some 56) #[true, true, true, true, true, true, true, true, false, false, false, true, false, false] rfl rfl (by kernel_rfl) (by decide) (fun K hK => ?_)
    refine goes_ Tryz.func37 (by kernel_rfl) rfl #[.agg #[.int .i64 3, .int .i64 50, .int .i64 10, .string ⟨#[111, 105, 108]⟩, .int .i64 1, .int .i64 2, .int .i64 10, .int .i64 3, .int .i64 0], .agg #[.int .i64 1, .int .i64 60, .int .i64 55, .int .i64 10, .int .i64 100, .int .i64 7, .int .i64 8, .int .i64 30, .int .i64 0], .slice (some ⟨gl, 0, none⟩) 3 3] (by rfl) rfl rfl (by simp only [List.map_toArray, List.map_cons, List.map_nil]; rfl) ?_
    with_reducible refine (p_awarded (some ⟨gl, 0, none⟩) _ CL.out).mono ?_
    rintro e w7 ⟨A6, c6, rfl, hc6, hR6, hb⟩
    refine ⟨_, rfl, ?_⟩
    have N6 := Aq.mk hc6
    have R6 := Aq.mk (Kd.R_lower hR6 B5.out.size)
    have n_B5 := Aq.mk (bS_ B5.out hb)
    have n_CL := Aq.mk (Kd.C_below CL.out hb)
    have n_X11 := Aq.mk (bB_ X11.out hb)
    clear B5 CL X11
    have B5 := n_B5
    have CL := n_CL
    have X11 := n_X11
    clear n_B5 n_CL n_X11
    clear hc6 hR6
    refine hK.out _ _ (hh hb hHeld) (fun hHeld => ?_)
    clear hK K
    refine nM 56 ?_
    refine pI 8 48 ?_
    refine pI 9 57 ?_
    refine pI 10 58 ?_
    exact norm_ sN (hJ6_7_11 (gl, A6, c6, g11) _ ⟨hHeld, B5.out, CL.out, N6.out, R6.out, G11.out, X11.out⟩)
  ·skip
   rintro ⟨gl, A6, c6⟩ w6 ⟨hS_, h_B5, h_CL, h_N6, h_R6⟩
   have B5 := Aq.mk h_B5
   have CL := Aq.mk h_CL
   have N6 := Aq.mk h_N6
   have R6 := Aq.mk h_R6
   have hHeld := hS_
   clear hS_ h_B5 h_CL h_N6 h_R6
   refine norm_ (a' := ?_) ?_ ?_
   rotate_left
   ·simp only [putAll, Act.put, List.setIfInBounds_toArray, List.set_cons_zero, List.set_cons_succ]
    rfl
   refine one_ (i := 11) (N := some 11) #[true, true, true, true, true, true, true, true, true, true, true, true, false, false] rfl rfl (by kernel_rfl) (by decide) (fun K hK => ?_)
   refine value_ (w1 := ?_) (v := ?_) (by rfl) rfl ?_ ?_
   rotate_left 2
   ·go_simp
    constructor
    ·rfl
    ·rfl
   have hb_ : Below w6.heap.size w6 (w6.alloc (.cells #[.int .i64 0, .int .i64 0, .int .i64 0, .int .i64 0, .int .i64 0, .slice none 0 0] 59)) := bA_ (Below.refl _ _) _
   have X11' := Aq.mk (heap_alloc_new w6 (.cells #[.int .i64 0, .int .i64 0, .int .i64 0, .int .i64 0, .int .i64 0, .slice none 0 0] 59))
   have G11 := Aq.mk B5.out.size
   have n_B5 := Aq.mk (bS_ B5.out hb_)
   have n_CL := Aq.mk (Kd.C_below CL.out hb_)
   have n_R6 := Aq.mk (Kd.R_below R6.out hb_)
   clear B5 CL R6
   have B5 := n_B5
   have CL := n_CL
   have R6 := n_R6
   clear n_B5 n_CL n_R6
   have X11 := X11'
   refine hK.out _ _ (hh hb_ hHeld) (fun hHeld => ?_)
   clear hK K
   refine nM 11 ?_
   exact norm_ sN (hJ6_7_11 (gl, A6, c6, w6.heap.size) _ ⟨hHeld, B5.out, CL.out, N6.out, R6.out, G11.out, X11.out⟩)
 rintro ⟨gl, A6, c6, g11⟩ w6 ⟨hS_, h_B5, h_CL, h_N6, h_R6, h_G11, h_X11⟩
 have B5 := Aq.mk h_B5
 have CL := Aq.mk h_CL
 have N6 := Aq.mk h_N6
 have R6 := Aq.mk h_R6
 have G11 := Aq.mk h_G11
 have X11 := Aq.mk h_X11
 have hHeld := hS_
 clear hS_ h_B5 h_CL h_N6 h_R6 h_G11 h_X11
 refine norm_ (a' := ?_) ?_ ?_
 rotate_left
 ·simp only [putAll, Act.put, List.setIfInBounds_toArray, List.set_cons_zero, List.set_cons_succ]
  rfl
 refine last_ (i := 12) (N := none) #[true, true, true, true, true, true, true, true, true, true, true, true, true, false] rfl rfl (by kernel_rfl) (by decide) (fun K hK => ?_)
 obtain ⟨z0, z1, z2, z3, z4, z5, q0, q1, q2, q3, q4, q5⟩ := cf6 X11.out
 refine skip_ (w1 := ?_) (by rfl) rfl ?_ ?_
 rotate_left
 ·go_simp
  rfl
 have n0_ := Aq.mk (Kd.R_set (Kd.R_set (Kd.R_set (Kd.R_set (Kd.R_set (Kd.R_set (R6.out) (X11.out) (by decide) 0 (.int .i64 100)) (bP_ (X11.out) 0 (.int .i64 100) rfl) (by decide) 1 (.int .i64 10)) (bP_ (bP_ (X11.out) 0 (.int .i64 100) rfl) 1 (.int .i64 10) rfl) (by decide) 2 (.int .i64 3)) (bP_ (bP_ (bP_ (X11.out) 0 (.int .i64 100) rfl) 1 (.int .i64 10) rfl) 2 (.int .i64 3) rfl) (by decide) 3 (.int .i64 50)) (bP_ (bP_ (bP_ (bP_ (X11.out) 0 (.int .i64 100) rfl) 1 (.int .i64 10) rfl) 2 (.int .i64 3) rfl) 3 (.int .i64 50) rfl) (by decide) 4 (.int .i64 37)) (bP_ (bP_ (bP_ (bP_ (bP_ (X11.out) 0 (.int .i64 100) rfl) 1 (.int .i64 10) rfl) 2 (.int .i64 3) rfl) 3 (.int .i64 50) rfl) 4 (.int .i64 37) rfl) (by decide) 5 (.slice A6 4 c6))
 have n1_ : Aq (((((((w6.setCell ⟨g11, 0, none⟩ (.int .i64 100)).setCell ⟨g11, 1, none⟩ (.int .i64 10)).setCell ⟨g11, 2, none⟩ (.int .i64 3)).setCell ⟨g11, 3, none⟩ (.int .i64 50)).setCell ⟨g11, 4, none⟩ (.int .i64 37)).setCell ⟨g11, 5, none⟩ (.slice A6 4 c6)).heap[g11]? = some (.cells #[.int .i64 100, .int .i64 10, .int .i64 3, .int .i64 50, .int .i64 37, .slice A6 4 c6] 59 (0, 0))) := ⟨bP_ (bP_ (bP_ (bP_ (bP_ (bP_ (X11.out) 0 (.int .i64 100) rfl) 1 (.int .i64 10) rfl) 2 (.int .i64 3) rfl) 3 (.int .i64 50) rfl) 4 (.int .i64 37) rfl) 5 (.slice A6 4 c6) rfl⟩
 have n2_ : Aq (Below v6.heap.size v6 ((((((w6.setCell ⟨g11, 0, none⟩ (.int .i64 100)).setCell ⟨g11, 1, none⟩ (.int .i64 10)).setCell ⟨g11, 2, none⟩ (.int .i64 3)).setCell ⟨g11, 3, none⟩ (.int .i64 50)).setCell ⟨g11, 4, none⟩ (.int .i64 37)).setCell ⟨g11, 5, none⟩ (.slice A6 4 c6))) := ⟨bT_ (bT_ (bT_ (bT_ (bT_ (bT_ (B5.out) G11.out) G11.out) G11.out) G11.out) G11.out) G11.out⟩
 clear R6 X11 B5 CL hHeld z0 q0 z1 q1 z2 q2 z3 q3 z4 q4 z5 q5
 generalize ((((((w6.setCell ⟨g11, 0, none⟩ (.int .i64 100)).setCell ⟨g11, 1, none⟩ (.int .i64 10)).setCell ⟨g11, 2, none⟩ (.int .i64 3)).setCell ⟨g11, 3, none⟩ (.int .i64 50)).setCell ⟨g11, 4, none⟩ (.int .i64 37)).setCell ⟨g11, 5, none⟩ (.slice A6 4 c6)) = w8 at n0_ n1_ n2_ ⊢
 have R6 := n0_
 have X11 := n1_
 have B5 := n2_
 clear n0_ n1_ n2_
 refine hK.out _ _ ?_
 clear hK K
 refine pI 13 12 ?_
 refine done_ (by kernel_rfl) ?_
 have C26 := Aq.mk (Kd.C_below CT.out (bS_ B1.out B5.out))
 have C39 := Aq.mk (Kd.C_below CS.out (bS_ B2.out B5.out))
 have D0 := Aq.mk (bS_ B0.out B5.out)
 have Y3 := Aq.mk (bB_ X3.out B5.out)
 have Y5 := Aq.mk (bB_ X5.out B5.out)
 have C11 := Aq.mk ((Kd.R_reads' R6.out).2.2)
 have N11 := Aq.mk N6.out
 have D8 := Aq.mk (Below.refl w8.heap.size w8)
 clear B0 B1 B2 B5 X3 X5 R6 G11 CT CS N6
 go_wp2_with (first
  | (go_at_call 34; (with_reducible refine (p_awardOf _ _ _ _ _ _ (Kd.C_below C26.out (bA_ (Below.refl _ _) (.cells #[.int .i64 4] 3))) NT.out (Kd.C_below C39.out (bA_ (Below.refl _ _) (.cells #[.int .i64 4] 3))) NS.out (lit_4 w8)).mono ?_); rintro e w9 ⟨A13, c13, rfl, hb⟩; have n_D8 := Aq.mk (bS_ (bA_ (D8.out) _) hb); have n_Y3 := Aq.mk (bB_ (bL_ (Y3.out) _) hb); have n_Y5 := Aq.mk (bB_ (bL_ (Y5.out) _) hb); have n_X11 := Aq.mk (bB_ (bL_ (X11.out) _) hb); have n_C26 := Aq.mk (Kd.C_below C26.out (bS_ (bA_ (Below.refl _ _) _) hb)); have n_C39 := Aq.mk (Kd.C_below C39.out (bS_ (bA_ (Below.refl _ _) _) hb)); have n_C11 := Aq.mk (Kd.C_below C11.out (bS_ (bA_ (Below.refl _ _) _) hb)); clear D8 Y3 Y5 X11 C26 C39 C11; have D8 := n_D8; have Y3 := n_Y3; have Y5 := n_Y5; have X11 := n_X11; have C26 := n_C26; have C39 := n_C39; have C11 := n_C11; clear n_D8 n_Y3 n_Y5 n_X11 n_C26 n_C39 n_C11; clear hb; have X13 := Aq.mk (heap_alloc_new w9 (.cells #[.int .i64 100, .int .i64 10, .int .i64 3, .int .i64 33, .int .i64 54, .slice A13 3 c13] 59)))
  | (go_at_call 28; (with_reducible refine (p_divide _ _ (lit_t' w9 (.cells #[.int .i64 100, .int .i64 10, .int .i64 3, .int .i64 33, .int .i64 54, .slice A13 3 c13] 59) ⟨0, ⟨1, 2⟩⟩ ⟨3, ⟨1, 3⟩⟩)).mono ?_); rintro e w10 ⟨A15, c15, rfl, hc, hC, hb⟩; have n_D8 := Aq.mk (bS_ (bA_ (bA_ (D8.out) _) _) hb); have n_Y3 := Aq.mk (bB_ (bL_ (bL_ (Y3.out) _) _) hb); have n_Y5 := Aq.mk (bB_ (bL_ (bL_ (Y5.out) _) _) hb); have n_X11 := Aq.mk (bB_ (bL_ (bL_ (X11.out) _) _) hb); have n_X13 := Aq.mk (bB_ (bL_ (X13.out) _) hb); have n_C26 := Aq.mk (Kd.C_below C26.out (bS_ (bA_ (bA_ (Below.refl _ _) _) _) hb)); have n_C39 := Aq.mk (Kd.C_below C39.out (bS_ (bA_ (bA_ (Below.refl _ _) _) _) hb)); have n_C11 := Aq.mk (Kd.C_below C11.out (bS_ (bA_ (bA_ (Below.refl _ _) _) _) hb)); clear D8 Y3 Y5 X11 X13 C26 C39 C11; have D8 := n_D8; have Y3 := n_Y3; have Y5 := n_Y5; have X11 := n_X11; have X13 := n_X13; have C26 := n_C26; have C39 := n_C39; have C11 := n_C11; clear n_D8 n_Y3 n_Y5 n_X11 n_X13 n_C26 n_C39 n_C11; clear hb; have N15 := Aq.mk hc; have C15 := Aq.mk hC; clear hc hC)
  | (go_at_call 26; (with_reducible refine (p_equal _ _ (lit_454 w10)).mono ?_); rintro e w11 ⟨A18, c18, rfl, hc, hC, hb⟩; have n_D8 := Aq.mk (bS_ (bA_ (D8.out) _) hb); have n_Y3 := Aq.mk (bB_ (bL_ (Y3.out) _) hb); have n_Y5 := Aq.mk (bB_ (bL_ (Y5.out) _) hb); have n_X11 := Aq.mk (bB_ (bL_ (X11.out) _) hb); have n_X13 := Aq.mk (bB_ (bL_ (X13.out) _) hb); have n_C26 := Aq.mk (Kd.C_below C26.out (bS_ (bA_ (Below.refl _ _) _) hb)); have n_C39 := Aq.mk (Kd.C_below C39.out (bS_ (bA_ (Below.refl _ _) _) hb)); have n_C11 := Aq.mk (Kd.C_below C11.out (bS_ (bA_ (Below.refl _ _) _) hb)); have n_C15 := Aq.mk (Kd.C_below C15.out (bS_ (bA_ (Below.refl _ _) _) hb)); clear D8 Y3 Y5 X11 X13 C26 C39 C11 C15; have D8 := n_D8; have Y3 := n_Y3; have Y5 := n_Y5; have X11 := n_X11; have X13 := n_X13; have C26 := n_C26; have C39 := n_C39; have C11 := n_C11; have C15 := n_C15; clear n_D8 n_Y3 n_Y5 n_X11 n_X13 n_C26 n_C39 n_C11 n_C15; clear hb; have N18 := Aq.mk hc; have C18 := Aq.mk hC; clear hc hC)
  | (go_at_call 42; (with_reducible refine (p_change _ _ _ (Kd.C_below (lit_2 w11 ⟨4, 33⟩ ⟨7, 10⟩) (bA_ (Below.refl _ _) (.cells #[.int .i64 4, .int .i64 50, .int .i64 8, .int .i64 3] 69))) (lit_2' w11 (.cells #[.int .i64 4, .int .i64 33, .int .i64 7, .int .i64 10] 69) ⟨4, 50⟩ ⟨8, 3⟩)).mono ?_); rintro e w12 ⟨A20, c20, rfl, hc, hC, hb⟩; have n_D8 := Aq.mk (bS_ (bA_ (bA_ (D8.out) _) _) hb); have n_Y3 := Aq.mk (bB_ (bL_ (bL_ (Y3.out) _) _) hb); have n_Y5 := Aq.mk (bB_ (bL_ (bL_ (Y5.out) _) _) hb); have n_X11 := Aq.mk (bB_ (bL_ (bL_ (X11.out) _) _) hb); have n_X13 := Aq.mk (bB_ (bL_ (bL_ (X13.out) _) _) hb); have n_C26 := Aq.mk (Kd.C_below C26.out (bS_ (bA_ (bA_ (Below.refl _ _) _) _) hb)); have n_C39 := Aq.mk (Kd.C_below C39.out (bS_ (bA_ (bA_ (Below.refl _ _) _) _) hb)); have n_C11 := Aq.mk (Kd.C_below C11.out (bS_ (bA_ (bA_ (Below.refl _ _) _) _) hb)); have n_C15 := Aq.mk (Kd.C_below C15.out (bS_ (bA_ (bA_ (Below.refl _ _) _) _) hb)); have n_C18 := Aq.mk (Kd.C_below C18.out (bS_ (bA_ (bA_ (Below.refl _ _) _) _) hb)); clear D8 Y3 Y5 X11 X13 C26 C39 C11 C15 C18; have D8 := n_D8; have Y3 := n_Y3; have Y5 := n_Y5; have X11 := n_X11; have X13 := n_X13; have C26 := n_C26; have C39 := n_C39; have C11 := n_C11; have C15 := n_C15; have C18 := n_C18; clear n_D8 n_Y3 n_Y5 n_X11 n_X13 n_C26 n_C39 n_C11 n_C15 n_C18; clear hb; have N20 := Aq.mk hc; have C20 := Aq.mk hC; clear hc hC; have y3 : w12.cell? ⟨w3.heap.size, 0, none⟩ = some (.int .i64 3) := (bC_ Y3.out 0).trans rfl; have y5 : w12.cell? ⟨w4.heap.size, 0, none⟩ = some (.int .i64 2) := (bC_ Y5.out 0).trans rfl)
  | (go_at_call 22; (with_reducible refine (p_turns _ _ _ C26.out NT.out).mono ?_); rintro e w13 ⟨A22, c22, rfl, hc, hC, hb⟩; have n_D8 := Aq.mk (bS_ (D8.out) hb); have n_Y3 := Aq.mk (bB_ (Y3.out) hb); have n_Y5 := Aq.mk (bB_ (Y5.out) hb); have n_X11 := Aq.mk (bB_ (X11.out) hb); have n_X13 := Aq.mk (bB_ (X13.out) hb); have n_C26 := Aq.mk (Kd.C_below C26.out (bS_ (Below.refl _ _) hb)); have n_C39 := Aq.mk (Kd.C_below C39.out (bS_ (Below.refl _ _) hb)); have n_C11 := Aq.mk (Kd.C_below C11.out (bS_ (Below.refl _ _) hb)); have n_C15 := Aq.mk (Kd.C_below C15.out (bS_ (Below.refl _ _) hb)); have n_C18 := Aq.mk (Kd.C_below C18.out (bS_ (Below.refl _ _) hb)); have n_C20 := Aq.mk (Kd.C_below C20.out (bS_ (Below.refl _ _) hb)); clear D8 Y3 Y5 X11 X13 C26 C39 C11 C15 C18 C20; have D8 := n_D8; have Y3 := n_Y3; have Y5 := n_Y5; have X11 := n_X11; have X13 := n_X13; have C26 := n_C26; have C39 := n_C39; have C11 := n_C11; have C15 := n_C15; have C18 := n_C18; have C20 := n_C20; clear n_D8 n_Y3 n_Y5 n_X11 n_X13 n_C26 n_C39 n_C11 n_C15 n_C18 n_C20; clear hb; have N22 := Aq.mk hc; have C22 := Aq.mk hC; clear hc hC y3 y5)
  | (go_at_call 21; (with_reducible refine cX (p_ints2 _ _ _ _ (Kd.C_below C22.out (bA_ (Below.refl _ _) (.cells #[.int .i64 0, .int .i64 10] 3))) N22.out (lit_010 w13)) ?_); intro w14 hb; have n_D8 := Aq.mk (bS_ (bA_ (D8.out) _) hb); have n_Y3 := Aq.mk (bB_ (bL_ (Y3.out) _) hb); have n_Y5 := Aq.mk (bB_ (bL_ (Y5.out) _) hb); have n_X11 := Aq.mk (bB_ (bL_ (X11.out) _) hb); have n_X13 := Aq.mk (bB_ (bL_ (X13.out) _) hb); have n_C26 := Aq.mk (Kd.C_below C26.out (bS_ (bA_ (Below.refl _ _) _) hb)); have n_C39 := Aq.mk (Kd.C_below C39.out (bS_ (bA_ (Below.refl _ _) _) hb)); have n_C11 := Aq.mk (Kd.C_below C11.out (bS_ (bA_ (Below.refl _ _) _) hb)); have n_C15 := Aq.mk (Kd.C_below C15.out (bS_ (bA_ (Below.refl _ _) _) hb)); have n_C18 := Aq.mk (Kd.C_below C18.out (bS_ (bA_ (Below.refl _ _) _) hb)); have n_C20 := Aq.mk (Kd.C_below C20.out (bS_ (bA_ (Below.refl _ _) _) hb)); have n_C22 := Aq.mk (Kd.C_below C22.out (bS_ (bA_ (Below.refl _ _) _) hb)); clear D8 Y3 Y5 X11 X13 C26 C39 C11 C15 C18 C20 C22; have D8 := n_D8; have Y3 := n_Y3; have Y5 := n_Y5; have X11 := n_X11; have X13 := n_X13; have C26 := n_C26; have C39 := n_C39; have C11 := n_C11; have C15 := n_C15; have C18 := n_C18; have C20 := n_C20; have C22 := n_C22; clear n_D8 n_Y3 n_Y5 n_X11 n_X13 n_C26 n_C39 n_C11 n_C15 n_C18 n_C20 n_C22; clear hb; have y1 : w14.cell? ⟨g11, 1, none⟩ = some (.int .i64 10) := (bC_ X11.out 1).trans rfl; have y2 : w14.cell? ⟨g11, 2, none⟩ = some (.int .i64 3) := (bC_ X11.out 2).trans rfl; have y3 : w14.cell? ⟨g11, 3, none⟩ = some (.int .i64 50) := (bC_ X11.out 3).trans rfl; have y4 : w14.cell? ⟨g11, 4, none⟩ = some (.int .i64 37) := (bC_ X11.out 4).trans rfl; have y5 : w14.cell? ⟨g11, 5, none⟩ = some (.slice A6 4 c6) := (bC_ X11.out 5).trans rfl)
  | (go_at_call 30; (with_reducible refine cX (p_sh4 _ _ _ _ (Kd.C_below C11.out (bA_ (Below.refl _ _) (.cells #[.int .i64 4, .int .i64 33, .int .i64 5, .int .i64 17, .int .i64 7, .int .i64 10, .int .i64 8, .int .i64 3] 69))) N11.out (lit_5 w14 ⟨4, 33⟩ ⟨5, 17⟩ ⟨7, 10⟩ ⟨8, 3⟩)) ?_); intro w15 hb; have n_D8 := Aq.mk (bS_ (bA_ (D8.out) _) hb); have n_Y3 := Aq.mk (bB_ (bL_ (Y3.out) _) hb); have n_Y5 := Aq.mk (bB_ (bL_ (Y5.out) _) hb); have n_X11 := Aq.mk (bB_ (bL_ (X11.out) _) hb); have n_X13 := Aq.mk (bB_ (bL_ (X13.out) _) hb); have n_C26 := Aq.mk (Kd.C_below C26.out (bS_ (bA_ (Below.refl _ _) _) hb)); have n_C39 := Aq.mk (Kd.C_below C39.out (bS_ (bA_ (Below.refl _ _) _) hb)); have n_C11 := Aq.mk (Kd.C_below C11.out (bS_ (bA_ (Below.refl _ _) _) hb)); have n_C15 := Aq.mk (Kd.C_below C15.out (bS_ (bA_ (Below.refl _ _) _) hb)); have n_C18 := Aq.mk (Kd.C_below C18.out (bS_ (bA_ (Below.refl _ _) _) hb)); have n_C20 := Aq.mk (Kd.C_below C20.out (bS_ (bA_ (Below.refl _ _) _) hb)); have n_C22 := Aq.mk (Kd.C_below C22.out (bS_ (bA_ (Below.refl _ _) _) hb)); clear D8 Y3 Y5 X11 X13 C26 C39 C11 C15 C18 C20 C22; have D8 := n_D8; have Y3 := n_Y3; have Y5 := n_Y5; have X11 := n_X11; have X13 := n_X13; have C26 := n_C26; have C39 := n_C39; have C11 := n_C11; have C15 := n_C15; have C18 := n_C18; have C20 := n_C20; have C22 := n_C22; clear n_D8 n_Y3 n_Y5 n_X11 n_X13 n_C26 n_C39 n_C11 n_C15 n_C18 n_C20 n_C22; clear hb; clear y1 y2 y3 y4 y5; have y3 : w15.cell? ⟨w9.heap.size, 3, none⟩ = some (.int .i64 33) := (bC_ X13.out 3).trans rfl; have y4 : w15.cell? ⟨w9.heap.size, 4, none⟩ = some (.int .i64 54) := (bC_ X13.out 4).trans rfl)
  | (go_at_call 30; (with_reducible refine cX (p_sh2 _ _ _ _ (Kd.C_below C15.out (bA_ (Below.refl _ _) (.cells #[.int .i64 0, .int .i64 18, .int .i64 3, .int .i64 12] 69))) N15.out (lit_2 w15 ⟨0, 18⟩ ⟨3, 12⟩)) ?_); intro w16 hb; have n_D8 := Aq.mk (bS_ (bA_ (D8.out) _) hb); have n_Y3 := Aq.mk (bB_ (bL_ (Y3.out) _) hb); have n_Y5 := Aq.mk (bB_ (bL_ (Y5.out) _) hb); have n_X11 := Aq.mk (bB_ (bL_ (X11.out) _) hb); have n_X13 := Aq.mk (bB_ (bL_ (X13.out) _) hb); have n_C26 := Aq.mk (Kd.C_below C26.out (bS_ (bA_ (Below.refl _ _) _) hb)); have n_C39 := Aq.mk (Kd.C_below C39.out (bS_ (bA_ (Below.refl _ _) _) hb)); have n_C11 := Aq.mk (Kd.C_below C11.out (bS_ (bA_ (Below.refl _ _) _) hb)); have n_C15 := Aq.mk (Kd.C_below C15.out (bS_ (bA_ (Below.refl _ _) _) hb)); have n_C18 := Aq.mk (Kd.C_below C18.out (bS_ (bA_ (Below.refl _ _) _) hb)); have n_C20 := Aq.mk (Kd.C_below C20.out (bS_ (bA_ (Below.refl _ _) _) hb)); have n_C22 := Aq.mk (Kd.C_below C22.out (bS_ (bA_ (Below.refl _ _) _) hb)); clear D8 Y3 Y5 X11 X13 C26 C39 C11 C15 C18 C20 C22; have D8 := n_D8; have Y3 := n_Y3; have Y5 := n_Y5; have X11 := n_X11; have X13 := n_X13; have C26 := n_C26; have C39 := n_C39; have C11 := n_C11; have C15 := n_C15; have C18 := n_C18; have C20 := n_C20; have C22 := n_C22; clear n_D8 n_Y3 n_Y5 n_X11 n_X13 n_C26 n_C39 n_C11 n_C15 n_C18 n_C20 n_C22; clear hb; clear y3 y4)
  | (go_at_call 21; (with_reducible refine cX (p_ints3 _ _ _ _ (Kd.C_below C18.out (bA_ (Below.refl _ _) (.cells #[.int .i64 3, .int .i64 3, .int .i64 2] 3))) N18.out (lit_332 w16)) ?_); intro w17 hb; have n_D8 := Aq.mk (bS_ (bA_ (D8.out) _) hb); have n_Y3 := Aq.mk (bB_ (bL_ (Y3.out) _) hb); have n_Y5 := Aq.mk (bB_ (bL_ (Y5.out) _) hb); have n_X11 := Aq.mk (bB_ (bL_ (X11.out) _) hb); have n_X13 := Aq.mk (bB_ (bL_ (X13.out) _) hb); have n_C26 := Aq.mk (Kd.C_below C26.out (bS_ (bA_ (Below.refl _ _) _) hb)); have n_C39 := Aq.mk (Kd.C_below C39.out (bS_ (bA_ (Below.refl _ _) _) hb)); have n_C11 := Aq.mk (Kd.C_below C11.out (bS_ (bA_ (Below.refl _ _) _) hb)); have n_C15 := Aq.mk (Kd.C_below C15.out (bS_ (bA_ (Below.refl _ _) _) hb)); have n_C18 := Aq.mk (Kd.C_below C18.out (bS_ (bA_ (Below.refl _ _) _) hb)); have n_C20 := Aq.mk (Kd.C_below C20.out (bS_ (bA_ (Below.refl _ _) _) hb)); have n_C22 := Aq.mk (Kd.C_below C22.out (bS_ (bA_ (Below.refl _ _) _) hb)); clear D8 Y3 Y5 X11 X13 C26 C39 C11 C15 C18 C20 C22; have D8 := n_D8; have Y3 := n_Y3; have Y5 := n_Y5; have X11 := n_X11; have X13 := n_X13; have C26 := n_C26; have C39 := n_C39; have C11 := n_C11; have C15 := n_C15; have C18 := n_C18; have C20 := n_C20; have C22 := n_C22; clear n_D8 n_Y3 n_Y5 n_X11 n_X13 n_C26 n_C39 n_C11 n_C15 n_C18 n_C20 n_C22; clear hb)
  | (go_at_call 30; (with_reducible refine cX (p_sh3 _ _ _ _ (Kd.C_below C20.out (bA_ (Below.refl _ _) (.cells #[.int .i64 4, .int .i64 17, .int .i64 7, .int .i64 (-10), .int .i64 8, .int .i64 3] 69))) N20.out (lit_3 w17 ⟨4, 17⟩ ⟨7, -10⟩ ⟨8, 3⟩)) ?_); intro w18 hb; have n_D8 := Aq.mk (bS_ (bA_ (D8.out) _) hb); have n_Y3 := Aq.mk (bB_ (bL_ (Y3.out) _) hb); have n_Y5 := Aq.mk (bB_ (bL_ (Y5.out) _) hb); have n_X11 := Aq.mk (bB_ (bL_ (X11.out) _) hb); have n_X13 := Aq.mk (bB_ (bL_ (X13.out) _) hb); have n_C26 := Aq.mk (Kd.C_below C26.out (bS_ (bA_ (Below.refl _ _) _) hb)); have n_C39 := Aq.mk (Kd.C_below C39.out (bS_ (bA_ (Below.refl _ _) _) hb)); have n_C11 := Aq.mk (Kd.C_below C11.out (bS_ (bA_ (Below.refl _ _) _) hb)); have n_C15 := Aq.mk (Kd.C_below C15.out (bS_ (bA_ (Below.refl _ _) _) hb)); have n_C18 := Aq.mk (Kd.C_below C18.out (bS_ (bA_ (Below.refl _ _) _) hb)); have n_C20 := Aq.mk (Kd.C_below C20.out (bS_ (bA_ (Below.refl _ _) _) hb)); have n_C22 := Aq.mk (Kd.C_below C22.out (bS_ (bA_ (Below.refl _ _) _) hb)); clear D8 Y3 Y5 X11 X13 C26 C39 C11 C15 C18 C20 C22; have D8 := n_D8; have Y3 := n_Y3; have Y5 := n_Y5; have X11 := n_X11; have X13 := n_X13; have C26 := n_C26; have C39 := n_C39; have C11 := n_C11; have C15 := n_C15; have C18 := n_C18; have C20 := n_C20; have C22 := n_C22; clear n_D8 n_Y3 n_Y5 n_X11 n_X13 n_C26 n_C39 n_C11 n_C15 n_C18 n_C20 n_C22; clear hb; have D0' := Aq.mk (bS_ D0.out D8.out)))
 go_ret
 exact ⟨rfl, D0'.out⟩
def laganlaw06_paid.f : Option Bool := some true
theorem laganlaw06_paid.calls (r : Bool) (w : World) (h : laganlaw06_paid.f = some r) : Calls Tryz.prog 16 #[] w fun e w' => e = .returned (.bool r) ∧ Below w.heap.size w w' := by
 cases h
 exact paid_any w
end
end Go.Proofs.YtbicfbnempiocaaGreat.G
