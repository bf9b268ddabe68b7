/- Part 8 of what the law's proof rests on: what each function of the program computes, and that the machine's call of it comes to just that. -/
import Derived.Shelf.SlSortCmp.Insertion1
import Derived.Ground.SlsfProg
import Derived.Deep.RegionWith
import Derived.WalkSpells
import Derived.Laws.EntriesVeiled
import Derived.Test.YtbicfbnempiocaaGreatZB0
import Derived.Test.YtbicfbnempiocaaGreatZB1
import Derived.Test.YtbicfbnempiocaaGreatZB6
set_option linter.unusedVariables false
set_option linter.unusedSimpArgs false
namespace Go.Proofs.YtbicfbnempiocaaGreat.G
open Go.RowKit Go.Proofs.YtbicfbnempiocaaGreatW.PrintWords Go.Proofs.YtbicfbnempiocaaGreatW.PrintLast Go.Proofs.YtbicfbnempiocaaGreatW.PrintMore
section
attribute [local go_sem] max2_int min2_int max_two min_two max_three min_three max_four min_four
def laganlaw06_table.f  : Option ((List (S26))) := some (([(⟨1, 0, 0, (⟨#[]⟩ : ByteArray), (⟨1, 4⟩ : S24), 20, 5, 0⟩ : S26), (⟨2, 0, 0, (⟨#[111, 105, 108]⟩ : ByteArray), (⟨1, 3⟩ : S24), 10, 3, 0⟩ : S26), (⟨3, 50, 10, (⟨#[111, 105, 108]⟩ : ByteArray), (⟨1, 2⟩ : S24), 10, 3, 0⟩ : S26), (⟨4, 90, 0, (⟨#[]⟩ : ByteArray), (⟨0, 0⟩ : S24), 0, 0, 3⟩ : S26)] : List (S26)))
set_option maxHeartbeats 8000000 in
set_option maxRecDepth 100000 in
theorem laganlaw06_table.calls  (r : List (S26)) (w : World) (h : laganlaw06_table.f  = some r) :
  Calls Tryz.prog 53 #[] w fun e w' => ∃ v0_ : Value, e = .returned (v0_) ∧ Kd.R k26 26 w' w.heap.size (fun _ => True) v0_ r ∧ Below w.heap.size w w' := by
 have hu24 := Tryz.underlying24
 have hu26 := Tryz.underlying26
 have HB := Aq.mk (Below.refl w.heap.size w)
 have H : (some (([(⟨1, 0, 0, (⟨#[]⟩ : ByteArray), (⟨1, 4⟩ : S24), 20, 5, 0⟩ : S26), (⟨2, 0, 0, (⟨#[111, 105, 108]⟩ : ByteArray), (⟨1, 3⟩ : S24), 10, 3, 0⟩ : S26), (⟨3, 50, 10, (⟨#[111, 105, 108]⟩ : ByteArray), (⟨1, 2⟩ : S24), 10, 3, 0⟩ : S26), (⟨4, 90, 0, (⟨#[]⟩ : ByteArray), (⟨0, 0⟩ : S24), 0, 0, 3⟩ : S26)] : List (S26)))) = some r := h
 clear h
 obtain ⟨y1168, hy1168⟩ : ∃ y_ : List (S26), y_ = (([(⟨1, 0, 0, (⟨#[]⟩ : ByteArray), (⟨1, 4⟩ : S24), 20, 5, 0⟩ : S26), (⟨2, 0, 0, (⟨#[111, 105, 108]⟩ : ByteArray), (⟨1, 3⟩ : S24), 10, 3, 0⟩ : S26), (⟨3, 50, 10, (⟨#[111, 105, 108]⟩ : ByteArray), (⟨1, 2⟩ : S24), 10, 3, 0⟩ : S26), (⟨4, 90, 0, (⟨#[]⟩ : ByteArray), (⟨0, 0⟩ : S24), 0, 0, 3⟩ : S26)] : List (S26))) := ⟨_, rfl⟩
 replace H : (some y1168) = some r := by first | (rw [hy1168]; with_reducible exact H) | (have H2_ := (Option.bind_some _ _).symm.trans H; rw [hy1168]; with_reducible exact H2_) | (have H2_ := (Option.bind_some _ _).symm.trans H; with_reducible exact H2_) | with_reducible exact H | (rw [hy1168]; exact H) | exact H
 have Ny1168 := Aq.mk hy1168
 clear hy1168
 obtain rfl := Option.some.inj H
 go_enter Tryz.func53, Tryz.ntmps53
 go_wp2_with (first | ((with_reducible refine gD_ (N := 8) rfl ?_); refine Kd.R_lit k26 _ 26 ?hg (N := 8) ?hd (xs := ([(⟨1, 0, 0, (⟨#[]⟩ : ByteArray), (⟨1, 4⟩ : S24), 20, 5, 0⟩ : S26), (⟨2, 0, 0, (⟨#[111, 105, 108]⟩ : ByteArray), (⟨1, 3⟩ : S24), 10, 3, 0⟩ : S26), (⟨3, 50, 10, (⟨#[111, 105, 108]⟩ : ByteArray), (⟨1, 2⟩ : S24), 10, 3, 0⟩ : S26), (⟨4, 90, 0, (⟨#[]⟩ : ByteArray), (⟨0, 0⟩ : S24), 0, 0, 3⟩ : S26)] : List (S26))) (inner := [.int .i64 1, .int .i64 0, .int .i64 0, .string (⟨#[]⟩ : ByteArray), .int .i64 1, .int .i64 4, .int .i64 20, .int .i64 5, .int .i64 0, .int .i64 2, .int .i64 0, .int .i64 0, .string (⟨#[111, 105, 108]⟩ : ByteArray), .int .i64 1, .int .i64 3, .int .i64 10, .int .i64 3, .int .i64 0, .int .i64 3, .int .i64 50, .int .i64 10, .string (⟨#[111, 105, 108]⟩ : ByteArray), .int .i64 1, .int .i64 2, .int .i64 10, .int .i64 3, .int .i64 0, .int .i64 4, .int .i64 90, .int .i64 0, .string (⟨#[]⟩ : ByteArray), .int .i64 0, .int .i64 0, .int .i64 0, .int .i64 0, .int .i64 3]) (ok := fun _ => True) (okp := fun _ => True) ?hr ?hp (fun _ hk => hk) trivial (Below.refl _ _) (Nat.le_refl _) (by simp) ?_; (case hd => rfl); (case hg => rfl); (case hr => first | (go_simp; done) | (go_simp; rfl)); (case hp => exact (Reps.c9 (show Kd.M k26 _ _ _ (⟨1, 0, 0, (⟨#[]⟩ : ByteArray), (⟨1, 4⟩ : S24), 20, 5, 0⟩ : S26) [.int .i64 1, .int .i64 0, .int .i64 0, .string (⟨#[]⟩ : ByteArray), .int .i64 1, .int .i64 4, .int .i64 20, .int .i64 5, .int .i64 0] from (k26_mkM _ _ _ (⟨1, 0, 0, (⟨#[]⟩ : ByteArray), (⟨1, 4⟩ : S24), 20, 5, 0⟩ : S26) )) (Reps.c9 (show Kd.M k26 _ _ _ (⟨2, 0, 0, (⟨#[111, 105, 108]⟩ : ByteArray), (⟨1, 3⟩ : S24), 10, 3, 0⟩ : S26) [.int .i64 2, .int .i64 0, .int .i64 0, .string (⟨#[111, 105, 108]⟩ : ByteArray), .int .i64 1, .int .i64 3, .int .i64 10, .int .i64 3, .int .i64 0] from (k26_mkM _ _ _ (⟨2, 0, 0, (⟨#[111, 105, 108]⟩ : ByteArray), (⟨1, 3⟩ : S24), 10, 3, 0⟩ : S26) )) (Reps.c9 (show Kd.M k26 _ _ _ (⟨3, 50, 10, (⟨#[111, 105, 108]⟩ : ByteArray), (⟨1, 2⟩ : S24), 10, 3, 0⟩ : S26) [.int .i64 3, .int .i64 50, .int .i64 10, .string (⟨#[111, 105, 108]⟩ : ByteArray), .int .i64 1, .int .i64 2, .int .i64 10, .int .i64 3, .int .i64 0] from (k26_mkM _ _ _ (⟨3, 50, 10, (⟨#[111, 105, 108]⟩ : ByteArray), (⟨1, 2⟩ : S24), 10, 3, 0⟩ : S26) )) (Reps.c9 (show Kd.M k26 _ _ _ (⟨4, 90, 0, (⟨#[]⟩ : ByteArray), (⟨0, 0⟩ : S24), 0, 0, 3⟩ : S26) [.int .i64 4, .int .i64 90, .int .i64 0, .string (⟨#[]⟩ : ByteArray), .int .i64 0, .int .i64 0, .int .i64 0, .int .i64 0, .int .i64 3] from (k26_mkM _ _ _ (⟨4, 90, 0, (⟨#[]⟩ : ByteArray), (⟨0, 0⟩ : S24), 0, 0, 3⟩ : S26) )) (Reps.none _ _)))))); intro v1169 w1 ho2 hb hg_ hnew_; clear hg_ hnew_; (first | rw [← Ny1168.out] at ho2 | (simp only [Int.reduceToNat] at ho2; rw [← Ny1168.out] at ho2)); have HO1170 := Aq.mk (Kd.R_lower ho2 (bZ_ (sB HB.out))); replace HB := yB HB hb; clear hb ho2))
 go_ret
 exact ⟨_, sE, sR HO1170.out, sB HB.out⟩
end
section
attribute [local go_sem] max2_int min2_int max_two min_two max_three min_three max_four min_four
def laganlaw06_sold.f  : Option ((List (S39))) := some (([(⟨1, 60, 55, 10, 100, 7, 8, 30, 0⟩ : S39), (⟨2, 70, 66, 20, 12, 7, 0, 0, 0⟩ : S39)] : List (S39)))
set_option maxHeartbeats 8000000 in
set_option maxRecDepth 100000 in
theorem laganlaw06_sold.calls  (r : List (S39)) (w : World) (h : laganlaw06_sold.f  = some r) :
  Calls Tryz.prog 54 #[] w fun e w' => ∃ v0_ : Value, e = .returned (v0_) ∧ Kd.R k39 39 w' w.heap.size (fun _ => True) v0_ r ∧ Below w.heap.size w w' := by
 have hu39 := Tryz.underlying39
 have HB := Aq.mk (Below.refl w.heap.size w)
 have H : (some (([(⟨1, 60, 55, 10, 100, 7, 8, 30, 0⟩ : S39), (⟨2, 70, 66, 20, 12, 7, 0, 0, 0⟩ : S39)] : List (S39)))) = some r := h
 clear h
 obtain ⟨y1171, hy1171⟩ : ∃ y_ : List (S39), y_ = (([(⟨1, 60, 55, 10, 100, 7, 8, 30, 0⟩ : S39), (⟨2, 70, 66, 20, 12, 7, 0, 0, 0⟩ : S39)] : List (S39))) := ⟨_, rfl⟩
 replace H : (some y1171) = some r := by first | (rw [hy1171]; with_reducible exact H) | (have H2_ := (Option.bind_some _ _).symm.trans H; rw [hy1171]; with_reducible exact H2_) | (have H2_ := (Option.bind_some _ _).symm.trans H; with_reducible exact H2_) | with_reducible exact H | (rw [hy1171]; exact H) | exact H
 have Ny1171 := Aq.mk hy1171
 clear hy1171
 obtain rfl := Option.some.inj H
 go_enter Tryz.func54, Tryz.ntmps54
 go_wp2_with (first | ((with_reducible refine gD_ (N := 3) rfl ?_); refine Kd.R_lit k39 _ 39 ?hg (N := 3) ?hd (xs := ([(⟨1, 60, 55, 10, 100, 7, 8, 30, 0⟩ : S39), (⟨2, 70, 66, 20, 12, 7, 0, 0, 0⟩ : S39)] : List (S39))) (inner := [.int .i64 1, .int .i64 60, .int .i64 55, .int .i64 10, .int .i64 100, .int .i64 7, .int .i64 8, .int .i64 30, .int .i64 0, .int .i64 2, .int .i64 70, .int .i64 66, .int .i64 20, .int .i64 12, .int .i64 7, .int .i64 0, .int .i64 0, .int .i64 0]) (ok := fun _ => True) (okp := fun _ => True) ?hr ?hp (fun _ hk => hk) trivial (Below.refl _ _) (Nat.le_refl _) (by simp) ?_; (case hd => rfl); (case hg => rfl); (case hr => first | (go_simp; done) | (go_simp; rfl)); (case hp => exact (Reps.c9 (show Kd.M k39 _ _ _ (⟨1, 60, 55, 10, 100, 7, 8, 30, 0⟩ : S39) [.int .i64 1, .int .i64 60, .int .i64 55, .int .i64 10, .int .i64 100, .int .i64 7, .int .i64 8, .int .i64 30, .int .i64 0] from (k39_mkM _ _ _ (⟨1, 60, 55, 10, 100, 7, 8, 30, 0⟩ : S39) )) (Reps.c9 (show Kd.M k39 _ _ _ (⟨2, 70, 66, 20, 12, 7, 0, 0, 0⟩ : S39) [.int .i64 2, .int .i64 70, .int .i64 66, .int .i64 20, .int .i64 12, .int .i64 7, .int .i64 0, .int .i64 0, .int .i64 0] from (k39_mkM _ _ _ (⟨2, 70, 66, 20, 12, 7, 0, 0, 0⟩ : S39) )) (Reps.none _ _)))); intro v1172 w1 ho2 hb hg_ hnew_; clear hg_ hnew_; (first | rw [← Ny1171.out] at ho2 | (simp only [Int.reduceToNat] at ho2; rw [← Ny1171.out] at ho2)); have HO1173 := Aq.mk (Kd.R_lower ho2 (bZ_ (sB HB.out))); replace HB := yB HB hb; clear hb ho2))
 go_ret
 exact ⟨_, sE, sR HO1173.out, sB HB.out⟩
end
end Go.Proofs.YtbicfbnempiocaaGreat.G
section
namespace Go.Proofs.YtbicfbnempiocaaGreatW.PrintLast
open Go Go.RowKit
section
variable {P : Program} {ops : Array Oper} {Q : Exit → Act → World → Prop} {md : Region.Mode} {S : World → Prop} {ds : List Nat}
theorem tJ (i N : Nat) {oi : Oper} {v : Value} {fuel : Nat} {l : Array Bool} {a a' : Act} {w : World} (hS : S w) (h : wpAnyLast P md ops Q S ds fuel (l.setIfInBounds i true) a' w)
  (hi : ops[i]? = some oi := by rfl) (hN : oi.dst = some N := by rfl) (hc : takeB md ops ds l (l.setIfInBounds i true) i = true := by kernel_rfl)
  (hQ : ∀ c a w, Q (.panic c) (a.put oi.dst v) w → Q (.panic c) a w := by exact fun _ _ _ h => h)
  (hw : Region.wanted oi (yielded ops a.tmps) = true := by rfl) (hv : ∀ w, S w → (execOp a.eval oi).run P w = .ok (.value v) w := by intro w' hs_; go_simp; with_reducible rfl)
  (ha : a.put (some N) v = a' := by simp only [Act.put, List.setIfInBounds_toArray, List.set_cons_zero, List.set_cons_succ, i64_w, i32_w]; rfl) : wpAnyLast P md ops Q S ds (fuel + 1) l a w :=
 take_ _ hi hN hc hQ (Or.inl ⟨hw, hv⟩) hS ha h
end
end Go.Proofs.YtbicfbnempiocaaGreatW.PrintLast
end
section
namespace Go.Proofs
open Go.Shelf
def Tryz.insertA_ren : Go.Shelf.Ren := ⟨fun | 20 => 183 | n => n, fun | 24 => 3 | 22 => 35 | 3 => 3 | 25 => 138 | 4 => 4 | 0 => 0 | n => n, fun | n => n⟩
theorem Tryz.insertA : Go.Proofs.SlLaysF.n20 Tryz.prog Tryz.insertA_ren := {
 mixed := by kernel_rfl
 f20 := ⟨Tryz.f183.name, by decide, Tryz.func183.trans (congrArg some (by kernel_rfl))⟩
 t0 := Tryz.underlying0
 a0 := Tryz.isAgg0
 z0 := Tryz.sizeOf0
 v0 := Tryz.zeroValue0
 t3 := Tryz.underlying3
 a3 := Tryz.isAgg3
 z3 := Tryz.sizeOf3
 v3 := Tryz.zeroValue3
 t4 := Tryz.underlying4
 a4 := Tryz.isAgg4
 z4 := Tryz.sizeOf4
 v4 := Tryz.zeroValue4
 t22 := Tryz.underlying35
 a22 := Tryz.isAgg35
 z22 := Tryz.sizeOf35
 v22 := Tryz.zeroValue35
 a24 := Tryz.isAgg3
 z24 := Tryz.sizeOf3
 t25 := Tryz.underlying138
 a25 := Tryz.isAgg138
 z25 := Tryz.sizeOf138
 v25 := Tryz.zeroValue138 }
end Go.Proofs
end
namespace Go.Proofs.YtbicfbnempiocaaGreat.G
open Go.RowKit Go.Proofs.YtbicfbnempiocaaGreatW.PrintWords Go.Proofs.YtbicfbnempiocaaGreatW.PrintLast Go.Proofs.YtbicfbnempiocaaGreatW.PrintMore
section
open Go.Shelf
open Go.Proofs Go.Sort
def Gw (W w' : World) : Prop := ∃ q os, w' = grow (W.drewN q) os
theorem Gw.refl (W : World) : Gw W W := ⟨0, #[], by rw [grow_empty]; rfl⟩
theorem Gw.trans {A B C : World} (h : Gw A B) (k : Gw B C) : Gw A C := by
 obtain ⟨q, os, rfl⟩ := h
 obtain ⟨q', os', rfl⟩ := k
 exact ⟨q + q', os ++ os', by show grow (grow ((A.drewN q).drewN q') os) os' = _; rw [grow_grow, World.drewN_drewN]⟩
theorem Gw.drewN {A B : World} (h : Gw A B) (n : Nat) : Gw A (B.drewN n) := h.trans ⟨n, #[], by rw [grow_empty]⟩
theorem Gw.drew {A B : World} (h : Gw A B) : Gw A B.drew := h.drewN 1
theorem Gw.alloc {A B : World} (h : Gw A B) (o : Obj) : Gw A (B.alloc o) := h.trans ⟨0, #[o], by rw [alloc_eq_grow]; rfl⟩
theorem Gw.set {A B : World} (h : Gw A B) {b o : Nat} (hb : A.heap.size ≤ b) (v : Value) : Gw A (B.setCell ⟨b, o, none⟩ v) := by
 obtain ⟨q, os, rfl⟩ := h
 exact ⟨q, _, by rw [setCell_eq, mapBlock_grow_new _ _ _ _ (by exact hb)]⟩
theorem Gw.rules {A B : World} (h : Gw A B) : A.heap.size ≤ B.heap.size ∧ (∀ b o, b < A.heap.size → B.cell? ⟨b, o, none⟩ = A.cell? ⟨b, o, none⟩) ∧ (∀ b o, b < A.heap.size → B.frozen? ⟨b, o, none⟩ = A.frozen? ⟨b, o, none⟩) := by
 obtain ⟨q, os, rfl⟩ := h
 refine ⟨?_, fun b o hb => cell?_grow (A.drewN q) os ⟨b, o, none⟩ hb, fun b o hb => frozen?_grow (A.drewN q) os ⟨b, o, none⟩ hb⟩
 show A.heap.size ≤ (A.heap ++ os).size
 simp
theorem Gw.below {A B : World} (h : Gw A B) : Below A.heap.size A B := by
 obtain ⟨q, os, rfl⟩ := h
 refine ⟨rfl, rfl, rfl, ?_, fun k hk => heap_grow_old (A.drewN q) os hk⟩
 show A.heap.size ≤ (A.heap ++ os).size
 simp
def compareI (a b : Int) : Int := if a < b then -1 else if b < a then 1 else 0
theorem isNaN_any (a : Int) (w : World) : Calls Tryz.prog 148 #[.int .i64 a] w fun e w' => e = .returned (.bool false) ∧ w = w' := by
 have h : (a != a) = false := by simp
 go_enter Tryz.func148, Tryz.ntmps148
 go_wp2
 go_ret
 exact ⟨by simp, rfl⟩
theorem kHCut_1 {Q : Prop} (f : Q := by
 go_wp2_with (first | (go_at_call 148; with_reducible refine (isNaN_any _ _).mono ?_; rintro e w' ⟨rfl, rfl⟩))
 go_ret
 exact ⟨rfl, rfl⟩) : Q := f
theorem compare_any (a b : Int) (w : World) : Calls Tryz.prog 108 #[.int .i64 a, .int .i64 b] w fun e w' => e = .returned (.int .i64 (compareI a b)) ∧ w = w' := by
 unfold compareI
 by_cases h : a < b
 ·rw [if_pos h]
  go_enter Tryz.func108, Tryz.ntmps108
  exact kHCut_1
 ·rw [if_neg h]
  by_cases h2 : b < a
  ·rw [if_pos h2]
   go_enter Tryz.func108, Tryz.ntmps108
   exact kHCut_1
  ·rw [if_neg h2]
   go_enter Tryz.func108, Tryz.ntmps108
   exact kHCut_1
set_option maxRecDepth 100000 in
set_option maxHeartbeats 1000000 in
theorem cut_any (A : Option Addr) (c : Nat) (l : List S24) (total i : Int) (b1 b2 : Nat) (W : World) (h1 : W.cell? ⟨b1, 0, none⟩ = some (.int .i64 total)) (h2 : W.cell? ⟨b2, 0, none⟩ = some (.slice A l.length c)) (hr : Kd.C k24 W A l.length l)
  (h0 : 0 ≤ i) (hi : i < l.length) (hd : (rd_T24 l i).f1 ≠ 0) (hw : IntKind.i64.wrap (total * (rd_T24 l i).f0) = total * (rd_T24 l i).f0) (hw2 : IntKind.i64.wrap ((total * (rd_T24 l i).f0).tmod (rd_T24 l i).f1) = (total * (rd_T24 l i).f0).tmod (rd_T24 l i).f1) :
  Calls Tryz.prog 105 #[.int .i64 i, .pointer (some ⟨b1, 0, none⟩), .pointer (some ⟨b2, 0, none⟩)] W fun e w' => e = .returned (.agg #[.int .i64 ((total * (rd_T24 l i).f0).tmod (rd_T24 l i).f1), .int .i64 (rd_T24 l i).f1]) ∧ Gw W w' := by
 obtain ⟨ad, e_, hx0, hx1⟩ := at_T24 hr i h0 hi
 cases e_
 clear hr
 generalize rd_T24 l i = X at hx0 hx1 hd hw hw2 ⊢
 have hb1 := World.block_lt_of_cell? W _ h1
 have hb2 := World.block_lt_of_cell? W _ h2
 have hb0 := World.block_lt_of_cell? W _ hx0
 have hdz : (X.f1 == 0) = false := beq_eq_false_iff_ne.mpr hd
 have hmix : Tryz.prog.follows .mixedOrders = true := rfl
 go_enter Tryz.func105, Tryz.ntmps105
 go_wp2
 go_region
 rename_i hK2
 refine hK2 _ _ ?_
 clear hK2
 go_wp2
 have X3 : ((W.alloc (.cells #[.int .i64 ((total * X.f0).tmod X.f1), .int .i64 X.f1] 24)).drew).heap[W.heap.size]? = some (.cells #[.int .i64 ((total * X.f0).tmod X.f1), .int .i64 X.f1] 24 (0, 0)) := bD_ (heap_alloc_new W _)
 have G3 : Gw W ((W.alloc (.cells #[.int .i64 ((total * X.f0).tmod X.f1), .int .i64 X.f1] 24)).drew) := ((Gw.refl W).alloc _).drew
 generalize (W.alloc (.cells #[.int .i64 ((total * X.f0).tmod X.f1), .int .i64 X.f1] 24)).drew = V at X3 G3 ⊢
 have r0 : V.cell? ⟨W.heap.size, 0, none⟩ = some (.int .i64 ((total * X.f0).tmod X.f1)) := (bC_ X3 0).trans rfl
 have r1 : V.cell? ⟨W.heap.size, 1, none⟩ = some (.int .i64 X.f1) := (bC_ X3 1).trans rfl
 exact bodyPost_ret (v := .agg #[.int .i64 ((total * X.f0).tmod X.f1), .int .i64 X.f1]) (by simp [results, Tryz.results105, go_sem, r0, r1]) rfl ⟨rfl, G3⟩
def cutN (l : List S24) (total i : Int) : Int := (total * (rd_T24 l i).f0).tmod (rd_T24 l i).f1
def cutD (l : List S24) (i : Int) : Int := (rd_T24 l i).f1
def cutC (l : List S24) (total i k : Int) : Int := compareI (cutN l total k * cutD l i) (cutN l total i * cutD l k)
def Parts (l : List S24) (total : Int) : Prop := 0 ≤ total ∧ total ≤ 1000000000 ∧ ∀ x ∈ l, 0 ≤ x.f0 ∧ x.f0 ≤ x.f1 ∧ 1 ≤ x.f1 ∧ x.f1 ≤ 1000000
theorem parts_at {l : List S24} {total i : Int} (h : Parts l total) (h0 : 0 ≤ i) (hi : i < l.length) : 0 ≤ (rd_T24 l i).f0 ∧ (rd_T24 l i).f0 ≤ (rd_T24 l i).f1 ∧ 1 ≤ (rd_T24 l i).f1 ∧ (rd_T24 l i).f1 ≤ 1000000 := by
 have z := (rdT24_drop l i.toNat (by omega)).1
 rw [Int.toNat_of_nonneg h0] at z
 exact h.2.2 _ z
theorem cut_bd {t a d : Int} (h0 : 0 ≤ t) (h1 : t ≤ 1000000000) (h2 : 0 ≤ a) (h3 : a ≤ d) (h4 : 1 ≤ d) (h5 : d ≤ 1000000) : 0 ≤ t * a ∧ t * a ≤ 1000000000000000 ∧ 0 ≤ (t * a).tmod d ∧ (t * a).tmod d ≤ 1000000 ∧ (t * a).tmod d = t * a % d := by
 have m0 : 0 ≤ t * a := Int.mul_nonneg h0 h2
 have m1 : t * a ≤ 1000000000 * 1000000 := Int.mul_le_mul h1 (by omega) h2 (by omega)
 have e : (t * a).tmod d = t * a % d := Int.tmod_eq_emod_of_nonneg m0
 have b0 := Int.emod_nonneg (t * a) (show d ≠ 0 by omega)
 have b1 := Int.emod_lt_of_pos (t * a) (show 0 < d by omega)
 exact ⟨m0, by omega, by omega, by omega, e⟩
theorem cut_facts {l : List S24} {total i : Int} (h : Parts l total) (h0 : 0 ≤ i) (hi : i < l.length) : (rd_T24 l i).f1 ≠ 0 ∧ IntKind.i64.wrap (total * (rd_T24 l i).f0) = total * (rd_T24 l i).f0 ∧ IntKind.i64.wrap (cutN l total i) = cutN l total i ∧ 0 ≤ cutN l total i ∧ cutN l total i ≤ 1000000 ∧ 1 ≤ cutD l i ∧ cutD l i ≤ 1000000 := by
 obtain ⟨p0, p1, p2, p3⟩ := parts_at h h0 hi
 obtain ⟨b0, b1, b2, b3, _⟩ := cut_bd h.1 h.2.1 p0 p1 p2 p3
 unfold cutN cutD
 exact ⟨by omega, IntWalk.i64_in _ (by omega), IntWalk.i64_in _ (by omega), b2, b3, p2, p3⟩
set_option maxRecDepth 100000 in
set_option maxHeartbeats 1000000 in
theorem cmp_any (A : Option Addr) (c : Nat) (l : List S24) (total i k : Int) (b1 b2 b3 : Nat) (W : World) (h1 : W.cell? ⟨b1, 0, none⟩ = some (.int .i64 total)) (h2 : W.cell? ⟨b2, 0, none⟩ = some (.slice A l.length c)) (hr : Kd.C k24 W A l.length l)
  (h3 : W.cell? ⟨b3, 0, none⟩ = some (.func (.func 105) #[] #[.pointer (some ⟨b1, 0, none⟩), .pointer (some ⟨b2, 0, none⟩)])) (hP : Parts l total) (i0 : 0 ≤ i) (i1 : i < l.length) (k0 : 0 ≤ k) (k1 : k < l.length) :
  Calls Tryz.prog 107 #[.int .i64 i, .int .i64 k, .pointer (some ⟨b3, 0, none⟩)] W fun e w' => e = .returned (.int .i64 (cutC l total i k)) ∧ Gw W w' := by
 obtain ⟨di, wi, vi, ni0, ni1, di0, di1⟩ := cut_facts hP i0 i1
 obtain ⟨dk, wk, vk, nk0, nk1, dk0, dk1⟩ := cut_facts hP k0 k1
 have hb1 := World.block_lt_of_cell? W _ h1
 have hb2 := World.block_lt_of_cell? W _ h2
 have hb3 := World.block_lt_of_cell? W _ h3
 have HI := Aq.mk (fun (V : World) (hV : Below W.heap.size W V) => cut_any A c l total i b1 b2 V ((hV.cell (p := ⟨b1, 0, none⟩) hb1).trans h1) ((hV.cell (p := ⟨b2, 0, none⟩) hb2).trans h2) (Kd.C_below hr hV) i0 i1 di wi vi)
 have HK := Aq.mk (fun (V : World) (hV : Below W.heap.size W V) => cut_any A c l total k b1 b2 V ((hV.cell (p := ⟨b1, 0, none⟩) hb1).trans h1) ((hV.cell (p := ⟨b2, 0, none⟩) hb2).trans h2) (Kd.C_below hr hV) k0 k1 dk wk vk)
 have m1 : (cutN l total k * cutD l i).natAbs ≤ 1000000 * 1000000 := by rw [Int.natAbs_mul]; exact Nat.mul_le_mul (by omega) (by omega)
 have m2 : (cutN l total i * cutD l k).natAbs ≤ 1000000 * 1000000 := by rw [Int.natAbs_mul]; exact Nat.mul_le_mul (by omega) (by omega)
 have q1 : IntKind.i64.wrap (cutN l total k * cutD l i) = cutN l total k * cutD l i := IntWalk.i64_in _ (by omega)
 have q2 : IntKind.i64.wrap (cutN l total i * cutD l k) = cutN l total i * cutD l k := IntWalk.i64_in _ (by omega)
 have hmix : Tryz.prog.follows .mixedOrders = true := rfl
 unfold cutC
 change Aq (∀ V, Below W.heap.size W V → Calls Tryz.prog 105 #[.int .i64 i, .pointer (some ⟨b1, 0, none⟩), .pointer (some ⟨b2, 0, none⟩)] V fun e w' => e = .returned (.agg #[.int .i64 (cutN l total i), .int .i64 (cutD l i)]) ∧ Gw V w') at HI
 change Aq (∀ V, Below W.heap.size W V → Calls Tryz.prog 105 #[.int .i64 k, .pointer (some ⟨b1, 0, none⟩), .pointer (some ⟨b2, 0, none⟩)] V fun e w' => e = .returned (.agg #[.int .i64 (cutN l total k), .int .i64 (cutD l k)]) ∧ Gw V w') at HK
 clear hr hP i0 i1 k0 k1 di wi vi ni0 ni1 di0 di1 dk wk vk nk0 nk1 dk0 dk1 m1 m2
 generalize cutN l total i = ni at HI q1 q2 ⊢
 generalize cutD l i = ei at HI q1 q2 ⊢
 generalize cutN l total k = nk at HK q1 q2 ⊢
 generalize cutD l k = ek at HK q1 q2 ⊢
 go_enter Tryz.func107, Tryz.ntmps107
 go_wp2
 have heg : ∀ args w, (callFunc 105 args).run Tryz.prog w = .ok (.enter 105 args) w := enters_of Tryz.func105 (by kernel_rfl) rfl
 refine stT 10 (fun w' => w'.cell? ⟨b3, 0, none⟩ = some (.func (.func 105) #[] #[.pointer (some ⟨b1, 0, none⟩), .pointer (some ⟨b2, 0, none⟩)])) (h3) (fun hHeld => ?_)
 have HG : Aq (Gw W W.drew) := ⟨(Gw.refl W).drew⟩
 refine pI 1 9 ?_
 refine pI 4 12 ?_
 refine tJ 0 8 hHeld ?_
 refine tJ 3 11 hHeld ?_
 refine join_ (σ := Nat × Nat) 2 #[true, true, true, true, true, true, true, true, false, false] (fun s_ => [(10, .agg #[.int .i64 ni, .int .i64 ei]), (13, .agg #[.int .i64 nk, .int .i64 ek]), (6, .pointer (some ⟨s_.1, 0, none⟩)), (7, .pointer (some ⟨s_.2, 0, none⟩))]) (fun s_ w' => (w'.cell? ⟨b3, 0, none⟩ = some (.func (.func 105) #[] #[.pointer (some ⟨b1, 0, none⟩), .pointer (some ⟨b2, 0, none⟩)])) ∧ Gw W w' ∧ W.heap.size ≤ s_.1 ∧ w'.heap[s_.1]? = some (.cells #[.int .i64 0, .int .i64 0] 24 (0, 0)) ∧ W.heap.size ≤ s_.2 ∧ w'.heap[s_.2]? = some (.cells #[.int .i64 0, .int .i64 0] 24 (0, 0)) ∧ s_.1 ≠ s_.2) ?_ ?_
 rotate_left
 ·intro hJ2_5_6_7
  refine join_ (σ := Nat) 3 #[true, true, true, true, true, true, true, false, false, false] (fun s_ => [(10, .agg #[.int .i64 ni, .int .i64 ei]), (13, .agg #[.int .i64 nk, .int .i64 ek]), (6, .pointer (some ⟨s_, 0, none⟩))]) (fun s_ w' => (w'.cell? ⟨b3, 0, none⟩ = some (.func (.func 105) #[] #[.pointer (some ⟨b1, 0, none⟩), .pointer (some ⟨b2, 0, none⟩)])) ∧ Gw W w' ∧ W.heap.size ≤ s_ ∧ w'.heap[s_]? = some (.cells #[.int .i64 0, .int .i64 0] 24 (0, 0))) ?_ ?_
  rotate_left
  ·intro hJ2_5_6
   refine join_ (σ := Nat) 3 #[true, true, true, true, true, true, false, true, false, false] (fun s_ => [(10, .agg #[.int .i64 ni, .int .i64 ei]), (13, .agg #[.int .i64 nk, .int .i64 ek]), (7, .pointer (some ⟨s_, 0, none⟩))]) (fun s_ w' => (w'.cell? ⟨b3, 0, none⟩ = some (.func (.func 105) #[] #[.pointer (some ⟨b1, 0, none⟩), .pointer (some ⟨b2, 0, none⟩)])) ∧ Gw W w' ∧ W.heap.size ≤ s_ ∧ w'.heap[s_]? = some (.cells #[.int .i64 0, .int .i64 0] 24 (0, 0))) ?_ ?_
   rotate_left
   ·intro hJ2_5_7
    refine join_ (σ := Nat × Nat) 3 #[true, true, true, true, true, false, true, true, false, false] (fun s_ => [(10, .agg #[.int .i64 ni, .int .i64 ei]), (6, .pointer (some ⟨s_.1, 0, none⟩)), (7, .pointer (some ⟨s_.2, 0, none⟩))]) (fun s_ w' => (w'.cell? ⟨b3, 0, none⟩ = some (.func (.func 105) #[] #[.pointer (some ⟨b1, 0, none⟩), .pointer (some ⟨b2, 0, none⟩)])) ∧ Gw W w' ∧ W.heap.size ≤ s_.1 ∧ w'.heap[s_.1]? = some (.cells #[.int .i64 0, .int .i64 0] 24 (0, 0)) ∧ W.heap.size ≤ s_.2 ∧ w'.heap[s_.2]? = some (.cells #[.int .i64 0, .int .i64 0] 24 (0, 0)) ∧ s_.1 ≠ s_.2) ?_ ?_
    rotate_left
    ·intro hJ2_6_7
     refine join_ (σ := Unit) 4 #[true, true, true, true, true, true, false, false, false, false] (fun s_ => [(10, .agg #[.int .i64 ni, .int .i64 ei]), (13, .agg #[.int .i64 nk, .int .i64 ek])]) (fun s_ w' => (w'.cell? ⟨b3, 0, none⟩ = some (.func (.func 105) #[] #[.pointer (some ⟨b1, 0, none⟩), .pointer (some ⟨b2, 0, none⟩)])) ∧ Gw W w') ?_ ?_
     rotate_left
     ·intro hJ2_5
      refine join_ (σ := Nat) 4 #[true, true, true, true, true, false, true, false, false, false] (fun s_ => [(10, .agg #[.int .i64 ni, .int .i64 ei]), (6, .pointer (some ⟨s_, 0, none⟩))]) (fun s_ w' => (w'.cell? ⟨b3, 0, none⟩ = some (.func (.func 105) #[] #[.pointer (some ⟨b1, 0, none⟩), .pointer (some ⟨b2, 0, none⟩)])) ∧ Gw W w' ∧ W.heap.size ≤ s_ ∧ w'.heap[s_]? = some (.cells #[.int .i64 0, .int .i64 0] 24 (0, 0))) ?_ ?_
      rotate_left
      ·intro hJ2_6
       refine join_ (σ := Nat) 4 #[true, true, true, true, true, false, false, true, false, false] (fun s_ => [(10, .agg #[.int .i64 ni, .int .i64 ei]), (7, .pointer (some ⟨s_, 0, none⟩))]) (fun s_ w' => (w'.cell? ⟨b3, 0, none⟩ = some (.func (.func 105) #[] #[.pointer (some ⟨b1, 0, none⟩), .pointer (some ⟨b2, 0, none⟩)])) ∧ Gw W w' ∧ W.heap.size ≤ s_ ∧ w'.heap[s_]? = some (.cells #[.int .i64 0, .int .i64 0] 24 (0, 0))) ?_ ?_
       rotate_left
       ·intro hJ2_7
        refine join_ (σ := Nat × Nat) 4 #[true, true, false, true, true, false, true, true, false, false] (fun s_ => [(6, .pointer (some ⟨s_.1, 0, none⟩)), (7, .pointer (some ⟨s_.2, 0, none⟩))]) (fun s_ w' => (w'.cell? ⟨b3, 0, none⟩ = some (.func (.func 105) #[] #[.pointer (some ⟨b1, 0, none⟩), .pointer (some ⟨b2, 0, none⟩)])) ∧ Gw W w' ∧ W.heap.size ≤ s_.1 ∧ w'.heap[s_.1]? = some (.cells #[.int .i64 0, .int .i64 0] 24 (0, 0)) ∧ W.heap.size ≤ s_.2 ∧ w'.heap[s_.2]? = some (.cells #[.int .i64 0, .int .i64 0] 24 (0, 0)) ∧ s_.1 ≠ s_.2) ?_ ?_
        rotate_left
        ·intro hJ6_7
         refine join_ (σ := Unit) 5 #[true, true, true, true, true, false, false, false, false, false] (fun s_ => [(10, .agg #[.int .i64 ni, .int .i64 ei])]) (fun s_ w' => (w'.cell? ⟨b3, 0, none⟩ = some (.func (.func 105) #[] #[.pointer (some ⟨b1, 0, none⟩), .pointer (some ⟨b2, 0, none⟩)])) ∧ Gw W w') ?_ ?_
         rotate_left
         ·intro hJ2
          refine join_ (σ := Nat) 5 #[true, true, false, true, true, false, true, false, false, false] (fun s_ => [(6, .pointer (some ⟨s_, 0, none⟩))]) (fun s_ w' => (w'.cell? ⟨b3, 0, none⟩ = some (.func (.func 105) #[] #[.pointer (some ⟨b1, 0, none⟩), .pointer (some ⟨b2, 0, none⟩)])) ∧ Gw W w' ∧ W.heap.size ≤ s_ ∧ w'.heap[s_]? = some (.cells #[.int .i64 0, .int .i64 0] 24 (0, 0))) ?_ ?_
          rotate_left
          ·intro hJ6
           refine join_ (σ := Nat) 5 #[true, true, false, true, true, false, false, true, false, false] (fun s_ => [(7, .pointer (some ⟨s_, 0, none⟩))]) (fun s_ w' => (w'.cell? ⟨b3, 0, none⟩ = some (.func (.func 105) #[] #[.pointer (some ⟨b1, 0, none⟩), .pointer (some ⟨b2, 0, none⟩)])) ∧ Gw W w' ∧ W.heap.size ≤ s_ ∧ w'.heap[s_]? = some (.cells #[.int .i64 0, .int .i64 0] 24 (0, 0))) ?_ ?_
           rotate_left
           ·intro hJ7
            refine three_ (i := 2) (j := 6) (k := 7) (Ni := some 10) (Nj := some 6) (Nk := some 7) #[true, true, true, true, true, false, false, false, false, false] #[true, true, false, true, true, false, true, false, false, false] #[true, true, false, true, true, false, false, true, false, false] rfl rfl rfl rfl rfl rfl (by kernel_rfl) (by decide) (by decide) (by decide) (fun K hK => ?_) (fun K hK => ?_) (fun K hK => ?_)
            ·skip
             refine call_ 105 #[.int .i64 i, .pointer (some ⟨b1, 0, none⟩), .pointer (some ⟨b2, 0, none⟩)] (by rfl) rfl (by simp [execOp, resolve, Deferred.ofValue, invoke, Act.eval, go_sem, heg]) ?_
             with_reducible refine (HI.out _ HG.out.below).mono ?_
             rintro e w3 ⟨rfl, hg⟩
             refine ⟨_, rfl, ?_⟩
             have n0_ := Aq.mk (HG.out.trans hg)
             clear HG hg
             have HG := n0_
             refine hK.out _ _ ((HG.out.rules.2.1 b3 0 hb3).trans h3) (fun hHeld => ?_)
             clear hK K
             refine nM 10 ?_
             exact norm_ sN (hJ2 () _ ⟨hHeld, HG.out⟩)
            ·skip
             refine value_ (w1 := ?_) (v := ?_) (by rfl) rfl ?_ ?_
             rotate_left 2
             ·go_simp
              constructor
              ·rfl
              ·rfl
             have n0_ := Aq.mk (HG.out.alloc (.cells #[.int .i64 0, .int .i64 0] 24))
             have m6_ := Aq.mk (heap_alloc_new W.drew (.cells #[.int .i64 0, .int .i64 0] 24))
             have GE6 := Aq.mk HG.out.rules.1
             clear HG
             have HG := n0_
             have HX6 := m6_
             refine hK.out _ _ ((HG.out.rules.2.1 b3 0 hb3).trans h3) (fun hHeld => ?_)
             clear hK K
             refine nM 6 ?_
             exact norm_ sN (hJ6 (W.drew.heap.size) _ ⟨hHeld, HG.out, GE6.out, HX6.out⟩)
            ·skip
             refine value_ (w1 := ?_) (v := ?_) (by rfl) rfl ?_ ?_
             rotate_left 2
             ·go_simp
              constructor
              ·rfl
              ·rfl
             have n0_ := Aq.mk (HG.out.alloc (.cells #[.int .i64 0, .int .i64 0] 24))
             have m7_ := Aq.mk (heap_alloc_new W.drew (.cells #[.int .i64 0, .int .i64 0] 24))
             have GE7 := Aq.mk HG.out.rules.1
             clear HG
             have HG := n0_
             have HX7 := m7_
             refine hK.out _ _ ((HG.out.rules.2.1 b3 0 hb3).trans h3) (fun hHeld => ?_)
             clear hK K
             refine nM 7 ?_
             exact norm_ sN (hJ7 (W.drew.heap.size) _ ⟨hHeld, HG.out, GE7.out, HX7.out⟩)
           ·skip
            rintro g7 w2 ⟨hS_, hG_, hE7_, hX7_⟩
            have HG := Aq.mk hG_
            have GE7 := Aq.mk hE7_
            have HX7 := Aq.mk hX7_
            have hHeld := hS_
            clear hS_ hG_ hE7_ hX7_
            refine norm_ (a' := ?_) ?_ ?_
            rotate_left
            ·simp only [putAll, Act.put, List.setIfInBounds_toArray, List.set_cons_zero, List.set_cons_succ]
             rfl
            refine two_ (i := 2) (j := 6) (Ni := some 10) (Nj := some 6) #[true, true, true, true, true, false, false, true, false, false] #[true, true, false, true, true, false, true, true, false, false] rfl rfl rfl rfl (by kernel_rfl) (by decide) (by decide) (fun K hK => ?_) (fun K hK => ?_)
            ·skip
             refine call_ 105 #[.int .i64 i, .pointer (some ⟨b1, 0, none⟩), .pointer (some ⟨b2, 0, none⟩)] (by rfl) rfl (by simp [execOp, resolve, Deferred.ofValue, invoke, Act.eval, go_sem, heg]) ?_
             with_reducible refine (HI.out _ HG.out.below).mono ?_
             rintro e w3 ⟨rfl, hg⟩
             refine ⟨_, rfl, ?_⟩
             have n0_ := Aq.mk (HG.out.trans hg)
             have n7_ := Aq.mk (bB_ HX7.out hg.below)
             clear HG hg HX7
             have HG := n0_
             have HX7 := n7_
             refine hK.out _ _ ((HG.out.rules.2.1 b3 0 hb3).trans h3) (fun hHeld => ?_)
             clear hK K
             refine nM 10 ?_
             exact norm_ sN (hJ2_7 (g7) _ ⟨hHeld, HG.out, GE7.out, HX7.out⟩)
            ·skip
             refine value_ (w1 := ?_) (v := ?_) (by rfl) rfl ?_ ?_
             rotate_left 2
             ·go_simp
              constructor
              ·rfl
              ·rfl
             have n0_ := Aq.mk (HG.out.alloc (.cells #[.int .i64 0, .int .i64 0] 24))
             have m6_ := Aq.mk (heap_alloc_new w2 (.cells #[.int .i64 0, .int .i64 0] 24))
             have GE6 := Aq.mk HG.out.rules.1
             have m7_ := Aq.mk (bL_ HX7.out (.cells #[.int .i64 0, .int .i64 0] 24))
             have HN := Aq.mk (show w2.heap.size ≠ g7 from Nat.ne_of_gt (Array.getElem?_eq_some_iff.1 HX7.out).1)
             clear HG HX7
             have HG := n0_
             have HX6 := m6_
             have HX7 := m7_
             refine hK.out _ _ ((HG.out.rules.2.1 b3 0 hb3).trans h3) (fun hHeld => ?_)
             clear hK K
             refine nM 6 ?_
             exact norm_ sN (hJ6_7 (w2.heap.size, g7) _ ⟨hHeld, HG.out, GE6.out, HX6.out, GE7.out, HX7.out, HN.out⟩)
          ·skip
           rintro g6 w2 ⟨hS_, hG_, hE6_, hX6_⟩
           have HG := Aq.mk hG_
           have GE6 := Aq.mk hE6_
           have HX6 := Aq.mk hX6_
           have hHeld := hS_
           clear hS_ hG_ hE6_ hX6_
           refine norm_ (a' := ?_) ?_ ?_
           rotate_left
           ·simp only [putAll, Act.put, List.setIfInBounds_toArray, List.set_cons_zero, List.set_cons_succ]
            rfl
           refine two_ (i := 2) (j := 7) (Ni := some 10) (Nj := some 7) #[true, true, true, true, true, false, true, false, false, false] #[true, true, false, true, true, false, true, true, false, false] rfl rfl rfl rfl (by kernel_rfl) (by decide) (by decide) (fun K hK => ?_) (fun K hK => ?_)
           ·skip
            refine call_ 105 #[.int .i64 i, .pointer (some ⟨b1, 0, none⟩), .pointer (some ⟨b2, 0, none⟩)] (by rfl) rfl (by simp [execOp, resolve, Deferred.ofValue, invoke, Act.eval, go_sem, heg]) ?_
            with_reducible refine (HI.out _ HG.out.below).mono ?_
            rintro e w3 ⟨rfl, hg⟩
            refine ⟨_, rfl, ?_⟩
            have n0_ := Aq.mk (HG.out.trans hg)
            have n6_ := Aq.mk (bB_ HX6.out hg.below)
            clear HG hg HX6
            have HG := n0_
            have HX6 := n6_
            refine hK.out _ _ ((HG.out.rules.2.1 b3 0 hb3).trans h3) (fun hHeld => ?_)
            clear hK K
            refine nM 10 ?_
            exact norm_ sN (hJ2_6 (g6) _ ⟨hHeld, HG.out, GE6.out, HX6.out⟩)
           ·skip
            refine value_ (w1 := ?_) (v := ?_) (by rfl) rfl ?_ ?_
            rotate_left 2
            ·go_simp
             constructor
             ·rfl
             ·rfl
            have n0_ := Aq.mk (HG.out.alloc (.cells #[.int .i64 0, .int .i64 0] 24))
            have m7_ := Aq.mk (heap_alloc_new w2 (.cells #[.int .i64 0, .int .i64 0] 24))
            have GE7 := Aq.mk HG.out.rules.1
            have m6_ := Aq.mk (bL_ HX6.out (.cells #[.int .i64 0, .int .i64 0] 24))
            have HN := Aq.mk (show g6 ≠ w2.heap.size from Nat.ne_of_lt (Array.getElem?_eq_some_iff.1 HX6.out).1)
            clear HG HX6
            have HG := n0_
            have HX7 := m7_
            have HX6 := m6_
            refine hK.out _ _ ((HG.out.rules.2.1 b3 0 hb3).trans h3) (fun hHeld => ?_)
            clear hK K
            refine nM 7 ?_
            exact norm_ sN (hJ6_7 (g6, w2.heap.size) _ ⟨hHeld, HG.out, GE6.out, HX6.out, GE7.out, HX7.out, HN.out⟩)
         ·skip
          rintro _ w2 ⟨hS_, hG_⟩
          have HG := Aq.mk hG_
          have hHeld := hS_
          clear hS_ hG_
          refine norm_ (a' := ?_) ?_ ?_
          rotate_left
          ·simp only [putAll, Act.put, List.setIfInBounds_toArray, List.set_cons_zero, List.set_cons_succ]
           rfl
          refine three_ (i := 5) (j := 6) (k := 7) (Ni := some 13) (Nj := some 6) (Nk := some 7) #[true, true, true, true, true, true, false, false, false, false] #[true, true, true, true, true, false, true, false, false, false] #[true, true, true, true, true, false, false, true, false, false] rfl rfl rfl rfl rfl rfl (by kernel_rfl) (by decide) (by decide) (by decide) (fun K hK => ?_) (fun K hK => ?_) (fun K hK => ?_)
          ·skip
           refine call_ 105 #[.int .i64 k, .pointer (some ⟨b1, 0, none⟩), .pointer (some ⟨b2, 0, none⟩)] (by rfl) rfl (by simp [execOp, resolve, Deferred.ofValue, invoke, Act.eval, go_sem, heg]) ?_
           with_reducible refine (HK.out _ HG.out.below).mono ?_
           rintro e w3 ⟨rfl, hg⟩
           refine ⟨_, rfl, ?_⟩
           have n0_ := Aq.mk (HG.out.trans hg)
           clear HG hg
           have HG := n0_
           refine hK.out _ _ ((HG.out.rules.2.1 b3 0 hb3).trans h3) (fun hHeld => ?_)
           clear hK K
           refine nM 13 ?_
           exact norm_ sN (hJ2_5 () _ ⟨hHeld, HG.out⟩)
          ·skip
           refine value_ (w1 := ?_) (v := ?_) (by rfl) rfl ?_ ?_
           rotate_left 2
           ·go_simp
            constructor
            ·rfl
            ·rfl
           have n0_ := Aq.mk (HG.out.alloc (.cells #[.int .i64 0, .int .i64 0] 24))
           have m6_ := Aq.mk (heap_alloc_new w2 (.cells #[.int .i64 0, .int .i64 0] 24))
           have GE6 := Aq.mk HG.out.rules.1
           clear HG
           have HG := n0_
           have HX6 := m6_
           refine hK.out _ _ ((HG.out.rules.2.1 b3 0 hb3).trans h3) (fun hHeld => ?_)
           clear hK K
           refine nM 6 ?_
           exact norm_ sN (hJ2_6 (w2.heap.size) _ ⟨hHeld, HG.out, GE6.out, HX6.out⟩)
          ·skip
           refine value_ (w1 := ?_) (v := ?_) (by rfl) rfl ?_ ?_
           rotate_left 2
           ·go_simp
            constructor
            ·rfl
            ·rfl
           have n0_ := Aq.mk (HG.out.alloc (.cells #[.int .i64 0, .int .i64 0] 24))
           have m7_ := Aq.mk (heap_alloc_new w2 (.cells #[.int .i64 0, .int .i64 0] 24))
           have GE7 := Aq.mk HG.out.rules.1
           clear HG
           have HG := n0_
           have HX7 := m7_
           refine hK.out _ _ ((HG.out.rules.2.1 b3 0 hb3).trans h3) (fun hHeld => ?_)
           clear hK K
           refine nM 7 ?_
           exact norm_ sN (hJ2_7 (w2.heap.size) _ ⟨hHeld, HG.out, GE7.out, HX7.out⟩)
        ·skip
         rintro ⟨g6, g7⟩ w2 ⟨hS_, hG_, hE6_, hX6_, hE7_, hX7_, hN_⟩
         have HG := Aq.mk hG_
         have GE6 := Aq.mk hE6_
         have HX6 := Aq.mk hX6_
         have GE7 := Aq.mk hE7_
         have HX7 := Aq.mk hX7_
         have HN := Aq.mk hN_
         have hHeld := hS_
         clear hS_ hG_ hE6_ hX6_ hE7_ hX7_ hN_
         refine norm_ (a' := ?_) ?_ ?_
         rotate_left
         ·simp only [putAll, Act.put, List.setIfInBounds_toArray, List.set_cons_zero, List.set_cons_succ]
          rfl
         refine one_ (i := 2) (N := some 10) #[true, true, true, true, true, false, true, true, false, false] rfl rfl (by kernel_rfl) (by decide) (fun K hK => ?_)
         refine call_ 105 #[.int .i64 i, .pointer (some ⟨b1, 0, none⟩), .pointer (some ⟨b2, 0, none⟩)] (by rfl) rfl (by simp [execOp, resolve, Deferred.ofValue, invoke, Act.eval, go_sem, heg]) ?_
         with_reducible refine (HI.out _ HG.out.below).mono ?_
         rintro e w3 ⟨rfl, hg⟩
         refine ⟨_, rfl, ?_⟩
         have n0_ := Aq.mk (HG.out.trans hg)
         have n6_ := Aq.mk (bB_ HX6.out hg.below)
         have n7_ := Aq.mk (bB_ HX7.out hg.below)
         clear HG hg HX6 HX7
         have HG := n0_
         have HX6 := n6_
         have HX7 := n7_
         refine hK.out _ _ ((HG.out.rules.2.1 b3 0 hb3).trans h3) (fun hHeld => ?_)
         clear hK K
         refine nM 10 ?_
         exact norm_ sN (hJ2_6_7 (g6, g7) _ ⟨hHeld, HG.out, GE6.out, HX6.out, GE7.out, HX7.out, HN.out⟩)
       ·skip
        rintro g7 w2 ⟨hS_, hG_, hE7_, hX7_⟩
        have HG := Aq.mk hG_
        have GE7 := Aq.mk hE7_
        have HX7 := Aq.mk hX7_
        have hHeld := hS_
        clear hS_ hG_ hE7_ hX7_
        refine norm_ (a' := ?_) ?_ ?_
        rotate_left
        ·simp only [putAll, Act.put, List.setIfInBounds_toArray, List.set_cons_zero, List.set_cons_succ]
         rfl
        refine two_ (i := 5) (j := 6) (Ni := some 13) (Nj := some 6) #[true, true, true, true, true, true, false, true, false, false] #[true, true, true, true, true, false, true, true, false, false] rfl rfl rfl rfl (by kernel_rfl) (by decide) (by decide) (fun K hK => ?_) (fun K hK => ?_)
        ·skip
         refine call_ 105 #[.int .i64 k, .pointer (some ⟨b1, 0, none⟩), .pointer (some ⟨b2, 0, none⟩)] (by rfl) rfl (by simp [execOp, resolve, Deferred.ofValue, invoke, Act.eval, go_sem, heg]) ?_
         with_reducible refine (HK.out _ HG.out.below).mono ?_
         rintro e w3 ⟨rfl, hg⟩
         refine ⟨_, rfl, ?_⟩
         have n0_ := Aq.mk (HG.out.trans hg)
         have n7_ := Aq.mk (bB_ HX7.out hg.below)
         clear HG hg HX7
         have HG := n0_
         have HX7 := n7_
         refine hK.out _ _ ((HG.out.rules.2.1 b3 0 hb3).trans h3) (fun hHeld => ?_)
         clear hK K
         refine nM 13 ?_
         exact norm_ sN (hJ2_5_7 (g7) _ ⟨hHeld, HG.out, GE7.out, HX7.out⟩)
        ·skip
         refine value_ (w1 := ?_) (v := ?_) (by rfl) rfl ?_ ?_
         rotate_left 2
         ·go_simp
          constructor
          ·rfl
          ·rfl
         have n0_ := Aq.mk (HG.out.alloc (.cells #[.int .i64 0, .int .i64 0] 24))
         have m6_ := Aq.mk (heap_alloc_new w2 (.cells #[.int .i64 0, .int .i64 0] 24))
         have GE6 := Aq.mk HG.out.rules.1
         have m7_ := Aq.mk (bL_ HX7.out (.cells #[.int .i64 0, .int .i64 0] 24))
         have HN := Aq.mk (show w2.heap.size ≠ g7 from Nat.ne_of_gt (Array.getElem?_eq_some_iff.1 HX7.out).1)
         clear HG HX7
         have HG := n0_
         have HX6 := m6_
         have HX7 := m7_
         refine hK.out _ _ ((HG.out.rules.2.1 b3 0 hb3).trans h3) (fun hHeld => ?_)
         clear hK K
         refine nM 6 ?_
         exact norm_ sN (hJ2_6_7 (w2.heap.size, g7) _ ⟨hHeld, HG.out, GE6.out, HX6.out, GE7.out, HX7.out, HN.out⟩)
      ·skip
       rintro g6 w2 ⟨hS_, hG_, hE6_, hX6_⟩
       have HG := Aq.mk hG_
       have GE6 := Aq.mk hE6_
       have HX6 := Aq.mk hX6_
       have hHeld := hS_
       clear hS_ hG_ hE6_ hX6_
       refine norm_ (a' := ?_) ?_ ?_
       rotate_left
       ·simp only [putAll, Act.put, List.setIfInBounds_toArray, List.set_cons_zero, List.set_cons_succ]
        rfl
       refine two_ (i := 5) (j := 7) (Ni := some 13) (Nj := some 7) #[true, true, true, true, true, true, true, false, false, false] #[true, true, true, true, true, false, true, true, false, false] rfl rfl rfl rfl (by kernel_rfl) (by decide) (by decide) (fun K hK => ?_) (fun K hK => ?_)
       ·skip
        refine call_ 105 #[.int .i64 k, .pointer (some ⟨b1, 0, none⟩), .pointer (some ⟨b2, 0, none⟩)] (by rfl) rfl (by simp [execOp, resolve, Deferred.ofValue, invoke, Act.eval, go_sem, heg]) ?_
        with_reducible refine (HK.out _ HG.out.below).mono ?_
        rintro e w3 ⟨rfl, hg⟩
        refine ⟨_, rfl, ?_⟩
        have n0_ := Aq.mk (HG.out.trans hg)
        have n6_ := Aq.mk (bB_ HX6.out hg.below)
        clear HG hg HX6
        have HG := n0_
        have HX6 := n6_
        refine hK.out _ _ ((HG.out.rules.2.1 b3 0 hb3).trans h3) (fun hHeld => ?_)
        clear hK K
        refine nM 13 ?_
        exact norm_ sN (hJ2_5_6 (g6) _ ⟨hHeld, HG.out, GE6.out, HX6.out⟩)
       ·skip
        refine value_ (w1 := ?_) (v := ?_) (by rfl) rfl ?_ ?_
        rotate_left 2
        ·go_simp
         constructor
         ·rfl
         ·rfl
        have n0_ := Aq.mk (HG.out.alloc (.cells #[.int .i64 0, .int .i64 0] 24))
        have m7_ := Aq.mk (heap_alloc_new w2 (.cells #[.int .i64 0, .int .i64 0] 24))
        have GE7 := Aq.mk HG.out.rules.1
        have m6_ := Aq.mk (bL_ HX6.out (.cells #[.int .i64 0, .int .i64 0] 24))
        have HN := Aq.mk (show g6 ≠ w2.heap.size from Nat.ne_of_lt (Array.getElem?_eq_some_iff.1 HX6.out).1)
        clear HG HX6
        have HG := n0_
        have HX7 := m7_
        have HX6 := m6_
        refine hK.out _ _ ((HG.out.rules.2.1 b3 0 hb3).trans h3) (fun hHeld => ?_)
        clear hK K
        refine nM 7 ?_
        exact norm_ sN (hJ2_6_7 (g6, w2.heap.size) _ ⟨hHeld, HG.out, GE6.out, HX6.out, GE7.out, HX7.out, HN.out⟩)
     ·skip
      rintro _ w2 ⟨hS_, hG_⟩
      have HG := Aq.mk hG_
      have hHeld := hS_
      clear hS_ hG_
      refine norm_ (a' := ?_) ?_ ?_
      rotate_left
      ·simp only [putAll, Act.put, List.setIfInBounds_toArray, List.set_cons_zero, List.set_cons_succ]
       rfl
      refine two_ (i := 6) (j := 7) (Ni := some 6) (Nj := some 7) #[true, true, true, true, true, true, true, false, false, false] #[true, true, true, true, true, true, false, true, false, false] rfl rfl rfl rfl (by kernel_rfl) (by decide) (by decide) (fun K hK => ?_) (fun K hK => ?_)
      ·skip
       refine value_ (w1 := ?_) (v := ?_) (by rfl) rfl ?_ ?_
       rotate_left 2
       ·go_simp
        constructor
        ·rfl
        ·rfl
       have n0_ := Aq.mk (HG.out.alloc (.cells #[.int .i64 0, .int .i64 0] 24))
       have m6_ := Aq.mk (heap_alloc_new w2 (.cells #[.int .i64 0, .int .i64 0] 24))
       have GE6 := Aq.mk HG.out.rules.1
       clear HG
       have HG := n0_
       have HX6 := m6_
       refine hK.out _ _ ((HG.out.rules.2.1 b3 0 hb3).trans h3) (fun hHeld => ?_)
       clear hK K
       refine nM 6 ?_
       exact norm_ sN (hJ2_5_6 (w2.heap.size) _ ⟨hHeld, HG.out, GE6.out, HX6.out⟩)
      ·skip
       refine value_ (w1 := ?_) (v := ?_) (by rfl) rfl ?_ ?_
       rotate_left 2
       ·go_simp
        constructor
        ·rfl
        ·rfl
       have n0_ := Aq.mk (HG.out.alloc (.cells #[.int .i64 0, .int .i64 0] 24))
       have m7_ := Aq.mk (heap_alloc_new w2 (.cells #[.int .i64 0, .int .i64 0] 24))
       have GE7 := Aq.mk HG.out.rules.1
       clear HG
       have HG := n0_
       have HX7 := m7_
       refine hK.out _ _ ((HG.out.rules.2.1 b3 0 hb3).trans h3) (fun hHeld => ?_)
       clear hK K
       refine nM 7 ?_
       exact norm_ sN (hJ2_5_7 (w2.heap.size) _ ⟨hHeld, HG.out, GE7.out, HX7.out⟩)
    ·skip
     rintro ⟨g6, g7⟩ w2 ⟨hS_, hG_, hE6_, hX6_, hE7_, hX7_, hN_⟩
     have HG := Aq.mk hG_
     have GE6 := Aq.mk hE6_
     have HX6 := Aq.mk hX6_
     have GE7 := Aq.mk hE7_
     have HX7 := Aq.mk hX7_
     have HN := Aq.mk hN_
     have hHeld := hS_
     clear hS_ hG_ hE6_ hX6_ hE7_ hX7_ hN_
     refine norm_ (a' := ?_) ?_ ?_
     rotate_left
     ·simp only [putAll, Act.put, List.setIfInBounds_toArray, List.set_cons_zero, List.set_cons_succ]
      rfl
     refine one_ (i := 5) (N := some 13) #[true, true, true, true, true, true, true, true, false, false] rfl rfl (by kernel_rfl) (by decide) (fun K hK => ?_)
     refine call_ 105 #[.int .i64 k, .pointer (some ⟨b1, 0, none⟩), .pointer (some ⟨b2, 0, none⟩)] (by rfl) rfl (by simp [execOp, resolve, Deferred.ofValue, invoke, Act.eval, go_sem, heg]) ?_
     with_reducible refine (HK.out _ HG.out.below).mono ?_
     rintro e w3 ⟨rfl, hg⟩
     refine ⟨_, rfl, ?_⟩
     have n0_ := Aq.mk (HG.out.trans hg)
     have n6_ := Aq.mk (bB_ HX6.out hg.below)
     have n7_ := Aq.mk (bB_ HX7.out hg.below)
     clear HG hg HX6 HX7
     have HG := n0_
     have HX6 := n6_
     have HX7 := n7_
     refine hK.out _ _ ((HG.out.rules.2.1 b3 0 hb3).trans h3) (fun hHeld => ?_)
     clear hK K
     refine nM 13 ?_
     exact norm_ sN (hJ2_5_6_7 (g6, g7) _ ⟨hHeld, HG.out, GE6.out, HX6.out, GE7.out, HX7.out, HN.out⟩)
   ·skip
    rintro g7 w2 ⟨hS_, hG_, hE7_, hX7_⟩
    have HG := Aq.mk hG_
    have GE7 := Aq.mk hE7_
    have HX7 := Aq.mk hX7_
    have hHeld := hS_
    clear hS_ hG_ hE7_ hX7_
    refine norm_ (a' := ?_) ?_ ?_
    rotate_left
    ·simp only [putAll, Act.put, List.setIfInBounds_toArray, List.set_cons_zero, List.set_cons_succ]
     rfl
    refine one_ (i := 6) (N := some 6) #[true, true, true, true, true, true, true, true, false, false] rfl rfl (by kernel_rfl) (by decide) (fun K hK => ?_)
    refine value_ (w1 := ?_) (v := ?_) (by rfl) rfl ?_ ?_
    rotate_left 2
    ·go_simp
     constructor
     ·rfl
     ·rfl
    have n0_ := Aq.mk (HG.out.alloc (.cells #[.int .i64 0, .int .i64 0] 24))
    have m6_ := Aq.mk (heap_alloc_new w2 (.cells #[.int .i64 0, .int .i64 0] 24))
    have GE6 := Aq.mk HG.out.rules.1
    have m7_ := Aq.mk (bL_ HX7.out (.cells #[.int .i64 0, .int .i64 0] 24))
    have HN := Aq.mk (show w2.heap.size ≠ g7 from Nat.ne_of_gt (Array.getElem?_eq_some_iff.1 HX7.out).1)
    clear HG HX7
    have HG := n0_
    have HX6 := m6_
    have HX7 := m7_
    refine hK.out _ _ ((HG.out.rules.2.1 b3 0 hb3).trans h3) (fun hHeld => ?_)
    clear hK K
    refine nM 6 ?_
    exact norm_ sN (hJ2_5_6_7 (w2.heap.size, g7) _ ⟨hHeld, HG.out, GE6.out, HX6.out, GE7.out, HX7.out, HN.out⟩)
  ·skip
   rintro g6 w2 ⟨hS_, hG_, hE6_, hX6_⟩
   have HG := Aq.mk hG_
   have GE6 := Aq.mk hE6_
   have HX6 := Aq.mk hX6_
   have hHeld := hS_
   clear hS_ hG_ hE6_ hX6_
   refine norm_ (a' := ?_) ?_ ?_
   rotate_left
   ·simp only [putAll, Act.put, List.setIfInBounds_toArray, List.set_cons_zero, List.set_cons_succ]
    rfl
   refine one_ (i := 7) (N := some 7) #[true, true, true, true, true, true, true, true, false, false] rfl rfl (by kernel_rfl) (by decide) (fun K hK => ?_)
   refine value_ (w1 := ?_) (v := ?_) (by rfl) rfl ?_ ?_
   rotate_left 2
   ·go_simp
    constructor
    ·rfl
    ·rfl
   have n0_ := Aq.mk (HG.out.alloc (.cells #[.int .i64 0, .int .i64 0] 24))
   have m7_ := Aq.mk (heap_alloc_new w2 (.cells #[.int .i64 0, .int .i64 0] 24))
   have GE7 := Aq.mk HG.out.rules.1
   have m6_ := Aq.mk (bL_ HX6.out (.cells #[.int .i64 0, .int .i64 0] 24))
   have HN := Aq.mk (show g6 ≠ w2.heap.size from Nat.ne_of_lt (Array.getElem?_eq_some_iff.1 HX6.out).1)
   clear HG HX6
   have HG := n0_
   have HX7 := m7_
   have HX6 := m6_
   refine hK.out _ _ ((HG.out.rules.2.1 b3 0 hb3).trans h3) (fun hHeld => ?_)
   clear hK K
   refine nM 7 ?_
   exact norm_ sN (hJ2_5_6_7 (g6, w2.heap.size) _ ⟨hHeld, HG.out, GE6.out, HX6.out, GE7.out, HX7.out, HN.out⟩)
 rintro ⟨g6, g7⟩ w2 ⟨hS_, hG_, hE6_, hX6_, hE7_, hX7_, hN_⟩
 have HG := Aq.mk hG_
 have GE6 := Aq.mk hE6_
 have HX6 := Aq.mk hX6_
 have GE7 := Aq.mk hE7_
 have HX7 := Aq.mk hX7_
 have HN := Aq.mk hN_
 have hHeld := hS_
 clear hS_ hG_ hE6_ hX6_ hE7_ hX7_ hN_
 refine norm_ (a' := ?_) ?_ ?_
 rotate_left
 ·simp only [putAll, Act.put, List.setIfInBounds_toArray, List.set_cons_zero, List.set_cons_succ]
  rfl
 refine one_ (i := 8) (N := none) #[true, true, true, true, true, true, true, true, true, false] rfl rfl (by kernel_rfl) (by decide) (fun K hK => ?_)
 obtain ⟨c60, c61, f60, f61⟩ := cf2 HX6.out
 refine skip_ (w1 := ?_) (by rfl) rfl ?_ ?_
 rotate_left
 ·go_simp
  rfl
 have n0_ := Aq.mk ((HG.out.set GE6.out (b := g6) (o := 0) (.int .i64 ni)).set GE6.out (b := g6) (o := 1) (.int .i64 ei))
 have n1_ : Aq (((w2.setCell ⟨g6, 0, none⟩ (.int .i64 ni)).setCell ⟨g6, 1, none⟩ (.int .i64 ei)).heap[g6]? = some (.cells #[.int .i64 ni, .int .i64 ei] 24 (0, 0))) := ⟨bP_ (bP_ HX6.out 0 _ rfl) 1 _ rfl⟩
 have n2_ := Aq.mk (bF_ (p := ⟨g6, 1, none⟩) (bF_ (p := ⟨g6, 0, none⟩) HX7.out (show g7 ≠ g6 from HN.out.symm) (.int .i64 ni)) (show g7 ≠ g6 from HN.out.symm) (.int .i64 ei))
 clear HG HX6 HX7 c60 c61 f60 f61 hHeld
 generalize ((w2.setCell ⟨g6, 0, none⟩ (.int .i64 ni)).setCell ⟨g6, 1, none⟩ (.int .i64 ei)) = w4 at n0_ n1_ n2_ ⊢
 have HG := n0_
 have HX6 := n1_
 have HX7 := n2_
 clear n0_ n1_ n2_
 refine hK.out _ _ ((HG.out.rules.2.1 b3 0 hb3).trans h3) (fun hHeld => ?_)
 clear hK K
 refine one_ (i := 9) (N := none) #[true, true, true, true, true, true, true, true, true, true] rfl rfl (by kernel_rfl) (by decide) (fun K hK => ?_)
 obtain ⟨c70, c71, f70, f71⟩ := cf2 HX7.out
 refine skip_ (w1 := ?_) (by rfl) rfl ?_ ?_
 rotate_left
 ·go_simp
  rfl
 have n0_ := Aq.mk ((HG.out.set GE7.out (b := g7) (o := 0) (.int .i64 nk)).set GE7.out (b := g7) (o := 1) (.int .i64 ek))
 have n1_ : Aq (((w4.setCell ⟨g7, 0, none⟩ (.int .i64 nk)).setCell ⟨g7, 1, none⟩ (.int .i64 ek)).heap[g7]? = some (.cells #[.int .i64 nk, .int .i64 ek] 24 (0, 0))) := ⟨bP_ (bP_ HX7.out 0 _ rfl) 1 _ rfl⟩
 have n2_ := Aq.mk (bF_ (p := ⟨g7, 1, none⟩) (bF_ (p := ⟨g7, 0, none⟩) HX6.out (show g6 ≠ g7 from HN.out) (.int .i64 nk)) (show g6 ≠ g7 from HN.out) (.int .i64 ek))
 clear HG HX6 HX7 c70 c71 f70 f71 hHeld
 generalize ((w4.setCell ⟨g7, 0, none⟩ (.int .i64 nk)).setCell ⟨g7, 1, none⟩ (.int .i64 ek)) = w5 at n0_ n1_ n2_ ⊢
 have HG := n0_
 have HX7 := n1_
 have HX6 := n2_
 clear n0_ n1_ n2_
 refine hK.out _ _ ((HG.out.rules.2.1 b3 0 hb3).trans h3) (fun hHeld => ?_)
 clear hK K
 refine done_ (by kernel_rfl) ?_
 obtain ⟨r60, r61⟩ := cz2 HX6.out
 obtain ⟨r70, r71⟩ := cz2 HX7.out
 go_wp2_with (first | (go_at_call 108; with_reducible refine (compare_any _ _ _).mono ?_; rintro e w' ⟨rfl, rfl⟩))
 go_ret
 exact ⟨rfl, HG.out⟩
end
section
open Go.Shelf
open Go.Proofs Go.Sort Go.Shelf Go.Lib
set_option maxRecDepth 100000 in
set_option maxHeartbeats 1000000 in
theorem clone_int (A : Option Addr) (c : Nat) (l : List Int) (w : World) (hr : Kd.C (Kd.int .i64) w A l.length l) (hl : l.length ≤ 1000000) :
  Calls Tryz.prog 146 #[.slice A l.length c] w fun e w' => ∃ v : Value, e = .returned v ∧ Kd.R (Kd.int .i64) 3 w' w.heap.size (fun _ => True) v l ∧ Below w.heap.size w w' := by
 have HR := Aq.mk hr
 clear hr
 have qT : ∀ (w : World) (a : Option Addr) (n c n' c' : Nat), (binOp .eql 35 (.slice a n c) (.slice none n' c')).run Tryz.prog w = .ok (.bool a.isNone) w := fun w a n c n' c' => Lib.run_eql_slice_nil w _ _ a n c n' c' Tryz.underlying35
 cases A with
 | none =>
  have hn : l = [] := by
   cases l with
   | nil => rfl
   | cons x r =>
    obtain ⟨ad, e, _⟩ := HR.out.2.2 (by simp)
    cases e
  subst hn
  clear HR
  go_enter Tryz.func146, Tryz.ntmps146
  go_wp2
  go_ret
  exact ⟨_, rfl, Kd.R_nil _ _ _ _ _, Below.refl _ _⟩
 | some ad =>
  have HB := Aq.mk (Below.refl w.heap.size w)
  go_enter Tryz.func146, Tryz.ntmps146
  go_wp2_with (first
   | ((with_reducible refine gD_ (N := 5) rfl ?_); refine Kd.R_lit (Kd.int .i64) (w0 := w) w.heap.size 3 ?hg (N := 5) ?hd (xs := ([] : List Int)) (inner := []) (ok := fun _ => True) (okp := fun _ => True) ?hr ?hp (fun _ hk => hk) trivial HB.out (Nat.le_refl _) (by simp) ?_; (case hd => rfl); (case hg => rfl); (case hr => first | (go_simp; done) | (go_simp; rfl)); (case hp => exact (Reps.none _ _)); intro v1 w1 ho hb _ _; have HO := Aq.mk ho; replace HB := Aq.mk hb; clear ho hb; obtain ⟨Ao, co, eo⟩ := Kd.R_slice HO.out; subst eo)
   | ((with_reducible refine gD_ (N := 7) rfl ?_); refine Kd.R_append_rows (Kd.int .i64) (w0 := w) w.heap.size (by rfl) (.tmp 5) (.tmp 6) 35 3 (.int .i64 0) 8 rfl Tryz.underlying35 info3 rfl (by decide) (by omega) (.slice Ao ([] : List Int).length co) [] l _ _ _ (fun _ => True) (fun _ => False) rfl rfl HO.out (Kd.C_below HR.out HB.out) (fun _ _ h => h) (fun _ h => h.elim) (fun _ _ => trivial) HB.out HB.out.size (by simp; omega) ?_; intro v2 w2 ho2 hb2 _ _; have HO2 := Aq.mk ho2; replace HB := Aq.mk hb2; clear ho2 hb2))
  go_ret
  exact ⟨_, rfl, by simpa using HO2.out, HB.out⟩
def encN (n : Nat) (i : Nat) : Value := .int .i64 ((i % n : Nat) : Int)
def cutF (l : List S24) (total : Int) (x y : Nat) : Int := cutC l total ((x % l.length : Nat) : Int) ((y % l.length : Nat) : Int)
theorem oneCellN (n : Nat) : OneCell (encN n) := fun _ => rfl
theorem putRow_encN (n : Nat) (w : World) (b : Nat) (d : Array Nat) : putRow (encN n) w b 0 d = putRow (Value.int .i64) w b 0 (d.map fun i => ((i % n : Nat) : Int)) := by
 unfold putRow
 congr 1
 funext c
 unfold putCells
 congr 1
 funext k x
 simp only [Array.size_map, Nat.zero_add, Nat.zero_le, true_and, Nat.sub_zero]
 by_cases h : k < d.size
 ·rw [if_pos h, if_pos h, getElem!_pos d k h, getElem!_pos _ k (by simpa using h), Array.getElem_map]
  rfl
 ·rw [if_neg h, if_neg h]
theorem below_sortWorld {α : Type} [Inhabited α] (enc : α → Value) {w W : World} {g m : Nat} {d : Array α} {os : Array Obj} (hB : Below w.heap.size w W) (hg : w.heap.size ≤ g) : Below w.heap.size w (sortWorld enc W g 0 m d os) := by
 refine ⟨hB.os, hB.tape, hB.output, ?_, fun k hk => ?_⟩
 ·show w.heap.size ≤ (W.heap.modify g _ ++ os).size
  have := hB.size
  simp
  omega
 ·have h1 : k < (putRow enc (Sort.ahead W m) g 0 d).heap.size := by
   show k < (mapBlock _ _ _).heap.size
   rw [size_mapBlock]
   exact Nat.lt_of_lt_of_le hk hB.size
  unfold sortWorld
  rw [heap_grow h1]
  refine Eq.trans ?_ (hB.block k hk)
  exact heap_mapBlock_other (w := Sort.ahead W m) (by omega)
theorem cut_lays (A : Option Addr) (c : Nat) (l : List S24) (total : Int) (b1 b2 b3 : Nat) (w W : World) (g : Nat) (hr : Kd.C k24 w A l.length l) (hB : Below w.heap.size w W) (hP : Parts l total) (hl : 0 < l.length)
  (h1 : W.cell? ⟨b1, 0, none⟩ = some (.int .i64 total)) (h2 : W.cell? ⟨b2, 0, none⟩ = some (.slice A l.length c)) (h3 : W.cell? ⟨b3, 0, none⟩ = some (.func (.func 105) #[] #[.pointer (some ⟨b1, 0, none⟩), .pointer (some ⟨b2, 0, none⟩)]))
  (W1 : World) (hW : Below W.heap.size W W1) (hg : W.heap.size ≤ g) (size : Nat) : CmpLays1 Tryz.prog 107 #[.pointer (some ⟨b3, 0, none⟩)] (encN l.length) (cutF l total) g 0 size W1 := by
 intro m os dk hs x y
 have hV : Below W.heap.size W (sortWorld (encN l.length) W1 g 0 m dk os) := below_sortWorld _ hW hg
 have hb1 := World.block_lt_of_cell? W _ h1
 have hb2 := World.block_lt_of_cell? W _ h2
 have hb3 := World.block_lt_of_cell? W _ h3
 refine (cmp_any A c l total ((x % l.length : Nat) : Int) ((y % l.length : Nat) : Int) b1 b2 b3 _ ((hV.cell (p := ⟨b1, 0, none⟩) hb1).trans h1) ((hV.cell (p := ⟨b2, 0, none⟩) hb2).trans h2) (Kd.C_below hr (hB.trans (hV.mono hB.size))) ((hV.cell (p := ⟨b3, 0, none⟩) hb3).trans h3) hP (by omega) (by have := Nat.mod_lt x hl; omega) (by omega) (by have := Nat.mod_lt y hl; omega)).mono fun e w' ⟨he, hw⟩ => ⟨he, hw⟩
def insBlocks (lt : Nat → Nat → Bool) (d : Array Nat) : Nat → Array Nat
 | 0 => d
 | r + 1 => Sort.insertionSort lt (insBlocks lt d r) (20 * r) (20 * r + 20)
theorem size_insInner (lt : Nat → Nat → Bool) (a : Nat) : ∀ (j : Nat) (d : Array Nat), (insInner lt a j d).size = d.size
 | 0, d => rfl
 | j + 1, d => by
  unfold insInner
  split
  ·rw [size_insInner lt a j, size_swp]
  ·rfl
theorem size_insOuter (lt : Nat → Nat → Bool) (a b : Nat) : ∀ (n i : Nat) (d : Array Nat), b - i ≤ n → (insOuter lt a b i d).size = d.size
 | 0, i, d, h => by unfold insOuter; rw [if_neg (by omega)]
 | n + 1, i, d, h => by
  unfold insOuter
  split
  ·rw [size_insOuter lt a b n (i + 1) _ (by omega), size_insInner]
  ·rfl
theorem size_ins (lt : Nat → Nat → Bool) (d : Array Nat) (a b : Nat) : (Sort.insertionSort lt d a b).size = d.size := size_insOuter lt a b _ _ d (Nat.le_refl _)
theorem size_insBlocks (lt : Nat → Nat → Bool) (d : Array Nat) : ∀ r, (insBlocks lt d r).size = d.size
 | 0 => rfl
 | r + 1 => by unfold insBlocks; rw [size_ins, size_insBlocks lt d r]
theorem ins_empty (lt : Nat → Nat → Bool) (d : Array Nat) (a : Nat) : Sort.insertionSort lt d a a = d := by
 unfold Sort.insertionSort insOuter
 rw [if_neg (by omega)]
set_option maxRecDepth 100000 in
set_option maxHeartbeats 1000000 in
theorem stable_any (cf : Nat → Nat → Int) (g cap : Nat) (cb : Array Value) (d : Array Nat) (n : Nat) (cfn : Nat) (w : World) (eg : ∀ args w, (callFunc cfn args).run Tryz.prog w = .ok (.enter cfn args) w) (hcmp : CmpLays1 Tryz.prog cfn cb (encN n) cf g 0 d.size w) (R : Row1 (encN n) w g 0 d) (h20 : d.size ≤ 20) :
  Calls Tryz.prog 176 #[.slice (some ⟨g, 0, none⟩) d.size cap, .int .i64 d.size, .func (.func cfn) #[] cb] w fun e w' => e = .returned (.tuple #[]) ∧ SW (encN n) w g 0 (Sort.insertionSort (ltOf cf) d 0 d.size) w' := by
 have H1 : Aq (∀ (W : World) (dk : Array Nat) (a b : Nat), dk.size = d.size → SW (encN n) w g 0 dk W → a ≤ b → b ≤ d.size → Calls Tryz.prog 183 #[.slice (some ⟨g, 0, none⟩) d.size cap, .int .i64 a, .int .i64 b, .func (.func cfn) #[] cb] W fun e w' => e = .returned (.tuple #[]) ∧ SW (encN n) w g 0 (Sort.insertionSort (ltOf cf) dk a b) w') := ⟨fun W dk a b hs hS hab hb => by
  have z := Any.insertionSortCmpFunc_s Tryz.insertA (encN n) cf cfn cb g 0 cap a b d dk w W eg hcmp R hs.symm hS hab (by omega) (by omega)
  rw [hs] at z
  exact z⟩
 have S0 : Aq (SW (encN n) w g 0 (insBlocks (ltOf cf) d 0) w) := ⟨SW.start R.hH⟩
 clear hcmp R eg
 go_enter Tryz.func176, Tryz.ntmps176
 go_wp2
 go_loopg [7, 8] (d.size / 20) (fun gg s7 s8 wr => ∃ r a b : Nat, r ≤ d.size / 20 ∧ d.size / 20 - r ≤ gg ∧ b ≤ 60 ∧ s7 = .int .i64 (a : Int) ∧ s8 = .int .i64 (b : Int) ∧ Aq (a = 20 * r) ∧ Aq (b = 20 * r + 20) ∧ Aq (SW (encN n) w g 0 (insBlocks (ltOf cf) d r) wr))
 case atStart => exact ⟨0, 0, 20, by omega, by omega, by omega, rfl, rfl, ⟨rfl⟩, ⟨rfl⟩, S0⟩
 case round =>
  clear S0
  obtain ⟨r, a, b, hr, hg, hb60, rfl, rfl, HA, HB, S1⟩ := hrel
  by_cases hlt : b ≤ d.size
  ·have hltz : (b : Int) ≤ (d.size : Int) := by omega
   have hl2 : 20 * r + 20 ≤ d.size := by have := HB.out; omega
   have HC := Aq.mk (H1.out wr _ (20 * r) (20 * r + 20) (size_insBlocks _ _ _) S1.out (by omega) hl2)
   rw [← HB.out, ← HA.out] at HC
   clear S1
   go_wp2_with (first | (go_at_call 183; (with_reducible refine HC.out.mono ?_); rintro e w2 ⟨rfl, hS⟩; have S2 := Aq.mk hS; clear hS HC))
   have S3 : Aq (SW (encN n) w g 0 (insBlocks (ltOf cf) d (r + 1)) w2) := ⟨by have z := S2.out; rw [HA.out, HB.out] at z; exact z⟩
   clear S2
   go_roundg (d.size / 20 - (r + 1))
   case measure => omega
   case rel => exact ⟨r + 1, b, b + 20, by omega, by omega, by omega, rfl, by go_num, ⟨by have := HB.out; omega⟩, ⟨by have := HB.out; omega⟩, S3⟩
  ·have hltz : ¬ (b : Int) ≤ (d.size : Int) := by omega
   have hl2 : ¬ 20 * r + 20 ≤ d.size := by have := HB.out; omega
   have HC := Aq.mk (H1.out wr _ (20 * r) d.size (size_insBlocks _ _ _) S1.out (by omega) (Nat.le_refl _))
   rw [← HA.out] at HC
   have HE : Aq (Sort.insertionSort (ltOf cf) (insBlocks (ltOf cf) d r) a d.size = Sort.insertionSort (ltOf cf) d 0 d.size) := ⟨by
    rw [HA.out]
    rcases (by omega : r = 0 ∨ (r = 1 ∧ d.size = 20)) with rfl | ⟨rfl, h⟩
    ·rfl
    ·rw [h, ins_empty]; rfl⟩
   have hz2 : ¬ (20 : Int) < (d.size : Int) := by omega
   clear S1
   go_wp2_with (first | (go_at_call 183; (with_reducible refine HC.out.mono ?_); rintro e w2 ⟨rfl, hS⟩; have S2 := Aq.mk hS; clear hS HC))
   go_loopg [6] 0 (fun gg s6 wr => s6 = .int .i64 20 ∧ wr = w2)
   case atStart => exact ⟨rfl, rfl⟩
   case round =>
    obtain ⟨rfl, rfl⟩ := hrel
    go_wp2
    go_end0
    exact ⟨rfl, by rw [← HE.out]; exact S2.out⟩
set_option maxRecDepth 100000 in
theorem ins_none (A : Option Addr) (cap : Nat) (f : Value) (w : World) : Calls Tryz.prog 183 #[.slice A 0 cap, .int .i64 0, .int .i64 0, f] w fun e w' => e = .returned (.tuple #[]) ∧ w = w' := by
 go_enter Tryz.func183, Tryz.ntmps183
 go_wp2
 go_loopg [8] 0 (fun gg s8 wr => s8 = .int .i64 1 ∧ wr = w)
 case atStart => exact ⟨rfl, rfl⟩
 case round =>
  obtain ⟨rfl, rfl⟩ := hrel
  go_wp2
  go_end0
  exact ⟨rfl, rfl⟩
set_option maxRecDepth 100000 in
theorem stable_none (A : Option Addr) (cap : Nat) (f : Value) (w : World) : Calls Tryz.prog 176 #[.slice A 0 cap, .int .i64 0, f] w fun e w' => e = .returned (.tuple #[]) ∧ w = w' := by
 go_enter Tryz.func176, Tryz.ntmps176
 go_wp2
 go_loopg [7, 8] 0 (fun gg s7 s8 wr => s7 = .int .i64 0 ∧ s8 = .int .i64 20 ∧ wr = w)
 case atStart => exact ⟨rfl, rfl, rfl⟩
 case round =>
  obtain ⟨rfl, rfl, rfl⟩ := hrel
  go_wp2_with (first | (go_at_call 183; (with_reducible refine (ins_none _ _ _ _).mono ?_); rintro e w2 ⟨rfl, rfl⟩))
  go_loopg [6] 0 (fun gg s6 wr2 => s6 = .int .i64 20 ∧ wr2 = wr)
  case atStart => exact ⟨rfl, rfl⟩
  case round =>
   obtain ⟨rfl, rfl⟩ := hrel
   go_wp2
   go_end0
   exact ⟨rfl, rfl⟩
def orderN (l : List S24) (total : Int) : List Nat := (Sort.insertionSort (ltOf (cutF l total)) (List.range l.length).toArray 0 l.length).toList
def orderL (l : List S24) (total : Int) : List Int := (orderN l total).map fun i => ((i % l.length : Nat) : Int)
theorem orderN_len (l : List S24) (total : Int) : (orderN l total).length = l.length := by
 unfold orderN
 rw [Array.length_toList, size_ins]
 simp
theorem orderL_len (l : List S24) (total : Int) : (orderL l total).length = l.length := by unfold orderL; rw [List.length_map, orderN_len]
theorem orderL_nil (total : Int) : orderL [] total = [] := List.length_eq_zero_iff.1 (orderL_len [] total)
theorem sfunc_any (A : Option Addr) (cap n : Nat) (f : Value) (w : World) (R : Ending → World → Prop) (h : Calls Tryz.prog 176 #[.slice A n cap, .int .i64 n, f] w fun e w' => e = .returned (.tuple #[]) ∧ R e w') :
  Calls Tryz.prog 147 #[.slice A n cap, f] w fun e w' => e = .returned (.tuple #[]) ∧ R e w' := by
 have H := Aq.mk h
 clear h
 go_enter Tryz.func147, Tryz.ntmps147
 go_wp2_with (first | (go_at_call 176; (with_reducible refine H.out.mono ?_); rintro e w2 ⟨rfl, hq⟩; have HQ := Aq.mk hq; clear hq))
 go_end0
 exact ⟨rfl, HQ.out⟩
theorem holdsN {W : World} {g n : Nat} (h : Holds (Value.int .i64) W g 0 ((List.range n).map Int.ofNat).toArray) : Holds (encN n) W g 0 (List.range n).toArray := by
 intro j hj
 have hj' : j < n := by simpa using hj
 have z := h j (by simpa using hj')
 rw [getElem!_pos _ j (by simpa using hj')] at z ⊢
 simp only [List.getElem_toArray, List.getElem_map, List.getElem_range] at z ⊢
 unfold encN
 rw [Nat.mod_eq_of_lt hj']
 exact z
set_option maxHeartbeats 1000000 in
theorem stableFunc_any (A : Option Addr) (c : Nat) (l : List S24) (total : Int) (b1 b2 b3 : Nat) (w W : World) (v : Value) (hr : Kd.C k24 w A l.length l) (hB : Below w.heap.size w W) (hP : Parts l total)
  (h1 : W.cell? ⟨b1, 0, none⟩ = some (.int .i64 total)) (h2 : W.cell? ⟨b2, 0, none⟩ = some (.slice A l.length c)) (h3 : W.cell? ⟨b3, 0, none⟩ = some (.func (.func 105) #[] #[.pointer (some ⟨b1, 0, none⟩), .pointer (some ⟨b2, 0, none⟩)]))
  (W1 : World) (hW : Below W.heap.size W W1) (hR : Kd.R (Kd.int .i64) 3 W1 W.heap.size (fun _ => True) v ((List.range l.length).map Int.ofNat)) (h20 : l.length ≤ 20) :
  Calls Tryz.prog 147 #[v, .func (.func 107) #[] #[.pointer (some ⟨b3, 0, none⟩)]] W1 fun e w' => e = .returned (.tuple #[]) ∧ Kd.R (Kd.int .i64) 3 w' W.heap.size (fun _ => True) v (orderL l total) ∧ Below W.heap.size W w' := by
 have hlr : ((List.range l.length).map Int.ofNat).length = l.length := by simp
 rcases Kd.own_of_R hR with ⟨hx, ⟨rfl, h0⟩ | ⟨g, cap, cur, rfl, hg, hb, hn, hc, hs, ht⟩⟩
 ·have hl : l = [] := List.length_eq_zero_iff.1 (by omega)
  subst hl
  refine sfunc_any none 0 0 _ W1 (fun e w' => Kd.R (Kd.int .i64) 3 w' W.heap.size (fun _ => True) (.slice none 0 0) (orderL [] total) ∧ Below W.heap.size W w') ((stable_none none 0 _ W1).mono ?_)
  rintro e w' ⟨rfl, rfl⟩
  exact ⟨rfl, by rw [orderL_nil]; exact hR, hW⟩
 ·rw [hlr] at hn ht ⊢
  by_cases hl : l.length = 0
  ·have hl' : l = [] := List.length_eq_zero_iff.1 hl
   subst hl'
   refine sfunc_any (some ⟨g, 0, none⟩) cap 0 _ W1 (fun e w' => Kd.R (Kd.int .i64) 3 w' W.heap.size (fun _ => True) (.slice (some ⟨g, 0, none⟩) 0 cap) (orderL [] total) ∧ Below W.heap.size W w') ((stable_none _ _ _ W1).mono ?_)
   rintro e w' ⟨rfl, rfl⟩
   exact ⟨rfl, by rw [orderL_nil]; exact hR, hW⟩
  ·have hlp : 0 < l.length := by omega
   have hd : (List.range l.length).toArray.size = l.length := by simp
   have hH : Holds (encN l.length) W1 g 0 (List.range l.length).toArray := holdsN (holds_of_row hb hlr ht)
   have hgl : g < W1.heap.size := (Array.getElem?_eq_some_iff.1 hb).1
   have hst := stable_any (cutF l total) g cap #[.pointer (some ⟨b3, 0, none⟩)] (List.range l.length).toArray l.length 107 W1 (enters_of Tryz.func107 (by kernel_rfl) rfl) (cut_lays A c l total b1 b2 b3 w W g hr hB hP hlp h1 h2 h3 W1 hW hg _) ⟨oneCellN _, hH, hgl⟩ (by omega)
   rw [hd] at hst
   refine sfunc_any (some ⟨g, 0, none⟩) cap l.length _ W1 (fun e w' => Kd.R (Kd.int .i64) 3 w' W.heap.size (fun _ => True) (.slice (some ⟨g, 0, none⟩) l.length cap) (orderL l total) ∧ Below W.heap.size W w') (hst.mono ?_)
   rintro e w' ⟨rfl, q, os, rfl⟩
   refine ⟨rfl, Kd.R_of_own ?_ (fun _ _ => trivial), below_sortWorld _ hW hg⟩
   have z := own_putRow (W := W1) (base := W.heap.size) (q := q) (os := os) hg hb hn hc hs (orderL l total) (orderL_len l total) (Nat.le_refl _)
   rw [List.take_of_length_le (by rw [orderL_len]; exact Nat.le_refl _)] at z
   rw [orderL_len]
   unfold sortWorld
   rw [putRow_encN]
   have e : (Sort.insertionSort (ltOf (cutF l total)) (List.range l.length).toArray 0 l.length).map (fun i => ((i % l.length : Nat) : Int)) = (orderL l total).toArray := by
    unfold orderL orderN
    rw [← Array.toList_map, Array.toArray_toList]
   rw [e]
   exact z
set_option maxRecDepth 100000 in
set_option maxHeartbeats 1000000 in
theorem sortedBy_any (A : Option Addr) (c : Nat) (l : List S24) (total : Int) (b1 b2 b3 : Nat) (w W : World) (v : Value) (hr : Kd.C k24 w A l.length l) (hB : Below w.heap.size w W) (hP : Parts l total)
  (h1 : W.cell? ⟨b1, 0, none⟩ = some (.int .i64 total)) (h2 : W.cell? ⟨b2, 0, none⟩ = some (.slice A l.length c)) (h3 : W.cell? ⟨b3, 0, none⟩ = some (.func (.func 105) #[] #[.pointer (some ⟨b1, 0, none⟩), .pointer (some ⟨b2, 0, none⟩)]))
  (hR : Kd.R (Kd.int .i64) 3 W w.heap.size (fun _ => True) v ((List.range l.length).map Int.ofNat)) (h20 : l.length ≤ 20) :
  Calls Tryz.prog 106 #[v, .func (.func 107) #[] #[.pointer (some ⟨b3, 0, none⟩)]] W fun e w' => ∃ v', e = .returned v' ∧ Kd.R (Kd.int .i64) 3 w' W.heap.size (fun _ => True) v' (orderL l total) ∧ Below W.heap.size W w' := by
 have hS := Aq.mk (fun W1 hW v1 hR1 => stableFunc_any A c l total b1 b2 b3 w W v1 hr hB hP h1 h2 h3 W1 hW hR1 h20)
 have hlr : ((List.range l.length).map Int.ofNat).length = l.length := by simp
 generalize (List.range l.length).map Int.ofNat = xs at hR hS hlr
 obtain ⟨Ak, ck, rfl, hck, hkr⟩ := Kd.R_reads hR
 have hC := Aq.mk (clone_int Ak ck _ W hkr (by omega))
 clear hlr
 clear hr hB hP h1 h2 h3 hR hkr h20 hck
 go_enter Tryz.func106, Tryz.ntmps106
 go_wp2_with (first | (go_at_call 146; (with_reducible refine hC.out.mono ?_); rintro e w2 ⟨v1, rfl, hR1, hb1⟩; have HS := Aq.mk (hS.out w2 hb1 v1 hR1); clear hR1 hb1 hC hS) | (go_at_call 147; (with_reducible refine HS.out.mono ?_); rintro e w3 ⟨rfl, hR2, hb2⟩; have HR2 := Aq.mk hR2; have HB2 := Aq.mk hb2; clear hR2 hb2 HS))
 go_ret
 exact ⟨_, rfl, HR2.out, HB2.out⟩
end
section
open Go.Shelf
open Go.Proofs Go.Sort Go.Shelf Go.Lib
def okP (x : S24) : Bool := !badF x && decide (0 ≤ x.f0) && decide (x.f0 ≤ x.f1)
def partF (total : Int) (x : S24) : Int := (total * x.f0).tdiv x.f1
def sumP (total : Int) : List S24 → Int
 | [] => 0
 | x :: l => partF total x + sumP total l
def bumpL : List Int → List Int → List Int
 | o, [] => o
 | o, i :: r => bumpL (o.set i.toNat (wrap64 (rd o i + 1))) r
def fineP (total : Int) (l : List S24) : Bool := inB total 0 1000000000 && l.all okP
def leftP (total : Int) (l : List S24) : Int := (total * (sumF l).1.1).tdiv (sumF l).1.2 - sumP total l
def splitF (total : Int) (l : List S24) : List Int × Int :=
 if 41 < l.length then ([], 2) else if fineP total l then
  (if (sumF l).2 ≠ 0 then ([], (sumF l).2) else if (sumF l).1.2 < (sumF l).1.1 then ([], 51) else (bumpL (l.map (partF total)) ((orderL l total).take (leftP total l).toNat), 0))
 else ([], 1)
theorem lit24 (W : World) (X : S24) : Kd.C k24 (W.alloc (.cells #[.int .i64 X.f0, .int .i64 X.f1] 24)) (some ⟨W.heap.size, 0, none⟩) 1 [X] := by
 have hR : Kd.R k24 24 (W.alloc (.cells #[.int .i64 X.f0, .int .i64 X.f1] 24)) W.heap.size (fun _ => True) (.slice (some ⟨W.heap.size, 0, none⟩) 1 1) [X] :=
  ⟨fun _ _ => trivial, [.int .i64 X.f0, .int .i64 X.f1], World.ownsRow_lit (base := W.heap.size) (e := 24) (size := 2) W #[.int .i64 X.f0, .int .i64 X.f1] 1 (Nat.le_refl _) (by decide) rfl, Reps.c2 (k24_mkM _ _ _ X) (Reps.none _ _)⟩
 exact (Kd.R_reads' hR).2.2
theorem norm_nn {N D n m : Int} (h0 : 0 < D) (hN : 0 ≤ N) (h : normQ N D = some (n, m)) : ∃ g : Int, 0 < g ∧ N = n * g ∧ D = m * g ∧ 0 ≤ n ∧ 1 ≤ m := by
 have hs := norm_small h0 h
 unfold normQ at h
 simp only at h
 rw [if_neg (by omega : ¬ D < 0)] at h
 have hg := gcd_pos N D (by omega)
 obtain ⟨t, ht⟩ : (Int.gcd N D : Int) ∣ D := Int.gcd_dvd_right _ _
 obtain ⟨u, hu⟩ : (Int.gcd N D : Int) ∣ N := Int.gcd_dvd_left _ _
 have e0 : ∀ d u g : Int, g ≠ 0 → d = g * u → d.tdiv g = u := fun d u g hg h => by subst h; exact Int.mul_tdiv_cancel_left _ hg
 split at h
 ·obtain ⟨rfl, rfl⟩ := Prod.mk.inj (Option.some.inj h)
  rw [e0 N u _ (by omega) hu, e0 D t _ (by omega) ht] at *
  generalize (Int.gcd N D : Int) = g at hg ht hu
  refine ⟨g, by omega, by rw [hu, Int.mul_comm], by rw [ht, Int.mul_comm], ?_, hs.2.1⟩
  rcases Int.lt_or_le u 0 with hlt | hle
  ·have : g * u < 0 := Int.mul_neg_of_pos_of_neg (by omega) hlt
   omega
  ·exact hle
 ·exact absurd h (by simp)
theorem floor_add {T a b c d : Int} (hT : 0 ≤ T) (hb : 0 < b) (hd : 0 < d) : T * a / b + T * c / d ≤ T * (a * d + c * b) / (b * d) ∧ T * (a * d + c * b) / (b * d) ≤ T * a / b + T * c / d + 1 := by
 have x1 := Int.ediv_mul_le (T * a) (show b ≠ 0 by omega)
 have x2 := Int.lt_ediv_add_one_mul_self (T * a) hb
 have y1 := Int.ediv_mul_le (T * c) (show d ≠ 0 by omega)
 have y2 := Int.lt_ediv_add_one_mul_self (T * c) hd
 have hbd : 0 < b * d := Int.mul_pos hb hd
 generalize T * a / b = X at x1 x2 ⊢
 generalize T * c / d = Y at y1 y2 ⊢
 have e : T * (a * d + c * b) = T * a * d + T * c * b := by rw [Int.mul_add, ← Int.mul_assoc, ← Int.mul_assoc]
 have p1 := Int.mul_le_mul_of_nonneg_right x1 (show 0 ≤ d by omega)
 have p2 := Int.mul_lt_mul_of_pos_right x2 hd
 have p3 := Int.mul_le_mul_of_nonneg_right y1 (show 0 ≤ b by omega)
 have p4 := Int.mul_lt_mul_of_pos_right y2 hb
 have e1 : X * b * d = X * (b * d) := Int.mul_assoc _ _ _
 have e2 : (X + 1) * b * d = X * (b * d) + b * d := by rw [Int.mul_assoc, Int.add_mul, Int.one_mul]
 have e3 : Y * d * b = Y * (b * d) := by rw [Int.mul_assoc, Int.mul_comm d b]
 have e4 : (Y + 1) * d * b = Y * (b * d) + b * d := by rw [Int.mul_assoc, Int.mul_comm d b, Int.add_mul, Int.one_mul]
 have e5 : (X + Y) * (b * d) = X * (b * d) + Y * (b * d) := Int.add_mul _ _ _
 have e6 : (X + Y + 1 + 1) * (b * d) = X * (b * d) + Y * (b * d) + b * d + b * d := by rw [Int.add_mul, Int.add_mul, Int.add_mul, Int.one_mul]
 constructor
 ·rw [Int.le_ediv_iff_mul_le hbd, e5]
  omega
 ·have h : T * (a * d + c * b) / (b * d) < X + Y + 1 + 1 := by
   rw [Int.ediv_lt_iff_lt_mul hbd, e6]
   omega
  omega
theorem run_floor {total : Int} (hT : 0 ≤ total) : ∀ (l : List S24) (acc q : Int × Int), (∀ x ∈ l, 0 ≤ x.f0 ∧ x.f0 ≤ x.f1 ∧ 1 ≤ x.f1 ∧ x.f1 ≤ 1000000) → 0 ≤ acc.1 → 1 ≤ acc.2 → runQ l acc = (q, true) →
  0 ≤ q.1 ∧ 1 ≤ q.2 ∧ total * acc.1 / acc.2 + sumP total l ≤ total * q.1 / q.2 ∧ total * q.1 / q.2 ≤ total * acc.1 / acc.2 + sumP total l + l.length
 | [], acc, q, _, h0, h1, h => by
  obtain rfl := congrArg Prod.fst h
  simp only [sumP, List.length_nil]
  refine ⟨h0, h1, ?_, ?_⟩ <;> simp [runQ]
 | x :: l, acc, q, hx, h0, h1, h => by
  obtain ⟨x0, x1, x2, x3⟩ := hx x (by simp)
  simp only [runQ] at h
  cases hp : plusQ acc (x.f0, x.f1) with
  | none => rw [hp] at h; exact absurd (congrArg Prod.snd h) (by simp)
  | some q' =>
   rw [hp] at h
   obtain ⟨n, m⟩ := q'
   unfold plusQ at hp
   have hD : 0 < acc.2 * x.f1 := Int.mul_pos (by omega) (by omega)
   have hN : 0 ≤ acc.1 * x.f1 + x.f0 * acc.2 := Int.add_nonneg (Int.mul_nonneg h0 (by omega)) (Int.mul_nonneg x0 (by omega))
   obtain ⟨g, hg, eN, eD, hn, hm⟩ := norm_nn hD hN hp
   obtain ⟨r0, r1, r2, r3⟩ := run_floor hT l (n, m) q (fun y hy => hx y (List.mem_cons_of_mem _ hy)) hn hm h
   obtain ⟨f0, f1⟩ := floor_add (T := total) (a := acc.1) (b := acc.2) (c := x.f0) (d := x.f1) hT (by omega) (by omega)
   have e : total * (acc.1 * x.f1 + x.f0 * acc.2) / (acc.2 * x.f1) = total * n / m := by
    rw [eN, eD, ← Int.mul_assoc, Int.mul_ediv_mul_of_pos_left _ _ hg]
   rw [e] at f0 f1
   have ep : partF total x = total * x.f0 / x.f1 := by unfold partF; exact Int.tdiv_eq_ediv_of_nonneg (Int.mul_nonneg hT x0)
   simp only [sumP, List.length_cons]
   simp only at r2 r3
   rw [ep]
   refine ⟨r0, r1, by omega, by omega⟩
theorem sumF_ok {l : List S24} {q : Int × Int} (h : sumF l = (q, 0)) : runQ l (0, 1) = (q, true) := by
 unfold sumF at h
 split at h
 ·exact absurd (congrArg Prod.snd h) (by simp)
 ·split at h
  ·exact absurd (congrArg Prod.snd h) (by simp)
  ·revert h
   rcases runQ l (0, 1) with ⟨q', _ | _⟩
   ·intro h; exact absurd (congrArg Prod.snd h) (by simp)
   ·intro h; rw [show q' = q from congrArg Prod.fst h]
theorem run_small : ∀ (l : List S24) (acc q : Int × Int), (∀ x ∈ l, 0 ≤ x.f0 ∧ x.f0 ≤ x.f1 ∧ 1 ≤ x.f1 ∧ x.f1 ≤ 1000000) → smallQ acc → runQ l acc = (q, true) → smallQ q
 | [], acc, q, _, hs, h => by obtain rfl := congrArg Prod.fst h; exact hs
 | x :: l, acc, q, hx, hs, h => by
  obtain ⟨x0, x1, x2, x3⟩ := hx x (by simp)
  simp only [runQ] at h
  cases hp : plusQ acc (x.f0, x.f1) with
  | none => rw [hp] at h; exact absurd (congrArg Prod.snd h) (by simp)
  | some q' =>
   rw [hp] at h
   exact run_small l q' q (fun y hy => hx y (List.mem_cons_of_mem _ hy)) (plus_small hs ⟨by show x.f0.natAbs ≤ _; omega, x2, x3⟩ hp) h
theorem sum_good {l : List S24} {total q0 q1 : Int} (hP : Parts l total) (h : sumF l = ((q0, q1), 0)) : 0 ≤ q0 ∧ 1 ≤ q1 ∧ q1 ≤ 1000000 := by
 have hr := sumF_ok h
 have z := run_floor hP.1 l (0, 1) (q0, q1) hP.2.2 (by decide) (by decide) hr
 have y := run_small l (0, 1) (q0, q1) hP.2.2 (by unfold smallQ; decide) hr
 exact ⟨z.1, z.2.1, y.2.2⟩
theorem left_bd {l : List S24} {total q0 q1 : Int} (hP : Parts l total) (h : sumF l = ((q0, q1), 0)) : 0 ≤ leftP total l ∧ leftP total l ≤ l.length := by
 have hr := sumF_ok h
 obtain ⟨z0, z1, z2, z3⟩ := run_floor hP.1 l (0, 1) (q0, q1) hP.2.2 (by decide) (by decide) hr
 unfold leftP
 rw [h]
 simp only at z2 z3 ⊢
 have z0' : 0 ≤ q0 := z0
 rw [Int.tdiv_eq_ediv_of_nonneg (Int.mul_nonneg hP.1 z0')]
 simp only [Int.mul_zero, Int.zero_ediv, Int.zero_add] at z2 z3
 omega
theorem sumP_snoc (total : Int) (l : List S24) (x : S24) : sumP total (l ++ [x]) = sumP total l + partF total x := by
 induction l with
 | nil => simp [sumP]
 | cons y l ih => simp only [List.cons_append, sumP, ih]; omega
theorem part_bd {l : List S24} {total : Int} (hP : Parts l total) {x : S24} (hx : x ∈ l) : 0 ≤ partF total x ∧ partF total x ≤ 1000000000000000 ∧ 0 ≤ total * x.f0 ∧ total * x.f0 ≤ 1000000000000000 ∧ x.f1 ≠ 0 := by
 obtain ⟨p0, p1, p2, p3⟩ := hP.2.2 x hx
 obtain ⟨b0, b1, _, _, _⟩ := cut_bd hP.1 hP.2.1 p0 p1 p2 p3
 unfold partF
 have h0 : 0 ≤ (total * x.f0).tdiv x.f1 := Int.tdiv_nonneg b0 (by omega)
 have h1 : (total * x.f0).tdiv x.f1 ≤ total * x.f0 := by
  rw [Int.tdiv_eq_ediv_of_nonneg b0]
  exact Int.ediv_le_self _ b0
 exact ⟨h0, by omega, b0, by omega, by omega⟩
theorem sumP_bd {l : List S24} {total : Int} (hP : Parts l total) : ∀ m : List S24, (∀ x ∈ m, x ∈ l) → 0 ≤ sumP total m ∧ sumP total m ≤ m.length * 1000000000000000
 | [], _ => by simp [sumP]
 | x :: m, h => by
  have a := part_bd hP (h x (by simp))
  have b := sumP_bd hP m (fun y hy => h y (List.mem_cons_of_mem _ hy))
  simp only [sumP, List.length_cons]
  omega
theorem row_only {W : World} {base N : Nat} {v : Value} {xs : List Int} (h : Kd.R (Kd.int .i64) 3 W base (fun _ => True) v xs) (hn : ∃ b, v.ownBlock = some b ∧ N ≤ b) :
  ∃ g c, v = .slice (some ⟨g, 0, none⟩) xs.length c ∧ N ≤ g ∧ g < W.heap.size ∧ Kd.R (Kd.int .i64) 3 W base (fun k => k = g) (.slice (some ⟨g, 0, none⟩) xs.length c) xs := by
 have ho := Kd.own_of_R h
 obtain ⟨b, hb, hN⟩ := hn
 rcases ho.2 with ⟨rfl, h0⟩ | ⟨g, cap, cur, rfl, hg, hc, hn, hm, hs, ht⟩
 ·simp [Value.ownBlock] at hb
 ·have e : g = b := by simpa [Value.ownBlock] using hb
  subst e
  exact ⟨g, cap, rfl, hN, (Array.getElem?_eq_some_iff.1 hc).1, Kd.R_of_own ho (fun k hk => by simpa [Value.ownBlock] using hk.symm)⟩
theorem bump_snoc : ∀ (r o : List Int) (i : Int), bumpL o (r ++ [i]) = (bumpL o r).set i.toNat (wrap64 (rd (bumpL o r) i + 1))
 | [], o, i => rfl
 | j :: r, o, i => by simp only [List.cons_append, bumpL]; exact bump_snoc r _ i
theorem order_mem {l : List S24} {total i : Int} (h : i ∈ orderL l total) : 0 ≤ i ∧ i < l.length := by
 have hl : 0 < l.length := by
  rcases Nat.eq_zero_or_pos l.length with h0 | h0
  ·have e : l = [] := List.length_eq_zero_iff.1 h0
   subst e
   rw [orderL_nil] at h
   exact absurd h (by simp)
  ·exact h0
 unfold orderL at h
 obtain ⟨k, _, rfl⟩ := List.mem_map.1 h
 have := Nat.mod_lt k hl
 omega
theorem own_lt {W : World} {base g n c : Nat} {ok : Nat → Prop} {xs : List Int} (h : Kd.R (Kd.int .i64) 3 W base ok (.slice (some ⟨g, 0, none⟩) n c) xs) : g < W.heap.size := by
 have ho := Kd.own_of_R h
 rcases ho.2 with ⟨e, _⟩ | ⟨g', cap, cur, e, _, hc, _⟩
 ·injection e with e1
  cases e1
 ·injection e with e1
  injection e1 with e2
  injection e2 with e3
  subst e3
  exact (Array.getElem?_eq_some_iff.1 hc).1
theorem own_ge {W : World} {base : Nat} {ok : Nat → Prop} {v : Value} {xs : List Int} (h : Kd.R (Kd.int .i64) 3 W base ok v xs) : ∀ k, v.ownBlock = some k → base ≤ k := by
 intro k hk
 rcases (Kd.own_of_R h).2 with ⟨rfl, _⟩ | ⟨g', cap, cur, rfl, hg, _⟩
 ·simp [Value.ownBlock] at hk
 ·have e : g' = k := by simpa [Value.ownBlock] using hk
  omega
theorem row_not {W : World} {base g : Nat} {ok : Nat → Prop} {v : Value} {xs : List Int} (h : Kd.R (Kd.int .i64) 3 W base ok v xs) (hg : g < base) : Kd.R (Kd.int .i64) 3 W base (fun k => k ≠ g) v xs :=
 Kd.R_of_own (Kd.own_of_R h) (fun k hk => by have := own_ge h k hk; omega)
theorem range_snoc (k : Nat) : (List.range (k + 1)).map Int.ofNat = (List.range k).map Int.ofNat ++ [(k : Int)] := by
 rw [List.range_succ, List.map_append]
 rfl
def fillL (total : Int) (l : List S24) (k : Nat) : List Int := (l.take k).map (partF total) ++ List.replicate (l.length - k) 0
theorem fill_set {total : Int} {l r : List S24} {k : Nat} {x : S24} (hk : k < l.length) (h : l.drop k = x :: r) : (fillL total l k).set k (partF total x) = fillL total l (k + 1) := by
 unfold fillL
 rw [take_snoc_drop h, List.map_append, show l.length - k = (l.length - (k + 1)) + 1 by omega, List.replicate_succ, List.set_append, if_neg (by rw [List.length_map, List.length_take]; omega)]
 rw [List.length_map, List.length_take, show k - min k l.length = 0 by omega]
 simp
set_option maxRecDepth 100000 in
set_option maxHeartbeats 4000000 in
theorem split_any (A : Option Addr) (c : Nat) (l : List S24) (total : Int) (w : World) (hr : Kd.C k24 w A l.length l) (h20 : l.length ≤ 20 ∨ 41 < l.length) (r : List Int × Int) (hq : r = splitF total l) :
  Calls Tryz.prog 70 #[.int .i64 total, .slice A l.length c] w fun e w' => ∃ v, e = .returned (.tuple #[v, .int .i64 r.2]) ∧ Kd.R (Kd.int .i64) 3 w' w.heap.size (fun _ => True) v r.1 ∧ Below w.heap.size w w' := by
 have hm : l.length ≤ 9223372036854775807 := hr.2.1
 obtain ⟨wb, hwb⟩ : ∃ wb, (w.alloc (.cells #[.int .i64 total] 3)).alloc (.cells #[.slice A l.length c] 97) = wb := ⟨_, rfl⟩
 have HB0 : Aq (Below w.heap.size w wb) := ⟨by rw [← hwb]; exact bA_ (bA_ (Below.refl _ _) _) _⟩
 have hsz : wb.heap.size = w.heap.size + 2 := by rw [← hwb]; simp
 have hx2 : wb.cell? ⟨w.heap.size, 0, none⟩ = some (.int .i64 total) := by rw [← hwb]; exact (bC_ (bL_ (heap_alloc_new w _) _) 0).trans rfl
 have hx3 : wb.cell? ⟨w.heap.size + 1, 0, none⟩ = some (.slice A l.length c) := by rw [← hwb]; exact (bC_ (blk_at _ _ _ (by simp)) 0).trans rfl
 have HR : Aq (Kd.C k24 wb A l.length l) := ⟨Kd.C_below hr HB0.out⟩
 have HQ := Aq.mk hq
 clear hr hq
 by_cases h41 : 41 < l.length
 ·have hz : (41 : Int) < (l.length : Int) := by omega
  have HE : Aq (r = ([], 2)) := ⟨by rw [HQ.out]; unfold splitF; rw [if_pos h41]⟩
  clear HQ
  go_enter Tryz.func70, Tryz.ntmps70
  go_wp2
  clear hwb
  go_ret2
  exact ⟨_, by rw [HE.out]; rfl, by rw [HE.out]; exact Kd.R_nil _ _ _ _ _, HB0.out⟩
 ·have hz : ¬ (41 : Int) < (l.length : Int) := by omega
  have hl20 : l.length ≤ 20 := by omega
  have HE : Aq (r = if fineP total l then (if (sumF l).2 ≠ 0 then ([], (sumF l).2) else if (sumF l).1.2 < (sumF l).1.1 then ([], 51) else (bumpL (l.map (partF total)) ((orderL l total).take (leftP total l).toNat), 0)) else ([], 1)) := ⟨by rw [HQ.out]; unfold splitF; rw [if_neg h41]⟩
  clear HQ h41 h20
  go_enter Tryz.func70, Tryz.ntmps70
  go_wp2_with (first | (go_at_call 102; with_reducible refine (within_any _ _ _ _).mono ?_; rintro e w' ⟨rfl, rfl⟩))
  clear hwb
  have hy2 := Aq.mk hx2
  have hy3 := Aq.mk hx3
  clear hx2 hx3
  go_loopg [6, 26] l.length (fun gg s6 s26 wr => ∃ (kk : Nat) (fb : Bool), kk ≤ l.length ∧ l.length - kk ≤ gg ∧ s6 = .bool fb ∧ s26 = .int .i64 kk ∧ Aq (fb = (inB total 0 1000000000 && (l.take kk).all okP)) ∧ Aq (Below wb.heap.size wb wr))
  case atStart => exact ⟨0, _, Nat.zero_le _, by omega, rfl, rfl, ⟨by simp⟩, ⟨Below.refl _ _⟩⟩
  case round =>
   obtain ⟨kk, fb, hkk, hg, rfl, rfl, HF, HB⟩ := hrel
   have hx2 : wr.cell? ⟨w.heap.size, 0, none⟩ = some (.int .i64 total) := (HB.out.cell (World.block_lt_of_cell? wb _ hy2.out)).trans hy2.out
   have hx3 : wr.cell? ⟨w.heap.size + 1, 0, none⟩ = some (.slice A l.length c) := (HB.out.cell (World.block_lt_of_cell? wb _ hy3.out)).trans hy3.out
   by_cases hlt : kk < l.length
   ·have hltz : (kk : Int) < (l.length : Int) := by omega
    have h0 : (0 : Int) ≤ (kk : Int) := by omega
    obtain ⟨ad, e_, hz0, hz1⟩ := at_T24 HR.out (kk : Int) h0 hltz
    cases e_
    obtain ⟨hmem, HD⟩ := rdT24_drop l kk hlt
    generalize rd_T24 l (kk : Int) = X at hz0 hz1 hmem HD
    replace hz0 := (HB.out.cell (World.block_lt_of_cell? wb _ hz0)).trans hz0
    replace hz1 := (HB.out.cell (World.block_lt_of_cell? wb _ hz1)).trans hz1
    simp only [Int.toNat_natCast] at hz0 hz1
    have HT : Aq ((l.take (kk + 1)).all okP = ((l.take kk).all okP && okP X)) := ⟨by rw [take_snoc_drop HD, List.all_append]; simp⟩
    clear HD hmem
    have HX := Aq.mk (heap_alloc_new wr (.cells #[.int .i64 X.f0, .int .i64 X.f1] 24))
    have HB2 := Aq.mk (bA_ HB.out (.cells #[.int .i64 X.f0, .int .i64 X.f1] 24))
    cases fb with
    | false =>
     have HF2 : Aq (false = (inB total 0 1000000000 && (l.take (kk + 1)).all okP)) := ⟨by rw [HT.out, ← Bool.and_assoc, ← HF.out]; rfl⟩
     clear HF HT HX
     go_wp2
     go_roundg (l.length - (kk + 1))
     case measure => omega
     case rel => exact ⟨kk + 1, false, by omega, by omega, rfl, by go_num, HF2, HB2⟩
    | true =>
     have HF2 : Aq (okP X = (inB total 0 1000000000 && (l.take (kk + 1)).all okP)) := ⟨by rw [HT.out, ← Bool.and_assoc, ← HF.out]; rfl⟩
     have HV := Aq.mk (valid_any (some ⟨wr.heap.size + 1, 0, none⟩) 1 [X] ((wr.alloc (.cells #[.int .i64 X.f0, .int .i64 X.f1] 24)).alloc (.cells #[.int .i64 X.f0, .int .i64 X.f1] 24)) (by have z := lit24 (wr.alloc (.cells #[.int .i64 X.f0, .int .i64 X.f1] 24)) X; simpa using z))
     have HO : Aq (okP X = (!([X].any badF) && decide (0 ≤ X.f0) && decide (X.f0 ≤ X.f1))) := ⟨by unfold okP; simp⟩
     clear HF HT
     rw [show [X].length = 1 from rfl] at HV
     generalize [X].any badF = bd at HV HO
     cases bd with
     | true =>
      have HF3 : Aq (false = (inB total 0 1000000000 && (l.take (kk + 1)).all okP)) := ⟨by rw [← HF2.out, HO.out]; rfl⟩
      clear HF2 HO HX
      go_wp2_with (first | (go_at_call 103; go_must ((with_reducible refine HV.out.mono ?_); rintro e w2 ⟨rfl, hb⟩; have HB3 := Aq.mk (bS_ (bA_ HB2.out (.cells #[.int .i64 X.f0, .int .i64 X.f1] 24)) hb); clear hb HV HB2)))
      go_roundg (l.length - (kk + 1))
      case measure => omega
      case rel => exact ⟨kk + 1, false, by omega, by omega, rfl, by go_num, HF3, HB3⟩
     | false =>
      cases hc0 : decide (0 ≤ X.f0) with
      | false =>
       have HF3 : Aq (false = (inB total 0 1000000000 && (l.take (kk + 1)).all okP)) := ⟨by rw [← HF2.out, HO.out, hc0]; rfl⟩
       clear HF2 HO
       go_wp2_with (first | (go_at_call 103; go_must ((with_reducible refine HV.out.mono ?_); rintro e w2 ⟨rfl, hb⟩; have HB3 := Aq.mk (bS_ (bA_ HB2.out (.cells #[.int .i64 X.f0, .int .i64 X.f1] 24)) hb); have HX2 := Aq.mk (bB_ (bL_ HX.out (.cells #[.int .i64 X.f0, .int .i64 X.f1] 24)) hb); have k0 : w2.cell? ⟨wr.heap.size, 0, none⟩ = some (.int .i64 X.f0) := (bC_ HX2.out 0).trans rfl; have k1 : w2.cell? ⟨wr.heap.size, 1, none⟩ = some (.int .i64 X.f1) := (bC_ HX2.out 1).trans rfl; clear hb HV HB2)))
       go_roundg (l.length - (kk + 1))
       case measure => omega
       case rel => exact ⟨kk + 1, false, by omega, by omega, rfl, by go_num, HF3, HB3⟩
      | true =>
       cases hc1 : decide (X.f0 ≤ X.f1) with
       | false =>
        have HF3 : Aq (false = (inB total 0 1000000000 && (l.take (kk + 1)).all okP)) := ⟨by rw [← HF2.out, HO.out, hc0, hc1]; rfl⟩
        clear HF2 HO
        go_wp2_with (first | (go_at_call 103; go_must ((with_reducible refine HV.out.mono ?_); rintro e w2 ⟨rfl, hb⟩; have HB3 := Aq.mk (bS_ (bA_ HB2.out (.cells #[.int .i64 X.f0, .int .i64 X.f1] 24)) hb); have HX2 := Aq.mk (bB_ (bL_ HX.out (.cells #[.int .i64 X.f0, .int .i64 X.f1] 24)) hb); have k0 : w2.cell? ⟨wr.heap.size, 0, none⟩ = some (.int .i64 X.f0) := (bC_ HX2.out 0).trans rfl; have k1 : w2.cell? ⟨wr.heap.size, 1, none⟩ = some (.int .i64 X.f1) := (bC_ HX2.out 1).trans rfl; clear hb HV HB2)))
        go_roundg (l.length - (kk + 1))
        case measure => omega
        case rel => exact ⟨kk + 1, false, by omega, by omega, rfl, by go_num, HF3, HB3⟩
       | true =>
        have HF3 : Aq (true = (inB total 0 1000000000 && (l.take (kk + 1)).all okP)) := ⟨by rw [← HF2.out, HO.out, hc0, hc1]; rfl⟩
        clear HF2 HO
        go_wp2_with (first | (go_at_call 103; go_must ((with_reducible refine HV.out.mono ?_); rintro e w2 ⟨rfl, hb⟩; have HB3 := Aq.mk (bS_ (bA_ HB2.out (.cells #[.int .i64 X.f0, .int .i64 X.f1] 24)) hb); have HX2 := Aq.mk (bB_ (bL_ HX.out (.cells #[.int .i64 X.f0, .int .i64 X.f1] 24)) hb); have k0 : w2.cell? ⟨wr.heap.size, 0, none⟩ = some (.int .i64 X.f0) := (bC_ HX2.out 0).trans rfl; have k1 : w2.cell? ⟨wr.heap.size, 1, none⟩ = some (.int .i64 X.f1) := (bC_ HX2.out 1).trans rfl; clear hb HV HB2)))
        go_roundg (l.length - (kk + 1))
        case measure => omega
        case rel => exact ⟨kk + 1, true, by omega, by omega, rfl, by go_num, HF3, HB3⟩
   ·have hltz : ¬ (kk : Int) < (l.length : Int) := by omega
    have HF2 : Aq (fb = fineP total l) := ⟨by rw [HF.out, List.take_of_length_le (by omega)]; rfl⟩
    clear HF
    cases fb with
    | false =>
     have HE2 : Aq (r = ([], 1)) := ⟨by rw [HE.out, ← HF2.out]; rfl⟩
     go_wp2
     go_ret2
     exact ⟨_, by rw [HE2.out]; rfl, by rw [HE2.out]; exact Kd.R_nil _ _ _ _ _, HB0.out.trans (HB.out.mono (by omega))⟩
    | true =>
     have HE2 : Aq (r = if (sumF l).2 ≠ 0 then ([], (sumF l).2) else if (sumF l).1.2 < (sumF l).1.1 then ([], 51) else (bumpL (l.map (partF total)) ((orderL l total).take (leftP total l).toNat), 0)) := ⟨by rw [HE.out, ← HF2.out]; rfl⟩
     have hP : Parts l total := by
      have z := HF2.out.symm
      unfold fineP at z
      rw [Bool.and_eq_true, inB_iff, List.all_eq_true] at z
      refine ⟨z.1.1, z.1.2, fun x hx => ?_⟩
      have y := z.2 x hx
      unfold okP at y
      rw [Bool.and_eq_true, Bool.and_eq_true, decide_eq_true_eq, decide_eq_true_eq] at y
      have ys := good_small (by simpa using y.1.1 : badF x = false)
      exact ⟨y.1.2, y.2, ys.2.1, ys.2.2⟩
     have HP := Aq.mk hP
     clear hP HF2
     have HLP : Aq (leftP total l = (total * (sumF l).1.1).tdiv (sumF l).1.2 - sumP total l) := ⟨rfl⟩
     have HS := Aq.mk (sum_any A c l wr (Kd.C_below HR.out HB.out))
     rcases hq : sumF l with ⟨⟨q0, q1⟩, e0⟩
     have HSQ := Aq.mk hq
     rw [hq] at HS HE2 HLP
     clear hq HE
     by_cases he0 : e0 = 0
     ·have hb0 : (e0 != 0) = false := bne_eq_false_iff_eq.mpr he0
      have HE3 : Aq (r = if q1 < q0 then ([], 51) else (bumpL (l.map (partF total)) ((orderL l total).take (leftP total l).toNat), 0)) := ⟨by rw [HE2.out, if_neg (by simp [he0])]⟩
      have HE0 : Aq (e0 = 0) := ⟨he0⟩
      clear he0 HE2
      by_cases hlq : q1 < q0
      ·have HE4 : Aq (r = ([], 51)) := ⟨by rw [HE3.out, if_pos hlq]⟩
       clear HE3
       go_wp2_with (first | (go_at_call 104; go_must ((with_reducible refine HS.out.mono ?_); rintro e w2 ⟨rfl, hb⟩; have HB2 := Aq.mk (bS_ HB.out hb); clear hb HS HB)))
       go_ret2
       exact ⟨_, by rw [HE4.out]; rfl, by rw [HE4.out]; exact Kd.R_nil _ _ _ _ _, HB0.out.trans ((bA_ HB2.out _).mono (by omega))⟩
      ·have HE4 : Aq (r = (bumpL (l.map (partF total)) ((orderL l total).take (leftP total l).toNat), 0)) := ⟨by rw [HE3.out, if_neg hlq]⟩
       clear HE3
       have HSQ0 : Aq (sumF l = ((q0, q1), 0)) := ⟨by rw [HSQ.out, HE0.out]⟩
       clear HSQ
       obtain ⟨hq0, hq1, hq2⟩ := sum_good HP.out HSQ0.out
       have HLB := Aq.mk (left_bd HP.out HSQ0.out)
       have ht0 := HP.out.1
       have ht1 := HP.out.2.1
       have hm0 : 0 ≤ total * q0 := Int.mul_nonneg ht0 hq0
       have hm1 : total * q0 ≤ 1000000000 * 1000000 := Int.mul_le_mul ht1 (by omega) hq0 (by omega)
       have hw1 : IntKind.i64.wrap (total * q0) = total * q0 := IntWalk.i64_in _ (by omega)
       have hd1 : (q1 == 0) = false := beq_eq_false_iff_ne.mpr (by omega)
       have hl0 : 0 ≤ (total * q0).tdiv q1 := Int.tdiv_nonneg hm0 (by omega)
       have hl1 : (total * q0).tdiv q1 ≤ total * q0 := by rw [Int.tdiv_eq_ediv_of_nonneg hm0]; exact Int.ediv_le_self _ hm0
       obtain ⟨L0, hL0⟩ : ∃ L0, IntKind.i64.wrap ((total * q0).tdiv q1) = L0 := ⟨_, rfl⟩
       have HL0 : Aq (L0 = (total * q0).tdiv q1) := ⟨by rw [← hL0]; exact IntWalk.i64_in _ (by omega)⟩
       have hL1 : 0 ≤ L0 ∧ L0 ≤ 1000000000000000 := by rw [HL0.out]; omega
       obtain ⟨hL1, hL2⟩ := hL1
       clear hm0 hm1 hl0 hl1
       go_wp2_with (first | (go_at_call 104; go_must ((with_reducible refine HS.out.mono ?_); rintro e w2 ⟨rfl, hb⟩; have HB2 := Aq.mk (bS_ HB.out hb); have hx2 : w2.cell? ⟨w.heap.size, 0, none⟩ = some (.int .i64 total) := (HB2.out.cell (World.block_lt_of_cell? wb _ hy2.out)).trans hy2.out; have hx3 : w2.cell? ⟨w.heap.size + 1, 0, none⟩ = some (.slice A l.length c) := (HB2.out.cell (World.block_lt_of_cell? wb _ hy3.out)).trans hy3.out; have hlt2 : w.heap.size < w2.heap.size := World.block_lt_of_cell? w2 _ hx2; have hlt3 : w.heap.size + 1 < w2.heap.size := World.block_lt_of_cell? w2 _ hx3; clear hb HS HB)) | ((with_reducible refine gD_ (N := 75) rfl ?_); go_must (refine Kd.R_make (Kd.int .i64) _ 3 rfl (N := 75) rfl 35 _ _ rfl (l.length : Int) rfl rfl Tryz.underlying35 (.int .i64 0) 8 info3 rfl (by decide) (by omega) 0 (ok := fun _ => True) (okp := fun _ => True) rfl (fun _ hk => hk) trivial (Int.natCast_nonneg _) (by rw [Int.toNat_natCast]; omega) (Below.refl _ _) (Nat.le_refl _) ?_; intro v3 w3 ho hb hg_ hnew_; clear hg_; obtain ⟨go, co, hv3, hgo, hgl, hrow⟩ := row_only ho hnew_; rw [List.length_replicate, Int.toNat_natCast] at hv3 hrow; subst hv3; clear ho hnew_; have HO := Aq.mk hrow; have GO := Aq.mk hgo; have HB3 := Aq.mk (bS_ (bA_ HB2.out _) hb); have hx2 : w3.cell? ⟨w.heap.size, 0, none⟩ = some (.int .i64 total) := (HB3.out.cell (World.block_lt_of_cell? wb _ hy2.out)).trans hy2.out; have hx3 : w3.cell? ⟨w.heap.size + 1, 0, none⟩ = some (.slice A l.length c) := (HB3.out.cell (World.block_lt_of_cell? wb _ hy3.out)).trans hy3.out; clear hb hrow hgo)))
       have hs2 : wb.heap.size ≤ (w2.alloc (.cells #[.int .i64 q0, .int .i64 q1] 24)).heap.size := by have := HB2.out.size; simp; omega
       have HO2 : Aq (Kd.R (Kd.int .i64) 3 w3 wb.heap.size (fun k => k = go) (.slice (some ⟨go, 0, none⟩) l.length co) (fillL total l 0)) := ⟨by have z := Kd.R_lower HO.out hs2; unfold fillL; simpa using z⟩
       have GB : Aq (wb.heap.size ≤ go) := ⟨Nat.le_trans hs2 GO.out⟩
       clear HO GO HB2 hgl hs2 hx2 hx3 hlt2 hlt3
       go_loopg [11, 13, 78] l.length (fun gg s11 s13 s78 wr => ∃ (kk : Nat) (L : Int), kk ≤ l.length ∧ l.length - kk ≤ gg ∧ -100000000000000000 ≤ L ∧ L ≤ 1000000000000000 ∧ s11 = .int .i64 L ∧ s78 = .int .i64 kk ∧ Aq (L = L0 - sumP total (l.take kk)) ∧ Aq (Kd.R (Kd.int .i64) 3 wr wb.heap.size (fun k => k ≠ go) s13 ((List.range kk).map Int.ofNat)) ∧ Aq (Kd.R (Kd.int .i64) 3 wr wb.heap.size (fun k => k = go) (.slice (some ⟨go, 0, none⟩) l.length co) (fillL total l kk)) ∧ Aq (Below wb.heap.size wb wr))
       case atStart => exact ⟨0, L0, Nat.zero_le _, by omega, by omega, by omega, rfl, rfl, ⟨by simp [sumP]⟩, ⟨Kd.R_nil _ _ _ _ _⟩, HO2, HB3⟩
       case round =>
        clear HO2 HB3
        obtain ⟨kk, L, hkk, hg, hLa, hLb, rfl, rfl, HLS, HOR, HO, HB⟩ := hrel
        have hx2 : wr.cell? ⟨w.heap.size, 0, none⟩ = some (.int .i64 total) := (HB.out.cell (World.block_lt_of_cell? wb _ hy2.out)).trans hy2.out
        have hx3 : wr.cell? ⟨w.heap.size + 1, 0, none⟩ = some (.slice A l.length c) := (HB.out.cell (World.block_lt_of_cell? wb _ hy3.out)).trans hy3.out
        have hlt2 : w.heap.size < wr.heap.size := World.block_lt_of_cell? wr _ hx2
        have hlt3 : w.heap.size + 1 < wr.heap.size := World.block_lt_of_cell? wr _ hx3
        by_cases hlt : kk < l.length
        ·have hltz : (kk : Int) < (l.length : Int) := by omega
         have h0 : (0 : Int) ≤ (kk : Int) := by omega
         obtain ⟨ad, e_, hz0, hz1⟩ := at_T24 HR.out (kk : Int) h0 hltz
         cases e_
         obtain ⟨hmem, HD⟩ := rdT24_drop l kk hlt
         generalize rd_T24 l (kk : Int) = X at hz0 hz1 hmem HD
         replace hz0 := (HB.out.cell (World.block_lt_of_cell? wb _ hz0)).trans hz0
         replace hz1 := (HB.out.cell (World.block_lt_of_cell? wb _ hz1)).trans hz1
         simp only [Int.toNat_natCast] at hz0 hz1
         obtain ⟨pb0, pb1, pb2, pb3, pb4⟩ := part_bd HP.out hmem
         have hw2 : IntKind.i64.wrap (total * X.f0) = total * X.f0 := IntWalk.i64_in _ (by omega)
         have hd2 : (X.f1 == 0) = false := beq_eq_false_iff_ne.mpr pb4
         obtain ⟨p, hp⟩ : ∃ p, IntKind.i64.wrap ((total * X.f0).tdiv X.f1) = p := ⟨_, rfl⟩
         have HPp : Aq (p = partF total X) := ⟨by rw [← hp]; exact IntWalk.i64_in _ (by unfold partF at pb0 pb1; omega)⟩
         have hp0 : 0 ≤ p := by rw [HPp.out]; exact pb0
         have hp1 : p ≤ 1000000000000000 := by rw [HPp.out]; exact pb1
         have HLS2 : Aq (L - p = L0 - sumP total (l.take (kk + 1))) := ⟨by rw [HLS.out, HPp.out, take_snoc_drop HD, sumP_snoc]; omega⟩
         have HSB : Aq (-100000000000000000 ≤ L - p) := ⟨by
          rw [HLS2.out]
          have z := (sumP_bd HP.out (l.take (kk + 1)) (fun x hx => List.mem_of_mem_take hx)).2
          rw [List.length_take] at z
          omega⟩
         have HFS : Aq ((fillL total l kk).set kk p = fillL total l (kk + 1)) := ⟨by rw [HPp.out]; exact fill_set hlt HD⟩
         have HRS := Aq.mk (range_snoc kk)
         clear HD hmem pb0 pb1 pb2 pb3 HLS HPp
         obtain ⟨hy, hf⟩ := Kd.R_celln 0 HO.out (kk : Int) h0 hltz
         simp only [Int.toNat_natCast] at hy hf
         have hgo : go < wr.heap.size := World.block_lt_of_cell? wr _ hy
         have HOR2 : Aq (Kd.R (Kd.int .i64) 3 ((wr.setCell ⟨go, kk, none⟩ (.int .i64 p)).alloc (.cells #[.int .i64 X.f0, .int .i64 X.f1] 24)) wb.heap.size (fun k => k ≠ go) u13 ((List.range kk).map Int.ofNat)) := ⟨Kd.R_alloc (Kd.R_far (p := ⟨go, kk, none⟩) HOR.out (fun k hk => hk) _) _⟩
         have HO2 : Aq (Kd.R (Kd.int .i64) 3 ((wr.setCell ⟨go, kk, none⟩ (.int .i64 p)).alloc (.cells #[.int .i64 X.f0, .int .i64 X.f1] 24)) wb.heap.size (fun k => k = go) (.slice (some ⟨go, 0, none⟩) l.length co) (fillL total l (kk + 1))) := ⟨by have z := Kd.R_putn HO.out (kk : Int) p; rw [Int.toNat_natCast, HFS.out] at z; exact Kd.R_alloc z _⟩
         have HB2 : Aq (Below wb.heap.size wb ((wr.setCell ⟨go, kk, none⟩ (.int .i64 p)).alloc (.cells #[.int .i64 X.f0, .int .i64 X.f1] 24))) := ⟨bA_ (bT_ HB.out GB.out) _⟩
         have HNE : Aq (∀ k, u13.ownBlock = some k → k ≠ go) := ⟨HOR.out.1⟩
         clear HO HOR HB HFS
         go_wp2_with (first | ((with_reducible refine gate_builtin (b := .append) (xs := #[.tmp 99, .tmp 101]) rfl ?_); at_builtin; go_must (refine Kd.R_append (Kd.int .i64) (w0 := wb) wb.heap.size rfl (.tmp 99) (.tmp 101) 35 3 (.int .i64 0) 8 rfl Tryz.underlying35 info3 rfl (by decide) (by omega) u13 ((List.range kk).map Int.ofNat) (kk : Int) [.int .i64 (kk : Int)] (fun k => k ≠ go) (fun _ => False) rfl (by first | (go_simp; done) | (go_simp; rfl)) ?aP (fun _ hk => hk.elim) ?aF HOR2.out HB2.out HB2.out.size ?aL ?_; (case aP => exact rfl); (case aF => exact (fun k hk e => by subst e; simp at hk; omega)); (case aL => simp; omega); intro v4 w4 ho hb hg2 hat; have n0_ := Aq.mk ho; have n1_ := Aq.mk hb; have n2_ := Aq.mk (Kd.R_step HO2.out (fun k hk hlt => by subst hk; exact hg2.block k hlt (fun e => HNE.out k e.symm rfl))); clear HOR2 HO2 HB2 ho hb hg2 hat)))
         rw [← HRS.out] at n0_
         go_roundg (l.length - (kk + 1))
         case measure => omega
         case rel => exact ⟨kk + 1, L - p, by omega, by omega, HSB.out, by omega, rfl, by go_num, HLS2, n0_, n2_, n1_⟩
        ·have hltz : ¬ (kk : Int) < (l.length : Int) := by omega
         obtain rfl : kk = l.length := by omega
         have hLe : Aq (L = leftP total l) := ⟨by rw [HLS.out, List.take_length, HL0.out, HLP.out]⟩
         have hB0 : 0 ≤ L ∧ L ≤ l.length := by rw [hLe.out]; exact HLB.out
         obtain ⟨hB0, hB1⟩ := hB0
         obtain ⟨ln, hln⟩ : ∃ ln : Nat, (ln : Int) = L := ⟨L.toNat, Int.toNat_of_nonneg hB0⟩
         subst hln
         have HOut : Aq (fillL total l l.length = bumpL (l.map (partF total)) ((orderL l total).take 0)) := ⟨by unfold fillL; rw [List.take_length, Nat.sub_self]; simp [bumpL]⟩
         have hgo : go < wr.heap.size := own_lt HO.out
         obtain ⟨W3, hW3⟩ : ∃ W3, wr.alloc (.cells #[.func (.func 105) #[] #[.pointer (some ⟨w.heap.size, 0, none⟩), .pointer (some ⟨w.heap.size + 1, 0, none⟩)]] 136) = W3 := ⟨_, rfl⟩
         have hW3s : wr.heap.size < W3.heap.size := by rw [← hW3]; simp
         have hB3 : Below wb.heap.size wb W3 := by rw [← hW3]; exact bA_ HB.out _
         have hBr : Below wr.heap.size wr W3 := by rw [← hW3]; exact bA_ (Below.refl _ _) _
         have HSo := Aq.mk (sortedBy_any A c l total w.heap.size (w.heap.size + 1) wr.heap.size wb W3 u13 HR.out hB3 HP.out ((hBr.cell (p := ⟨w.heap.size, 0, none⟩) hlt2).trans hx2) ((hBr.cell (p := ⟨w.heap.size + 1, 0, none⟩) hlt3).trans hx3) (by rw [← hW3]; exact (bC_ (heap_alloc_new wr _) 0).trans rfl)
          (Kd.R_mono (Kd.R_below HOR.out hBr) (fun _ _ => trivial)) hl20)
         have HO3 := Aq.mk (Kd.R_below HO.out hBr)
         have HB3 := Aq.mk hB3
         clear HOR HO HB hBr hx2 hx3 HLS hB3
         have hmf : ∀ (fn : Fn) (first cap : Array Value) (w : World), (Instr.makeFunc fn first cap).run Tryz.prog w = .ok (.func fn first cap) w := fun _ _ _ _ => rfl
         go_wp2_with (first | (go_at_call 106; go_must ((with_reducible refine HSo.out.mono ?_); rintro e w4 ⟨vo, rfl, hRo, hbo⟩; obtain ⟨Ak, ck, hvo, hck, hkr⟩ := Kd.R_reads hRo; rw [orderL_len] at hvo hck; subst hvo; have HKR := Aq.mk (row_not hRo (Nat.lt_trans hgo hW3s)); have HB4 := Aq.mk (bS_ HB3.out hbo); have HO4 := Aq.mk (Kd.R_below HO3.out hbo); have hlc : ln ≤ ck := Nat.le_trans (Int.ofNat_le.1 hB1) hck; have hlci : (ln : Int) ≤ (ck : Int) := Int.ofNat_le.2 hlc; clear hRo hbo hkr HSo HB3 HO3 hW3)))
         go_loopg [112] ln (fun gg s112 wq => ∃ (kj : Nat), kj ≤ ln ∧ ln - kj ≤ gg ∧ s112 = .int .i64 kj ∧ Aq (Kd.R (Kd.int .i64) 3 wq wb.heap.size (fun k => k = go) (.slice (some ⟨go, 0, none⟩) l.length co) (bumpL (l.map (partF total)) ((orderL l total).take kj))) ∧ Aq (Kd.R (Kd.int .i64) 3 wq W3.heap.size (fun k => k ≠ go) (.slice Ak l.length ck) (orderL l total)) ∧ Aq (Below wb.heap.size wb wq))
         case atStart => exact ⟨0, Nat.zero_le _, by omega, rfl, ⟨by rw [← HOut.out]; exact HO4.out⟩, HKR, HB4⟩
         case round =>
          clear HO4 HKR HB4
          obtain ⟨kj, hkj, hg3, rfl, HO, HKR, HB⟩ := hrel
          by_cases hl3 : kj < ln
          ·have hl3z : (kj : Int) < (ln : Int) := by omega
           have hj0 : (0 : Int) ≤ (kj : Int) := by omega
           have hjl : (kj : Int) < (l.length : Int) := by omega
           obtain ⟨aj, e_, hj⟩ := at_int (Kd.R_reads' HKR.out).2.2 (kj : Int) hj0 (by rw [orderL_len]; exact hjl)
           cases e_
           obtain ⟨hmem, HD⟩ := rd_drop (orderL l total) kj (by rw [orderL_len]; omega)
           generalize rd (orderL l total) (kj : Int) = io at hj hmem HD
           simp only [Int.toNat_natCast] at hj
           obtain ⟨hi0, hi1⟩ := order_mem hmem
           obtain ⟨hy, hf⟩ := Kd.R_celln 0 HO.out io hi0 hi1
           obtain ⟨z, hz⟩ : ∃ z, IntKind.i64.wrap (rdOf 0 (bumpL (l.map (partF total)) ((orderL l total).take kj)) io + 1) = z := ⟨_, rfl⟩
           have HBS : Aq ((bumpL (l.map (partF total)) ((orderL l total).take kj)).set io.toNat z = bumpL (l.map (partF total)) ((orderL l total).take (kj + 1))) := ⟨by rw [take_snoc_drop HD, bump_snoc, ← hz, i64_w]; rfl⟩
           have HOn : Aq (Kd.R (Kd.int .i64) 3 (wr.setCell ⟨go, io.toNat, none⟩ (.int .i64 z)) wb.heap.size (fun k => k = go) (.slice (some ⟨go, 0, none⟩) l.length co) (bumpL (l.map (partF total)) ((orderL l total).take (kj + 1)))) := ⟨by have y := Kd.R_putn HO.out io z; rw [HBS.out] at y; exact y⟩
           have HKn : Aq (Kd.R (Kd.int .i64) 3 (wr.setCell ⟨go, io.toNat, none⟩ (.int .i64 z)) W3.heap.size (fun k => k ≠ go) (.slice (some aj) l.length ck) (orderL l total)) := ⟨Kd.R_far (p := ⟨go, io.toNat, none⟩) HKR.out (fun k hk => hk) _⟩
           have HBn : Aq (Below wb.heap.size wb (wr.setCell ⟨go, io.toNat, none⟩ (.int .i64 z))) := ⟨bT_ HB.out GB.out⟩
           clear HO HKR HB HBS HD hmem
           generalize rdOf 0 (bumpL (l.map (partF total)) ((orderL l total).take kj)) io = xo at hy hz
           go_wp2
           go_roundg (ln - (kj + 1))
           case measure => omega
           case rel => exact ⟨kj + 1, by omega, by omega, by go_num, HOn, HKn, HBn⟩
          ·have hl3z : ¬ (kj : Int) < (ln : Int) := by omega
           obtain rfl : kj = ln := by omega
           have HE5 : Aq (r = (bumpL (l.map (partF total)) ((orderL l total).take kj), 0)) := ⟨by rw [HE4.out, ← hLe.out, Int.toNat_natCast]⟩
           go_wp2
           go_ret2
           exact ⟨_, by rw [HE5.out]; rfl, by rw [HE5.out]; exact Kd.R_mono (Kd.R_lower HO.out (by omega)) (fun _ _ => trivial), HB0.out.trans (HB.out.mono (by omega))⟩
     ·have hb0 : (e0 != 0) = true := bne_iff_ne.mpr he0
      have HE3 : Aq (r = ([], e0)) := ⟨by rw [HE2.out, if_pos he0]⟩
      clear he0 HE2
      go_wp2_with (first | (go_at_call 104; go_must ((with_reducible refine HS.out.mono ?_); rintro e w2 ⟨rfl, hb⟩; have HB2 := Aq.mk (bS_ HB.out hb); clear hb HS HB)))
      go_ret2
      exact ⟨_, by rw [HE3.out]; rfl, by rw [HE3.out]; exact Kd.R_nil _ _ _ _ _, HB0.out.trans ((bA_ HB2.out _).mono (by omega))⟩
end
section
open Go.Shelf
open Go.Maps Go.Proofs
theorem plainElem_bool_inv {P : Program} {e : TypeId} (he : P.underlying e = some .bool) {v : Value} {z : DataW Unit × List MemPlace} (h : plainElem P e v = some z) : ∃ a, v = .bool a ∧ z = (.lit (.bool a), []) := by
 unfold plainElem at h
 rw [he] at h
 cases v <;> simp at h
 obtain rfl := h
 exact ⟨_, rfl, rfl⟩
def RepB (D : MD) (s : Int → Bool) : Prop := IsMap D ∧ ∀ p : Int, D.atKey (.int .i64 p) (.lit (.bool false)) = .lit (.bool (s p))
theorem repB_nil : RepB (.map []) (fun _ => false) := ⟨⟨_, rfl⟩, fun _ => rfl⟩
theorem repB_put {D : MD} {s : Int → Bool} (h : RepB D s) (p : Int) : RepB (D.put (.int .i64 p) (.lit (.bool true))) (fun q => q == p || s q) := by
 refine ⟨isMap_put h.1 _ _, fun q => ?_⟩
 by_cases e : q = p
 ·subst e
  rw [atKey_put_same h.1 (show WideAt.IsKeyLit (.int .i64 q) from trivial)]
  simp
 ·rw [atKey_put_other (lit_ne e), h.2 q]
  simp [e]
theorem zero4 (w : World) : (zeroValue 4).run Tryz.prog w = .ok (.bool false) w := Tryz.zeroValue4 w
theorem ownB_below {w w1 : World} {b n : Nat} {D : MD} (h : w.ownsMap Tryz.prog 3 (plainElem Tryz.prog 4) b n D) (hb : Below w.heap.size w w1) : w1.ownsMap Tryz.prog 3 (plainElem Tryz.prog 4) b n D := by
 have hlt := h.lt
 obtain ⟨es, clock, hh, F, hs, hD⟩ := h
 exact ⟨es, clock, (hb.block b hlt).trans hh, F, hs, hD⟩
theorem ownB_grown {w w1 : World} {b n : Nat} {row : Option Nat} {D : MD} (h : w.ownsMap Tryz.prog 3 (plainElem Tryz.prog 4) b n D) (hg : w.grownBy w1 row) (hr : row ≠ some b) : w1.ownsMap Tryz.prog 3 (plainElem Tryz.prog 4) b n D := by
 have hlt := h.lt
 obtain ⟨es, clock, hh, F, hs, hD⟩ := h
 exact ⟨es, clock, (hg.block b hlt (fun e => hr e.symm)).trans hh, F, hs, hD⟩
theorem look_set {w : World} {b n : Nat} {D : MD} {s : Int → Bool} (h : w.ownsMap Tryz.prog 3 (plainElem Tryz.prog 4) b n D) (hs : RepB D s) (p : Int) (hp : (Lit.int .i64 p).wf = true) :
  (Instr.lookup 96 (.map (some b)) (.int .i64 p) false).run Tryz.prog w = .ok (.bool (s p)) w := by
 obtain ⟨v, ps, hrun, hv⟩ := h.lookup law3 Tryz.underlying96 (zero4 w) (plainElem_bool Tryz.underlying4 false) (keyOf_int_mk Tryz.underlying3 hp)
 obtain ⟨a, rfl, ha⟩ := plainElem_bool_inv Tryz.underlying4 hv
 have e : (DataW.lit (.bool (s p)) : MD) = .lit (.bool a) := (hs.2 p).symm.trans (congrArg Prod.fst ha)
 have e2 : s p = a := by
  generalize s p = q at e
  cases e
  rfl
 rw [e2]
 exact hrun
end
section
open Go.Shelf
open Go.Maps Go.Proofs
theorem rdT71_drop (l : List S71) (k : Nat) (h : k < l.length) : rd_T71 l (k : Int) ∈ l ∧ l.drop k = rd_T71 l (k : Int) :: l.drop (k + 1) := getD_drop z71 l k h
def scanT : List S71 → (Int → Bool) → Bool
 | [], _ => false
 | x :: r, s => if !inB x.f0 0 40 || s x.f0 then true else scanT r (fun q => q == x.f0 || s q)
def leftL (pence : Int) : List Int → Int
 | [] => pence
 | n :: r => leftL (wrap64 (pence - n)) r
def shareL : List S71 → List Int → List S69
 | t :: ts, n :: r => ⟨t.f0, n⟩ :: shareL ts r
 | _, _ => []
def divideF (pence : Int) (l : List S71) : List S69 × Int × Int :=
 if scanT l (fun _ => false) then ([], 0, 1) else
  if (splitF pence (l.map S71.f1)).2 ≠ 0 then ([], 0, (splitF pence (l.map S71.f1)).2)
  else (shareL l (splitF pence (l.map S71.f1)).1, leftL pence (splitF pence (l.map S71.f1)).1, 0)
theorem share_snoc (t : S71) (n : Int) : ∀ (a : List S71) (b : List Int), a.length = b.length → shareL (a ++ [t]) (b ++ [n]) = shareL a b ++ [⟨t.f0, n⟩]
 | [], [], _ => rfl
 | x :: a, y :: b, h => by simp only [List.cons_append, shareL]; rw [share_snoc t n a b (by simpa using h)]
 | [], y :: b, h => by simp at h
 | x :: a, [], h => by simp at h
theorem share_len : ∀ (a : List S71) (b : List Int), (shareL a b).length = min a.length b.length
 | [], b => by simp [shareL]
 | x :: a, [] => by simp [shareL]
 | x :: a, y :: b => by simp only [shareL, List.length_cons]; rw [share_len a b]; omega
theorem bump_len : ∀ (r o : List Int), (bumpL o r).length = o.length
 | [], o => rfl
 | i :: r, o => by simp only [bumpL]; rw [bump_len r]; simp
theorem split_len {pence : Int} {P : List S24} {L : List Int} (h : splitF pence P = (L, 0)) : L.length = P.length := by
 unfold splitF at h
 split at h
 ·exact absurd (congrArg Prod.snd h) (by simp)
 ·split at h
  ·split at h
   ·rename_i hne
    exact absurd (congrArg Prod.snd h) hne
   ·split at h
    ·exact absurd (congrArg Prod.snd h) (by simp)
    ·rw [← show _ = L from congrArg Prod.fst h, bump_len, List.length_map]
  ·exact absurd (congrArg Prod.snd h) (by simp)
set_option maxRecDepth 100000 in
set_option maxHeartbeats 4000000 in
theorem divide_any (A : Option Addr) (c : Nat) (l : List S71) (pence : Int) (w : World) (hr : Kd.C k71 w A l.length l) (h20 : l.length ≤ 20 ∨ 41 < l.length) (hlm : l.length ≤ 100000) (r : List S69 × Int × Int) (hq : r = divideF pence l) :
  Calls Tryz.prog 28 #[.int .i64 pence, .slice A l.length c] w fun e w' => ∃ v, e = .returned (.tuple #[v, .int .i64 r.2.1, .int .i64 r.2.2]) ∧ Kd.R k69 69 w' w.heap.size (fun _ => True) v r.1 ∧ Below w.heap.size w w' := by
 have HR := Aq.mk hr
 have HQ := Aq.mk hq
 clear hr hq
 have hmm := @run_makeMap Tryz.prog
 go_enter Tryz.func28, Tryz.ntmps28
 go_wp2
 go_loopg [8, 19] l.length (fun gg s8 s19 wr => ∃ (kk : Nat) (s : Int → Bool) (D : MD), kk ≤ l.length ∧ l.length - kk ≤ gg ∧ s19 = .int .i64 kk ∧ Aq (scanT l (fun _ => false) = scanT (l.drop kk) s) ∧ Aq (wr.ownsMap Tryz.prog 3 (plainElem Tryz.prog 4) w.heap.size kk D) ∧ Aq (RepB D s) ∧ Aq (Kd.R k24 24 wr w.heap.size (fun k => k ≠ w.heap.size) s8 ((l.take kk).map S71.f1)) ∧ Aq (Below w.heap.size w wr))
 case atStart => exact ⟨0, fun _ => false, .map [], Nat.zero_le _, by omega, rfl, ⟨rfl⟩, ⟨World.ownsMap_made _ _ _ _⟩, ⟨repB_nil⟩, ⟨Kd.R_nil _ _ _ _ _⟩, ⟨bA_ (Below.refl _ _) _⟩⟩
 case round =>
  obtain ⟨kk, s, D, hkk, hg, rfl, HA, HM, HS, HO, HB⟩ := hrel
  have hms : w.heap.size < wr.heap.size := HM.out.lt
  by_cases hlt : kk < l.length
  ·have hltz : (kk : Int) < (l.length : Int) := by omega
   have h0 : (0 : Int) ≤ (kk : Int) := by omega
   obtain ⟨ad, e_, hz0, hz1, hz2⟩ := at_T71 HR.out (kk : Int) h0 hltz
   cases e_
   obtain ⟨_, HD⟩ := rdT71_drop l kk hlt
   generalize rd_T71 l (kk : Int) = X at hz0 hz1 hz2 HD
   replace hz0 := mv HB hz0
   replace hz1 := mv HB hz1
   replace hz2 := mv HB hz2
   simp only [Int.toNat_natCast] at hz0 hz1 hz2
   have HA2 : Aq (scanT l (fun _ => false) = if !inB X.f0 0 40 || s X.f0 then true else scanT (l.drop (kk + 1)) (fun q => q == X.f0 || s q)) := ⟨by rw [HA.out, HD]; rfl⟩
   have HT : Aq ((l.take (kk + 1)).map S71.f1 = (l.take kk).map S71.f1 ++ [X.f1]) := ⟨by rw [take_snoc_drop HD, List.map_append]; rfl⟩
   clear HA HD
   have HIn := Aq.mk (fun V => in_any X.f0 0 40 V)
   cases hib : inB X.f0 0 40 with
   | false =>
    rw [hib] at HIn
    have HE : Aq (r = ([], 0, 1)) := ⟨by rw [HQ.out]; unfold divideF; rw [HA2.out, hib]; rfl⟩
    clear HA2 hib
    go_wp2_with (first | (go_at_call 66; with_reducible refine (HIn.out _).mono ?_; rintro e w' ⟨rfl, rfl⟩))
    exact bodyPost_ret (v := .tuple #[.slice none 0 0, .int .i64 0, .int .i64 1]) (by simp [results, Tryz.results28, go_sem]) rfl ⟨_, by rw [HE.out], by rw [HE.out]; exact Kd.R_nil _ _ _ _ _, bA_ HB.out _⟩
   | true =>
    rw [hib] at HIn
    have hib2 := inB_iff.1 hib
    have hwf := wf_small hib2.1 hib2.2
    have hrun := look_set (ownB_below HM.out (bA_ (Below.refl _ _) (.cells #[.int .i64 X.f0, .int .i64 X.f1.f0, .int .i64 X.f1.f1] 71))) HS.out X.f0 hwf
    cases hsx : s X.f0 with
    | true =>
     rw [hsx] at hrun
     have HE : Aq (r = ([], 0, 1)) := ⟨by rw [HQ.out]; unfold divideF; rw [HA2.out, hib, hsx]; rfl⟩
     clear HA2 hib hib2 hwf hsx
     go_wp2_with (first | (go_at_call 66; with_reducible refine (HIn.out _).mono ?_; rintro e w' ⟨rfl, rfl⟩))
     exact bodyPost_ret (v := .tuple #[.slice none 0 0, .int .i64 0, .int .i64 1]) (by simp [results, Tryz.results28, go_sem]) rfl ⟨_, by rw [HE.out], by rw [HE.out]; exact Kd.R_nil _ _ _ _ _, bA_ HB.out _⟩
    | false =>
     rw [hsx] at hrun
     have HA3 : Aq (scanT l (fun _ => false) = scanT (l.drop (kk + 1)) (fun q => q == X.f0 || s q)) := ⟨by rw [HA2.out, hib, hsx]; rfl⟩
     have HKy := Aq.mk (keyOf_int_mk Tryz.underlying3 hwf)
     clear HA2 hib hib2 hwf hsx
     have HX := Aq.mk (heap_alloc_new wr (.cells #[.int .i64 X.f0, .int .i64 X.f1.f0, .int .i64 X.f1.f1] 71))
     have HM2 := Aq.mk (ownB_below HM.out (bA_ (Below.refl _ _) (.cells #[.int .i64 X.f0, .int .i64 X.f1.f0, .int .i64 X.f1.f1] 71)))
     have HO2 := Aq.mk (Kd.R_alloc HO.out (.cells #[.int .i64 X.f0, .int .i64 X.f1.f0, .int .i64 X.f1.f1] 71))
     have HB2 := Aq.mk (bA_ HB.out (.cells #[.int .i64 X.f0, .int .i64 X.f1.f0, .int .i64 X.f1.f1] 71))
     have HNE : Aq (∀ k, u8.ownBlock = some k → k ≠ w.heap.size) := ⟨HO.out.1⟩
     clear HM HO HB
     go_wp2_with (first
      | (go_at_call 66; with_reducible refine (HIn.out _).mono ?_; rintro e w' ⟨rfl, rfl⟩)
      | (at_mapUpdate; go_must (refine wpList_mapUpdate_own _ rfl _ _ _ 96 rfl 3 4 law3 Tryz.underlying96 _ w.heap.size kk D rfl HM2.out (by unfold maxLen; omega) _ (.bool true) _ rfl rfl HKy.out _ [] (plainElem_bool Tryz.underlying4 true) ?_; intro w2 hown2 hgrow; have hbx : (some wr.heap.size) ≠ some w.heap.size := (fun e => by injection e with e1; omega); have HX3 := Aq.mk ((hgrow.block wr.heap.size (by simp) hbx).trans HX.out); have HM3 := Aq.mk hown2; have HO3 := Aq.mk (Kd.R_step HO2.out (fun k hk hlt => hgrow.block k hlt (fun e => hk (by injection e)))); have HB3 := Aq.mk (below_turned HB2.out hgrow (Nat.le_refl _)); have hs3 : w.heap.size < w2.heap.size := hown2.lt; have k1 : w2.cell? ⟨wr.heap.size, 1, none⟩ = some (.int .i64 X.f1.f0) := (bC_ HX3.out 1).trans rfl; have k2 : w2.cell? ⟨wr.heap.size, 2, none⟩ = some (.int .i64 X.f1.f1) := (bC_ HX3.out 2).trans rfl; clear hown2 hgrow HM2 HO2 HB2 HX))
      | ((with_reducible refine gate_builtin (b := .append) (xs := #[.tmp 36, .tmp 39]) rfl ?_); at_builtin; go_must (refine Kd.R_append k24 (w0 := w) w.heap.size rfl (.tmp 36) (.tmp 39) 97 24 (.agg #[(.int .i64 0), (.int .i64 0)]) 16 rfl Tryz.underlying97 info24 rfl (by decide) (by omega) u8 ((l.take kk).map S71.f1) X.f1 [.int .i64 X.f1.f0, .int .i64 X.f1.f1] (fun k => k ≠ w.heap.size) (fun _ => False) rfl (by first | (go_simp; done) | (go_simp; rfl)) ?aP (fun _ hk => hk.elim) ?aF HO3.out HB3.out HB3.out.size ?aL ?_; (case aP => exact k24_mkM _ _ _ _); (case aF => exact (fun k hk e => by subst e; omega)); (case aL => rw [List.length_map, List.length_take]; omega); intro v4 w4 ho hb hg2 hat; have n0_ := Aq.mk ho; have n1_ := Aq.mk hb; have n2_ := Aq.mk (ownB_grown HM3.out hg2 (fun e => HNE.out _ e rfl)); clear HO3 HM3 HB3 ho hb hg2 hat)))
     rw [← HT.out] at n0_
     go_roundg (l.length - (kk + 1))
     case measure => omega
     case rel => exact ⟨kk + 1, _, _, by omega, by omega, by go_num, HA3, n2_, ⟨repB_put HS.out X.f0⟩, n0_, n1_⟩
  ·have hltz : ¬ (kk : Int) < (l.length : Int) := by omega
   obtain rfl : kk = l.length := by omega
   have HB2 := HB
   have HQ2 : Aq (r = if scanT l (fun _ => false) then ([], 0, 1) else if (splitF pence (l.map S71.f1)).2 ≠ 0 then ([], 0, (splitF pence (l.map S71.f1)).2) else (shareL l (splitF pence (l.map S71.f1)).1, leftL pence (splitF pence (l.map S71.f1)).1, 0)) := HQ
   have HA2 : Aq (scanT l (fun _ => false) = false) := ⟨by rw [HA.out, List.drop_length]; rfl⟩
   have HQ3 : Aq (r = if (splitF pence (l.map S71.f1)).2 ≠ 0 then ([], 0, (splitF pence (l.map S71.f1)).2) else (shareL l (splitF pence (l.map S71.f1)).1, leftL pence (splitF pence (l.map S71.f1)).1, 0)) := ⟨by rw [HQ2.out, HA2.out]; rfl⟩
   have HO2 := HO.out
   rw [List.take_length] at HO2
   have hPl : (l.map S71.f1).length = l.length := List.length_map _
   clear HQ HQ2 HA HA2 HM HS HO
   obtain ⟨P, hP⟩ : ∃ P, P = l.map S71.f1 := ⟨_, rfl⟩
   rw [← hP] at HO2 HQ3 hPl
   clear hP
   obtain ⟨Ap, cp, hv8, hcp, hkr⟩ := Kd.R_reads HO2
   subst hv8
   have hsp := split_any Ap cp P pence wr hkr (by omega) _ rfl
   rcases hspl : splitF pence P with ⟨L, e0⟩
   have HSL := Aq.mk hspl
   rw [hspl] at hsp HQ3
   have HSp := Aq.mk hsp
   have HPl := Aq.mk hPl
   clear hsp hspl hkr HO2 hPl
   by_cases he : e0 = 0
   ·have hb0 : (e0 != 0) = false := bne_eq_false_iff_eq.mpr he
    have HE : Aq (r = (shareL l L, leftL pence L, 0)) := ⟨by rw [HQ3.out, if_neg (by simp [he])]⟩
    have HLn : Aq (L.length = l.length) := ⟨by rw [← HPl.out]; exact split_len (by rw [HSL.out, he])⟩
    clear he HQ3 HSL
    go_wp2_with (first | (go_at_call 70; go_must ((with_reducible refine HSp.out.mono ?_); rintro e w3 ⟨vs, rfl, hRs, hbs⟩; obtain ⟨Al, cl, hvl, hcl, hkl⟩ := Kd.R_reads hRs; subst hvl; have HKR := Aq.mk (show (Kd.int .i64).C w3 Al L.length L from hkl); have HB3 := Aq.mk (bS_ HB.out hbs); clear hRs hbs hkl HSp)))
    go_loopg [0, 13, 53] L.length (fun gg s0 s13 s53 wq => ∃ (kk : Nat) (p : Int), kk ≤ L.length ∧ L.length - kk ≤ gg ∧ s0 = .int .i64 p ∧ s53 = .int .i64 kk ∧ Aq (leftL pence L = leftL p (L.drop kk)) ∧ Aq (Kd.R k69 69 wq w3.heap.size (fun _ => True) s13 (shareL (l.take kk) (L.take kk))) ∧ Aq (Below w3.heap.size w3 wq))
    case atStart => exact ⟨0, pence, Nat.zero_le _, by omega, rfl, rfl, ⟨rfl⟩, ⟨Kd.R_nil _ _ _ _ _⟩, ⟨Below.refl _ _⟩⟩
    case round =>
     obtain ⟨kk, p, hkk, hg, rfl, rfl, HA, HO, HB4⟩ := hrel
     by_cases hlt : kk < L.length
     ·have hltz : (kk : Int) < (L.length : Int) := by omega
      have h0 : (0 : Int) ≤ (kk : Int) := by omega
      have hlt2 : kk < l.length := by have := HLn.out; omega
      have hltz2 : (kk : Int) < (l.length : Int) := by omega
      obtain ⟨al, e_, hn0⟩ := at_int HKR.out (kk : Int) h0 hltz
      cases e_
      obtain ⟨_, HD1⟩ := rd_drop L kk hlt
      generalize rd L (kk : Int) = N at hn0 HD1
      replace hn0 := (HB4.out.cell (World.block_lt_of_cell? w3 _ hn0)).trans hn0
      obtain ⟨ad, e_, hz0, hz1, hz2⟩ := at_T71 HR.out (kk : Int) h0 hltz2
      cases e_
      obtain ⟨_, HD2⟩ := rdT71_drop l kk hlt2
      generalize rd_T71 l (kk : Int) = X at hz0 hz1 hz2 HD2
      replace hz0 := ((HB3.out.trans (HB4.out.mono HB3.out.size)).cell (World.block_lt_of_cell? w _ hz0)).trans hz0
      clear hz1 hz2
      simp only [Int.toNat_natCast] at hn0 hz0
      obtain ⟨p2, hp2⟩ : ∃ p2, IntKind.i64.wrap (p - N) = p2 := ⟨_, rfl⟩
      have HA2 : Aq (leftL pence L = leftL p2 (L.drop (kk + 1))) := ⟨by rw [HA.out, HD1, ← hp2, i64_w]; rfl⟩
      have HT : Aq (shareL (l.take (kk + 1)) (L.take (kk + 1)) = shareL (l.take kk) (L.take kk) ++ [⟨X.f0, N⟩]) := ⟨by rw [take_snoc_drop HD1, take_snoc_drop HD2, share_snoc _ _ _ _ (by rw [List.length_take, List.length_take]; omega)]⟩
      have HLs : Aq ((shareL (l.take kk) (L.take kk)).length ≤ kk) := ⟨by rw [share_len]; rw [List.length_take]; omega⟩
      clear HA HD1 HD2
      go_wp2_with (first | ((with_reducible refine gate_builtin (b := .append) (xs := #[.tmp 58, .tmp 66]) rfl ?_); at_builtin; go_must (refine Kd.R_append k69 (w0 := w3) w3.heap.size rfl (.tmp 58) (.tmp 66) 45 69 (.agg #[(.int .i64 0), (.int .i64 0)]) 16 rfl Tryz.underlying45 info69 rfl (by decide) (by omega) u13 (shareL (l.take kk) (L.take kk)) (⟨X.f0, N⟩ : S69) [.int .i64 X.f0, .int .i64 N] (fun _ => True) (fun _ => False) rfl (by first | (go_simp; done) | (go_simp; rfl)) ?aP (fun _ hk => hk.elim) ?aF HO.out HB4.out HB4.out.size ?aL ?_; (case aP => exact k69_mkM _ _ _ (⟨X.f0, N⟩ : S69)); (case aF => exact (fun _ _ => trivial)); (case aL => have := HLs.out; omega); intro v4 w4 ho hb hg2 hat; have n0_ := Aq.mk ho; have n1_ := Aq.mk hb; clear HO HB4 ho hb hg2 hat)))
      rw [← HT.out] at n0_
      go_roundg (L.length - (kk + 1))
      case measure => omega
      case rel => exact ⟨kk + 1, p2, by omega, by omega, rfl, by go_num, HA2, n0_, n1_⟩
     ·have hltz : ¬ (kk : Int) < (L.length : Int) := by omega
      obtain rfl : kk = L.length := by omega
      have HE2 : Aq (r = (shareL (l.take L.length) (L.take L.length), p, 0)) := ⟨by rw [HE.out, HA.out, List.drop_length, HLn.out, List.take_length, ← HLn.out, List.take_length]; rfl⟩
      go_wp2
      exact bodyPost_ret (v := .tuple #[u13, .int .i64 p, .int .i64 0]) (by simp [results, Tryz.results28, go_sem]) rfl ⟨_, by rw [HE2.out], by rw [HE2.out]; exact Kd.R_lower HO.out HB3.out.size, HB3.out.trans (HB4.out.mono HB3.out.size)⟩
   ·have hb0 : (e0 != 0) = true := bne_iff_ne.mpr he
    have HE : Aq (r = ([], 0, e0)) := ⟨by rw [HQ3.out, if_pos he]⟩
    clear he HQ3
    go_wp2_with (first | (go_at_call 70; go_must ((with_reducible refine HSp.out.mono ?_); rintro e w3 ⟨vs, rfl, hRs, hbs⟩; have HB3 := Aq.mk (bS_ HB.out hbs); clear hRs hbs HSp)))
    exact bodyPost_ret (v := .tuple #[.slice none 0 0, .int .i64 0, .int .i64 e0]) (by simp [results, Tryz.results28, go_sem]) rfl ⟨_, by rw [HE.out], by rw [HE.out]; exact Kd.R_nil _ _ _ _ _, HB3.out⟩
def award_Divide.f (a0 : Int) (l1 : List S71) : Option (List S69 × Int × Int) := if (l1.length ≤ 20 ∨ 41 < l1.length) ∧ l1.length ≤ 100000 then some (divideF a0 l1) else none
theorem award_Divide.calls (a0 : Int) (A1 : Option Addr) (c1 : Nat) (l1 : List S71) (r1 : List S69) (r2 : Int) (r3 : Int) (w : World) (hr1 : Kd.C k71 w A1 l1.length l1) (hc1 : l1.length ≤ c1) (h : award_Divide.f a0 l1 = some (r1, r2, r3)) :
  Calls Tryz.prog 28 #[.int .i64 a0, .slice A1 l1.length c1] w fun e w' => ∃ v0_ : Value, e = .returned (.tuple #[v0_, .int .i64 r2, .int .i64 r3]) ∧ Kd.R k69 69 w' w.heap.size (fun _ => True) v0_ r1 ∧ Below w.heap.size w w' := by
 unfold award_Divide.f at h
 by_cases hl : (l1.length ≤ 20 ∨ 41 < l1.length) ∧ l1.length ≤ 100000
 ·rw [if_pos hl] at h
  exact divide_any A1 c1 l1 a0 w hr1 hl.1 hl.2 (r1, r2, r3) (Option.some.inj h).symm
 ·rw [if_neg hl] at h
  exact absurd h (by simp)
end
end Go.Proofs.YtbicfbnempiocaaGreat.G
