/- Part 3 of what the law's proof rests on: what each function of the program computes, and that the machine's call of it comes to just that. -/
import Derived.Test.YtbicfbnempiocaaGreatZB0
import Derived.Test.YtbicfbnempiocaaGreatZB1
set_option linter.unusedVariables false
set_option linter.unusedSimpArgs false
namespace Go.Proofs.YtbicfbnempiocaaGreat.G
open Go.RowKit Go.Proofs.YtbicfbnempiocaaGreatW.PrintWords Go.Proofs.YtbicfbnempiocaaGreatW.PrintLast Go.Proofs.YtbicfbnempiocaaGreatW.PrintMore
section
open Go.Shelf
def findReg (k : Nat) : Code → Option Code
 | .region id ops d => if id == k then some (.region id ops d) else none
 | .seq a b => match findReg k a with | some c => some c | none => findReg k b
 | .cond _ a b => match findReg k a with | some c => some c | none => findReg k b
 | .block _ a => findReg k a
 | .loop a => findReg k a
 | .scope a => findReg k a
 | .rangeFunc _ _ a b => match findReg k a with | some c => some c | none => findReg k b
 | _ => none
set_option maxRecDepth 100000 in
set_option maxHeartbeats 4000000 in
theorem guard_0 (lo Bx : Nat) (A : Option Addr) (c : Nat) (l : List S26) (goods : ByteArray) (hour k : Int) (x q0 q1 : S26) (w W : World)
  (hx2 : W.cell? ⟨Bx, 2, none⟩ = some (.int .i64 x.f2))
  (hx3 : W.cell? ⟨Bx, 3, none⟩ = some (.string x.f3))
  (hh0 : W.cell? ⟨w.heap.size + 1, 0, none⟩ = some (.int .i64 hour))
  (hq0 : W.cell? ⟨w.heap.size + 1 + 1 + 1, 0, none⟩ = some (.int .i64 q0.f0))
  (hq2 : W.cell? ⟨w.heap.size + 1 + 1 + 1, 2, none⟩ = some (.int .i64 q0.f2))
  (hq9 : W.cell? ⟨w.heap.size + 1 + 1 + 1, 9, none⟩ = some (.int .i64 q1.f0))
  (hq11 : W.cell? ⟨w.heap.size + 1 + 1 + 1, 11, none⟩ = some (.int .i64 q1.f2))
  (he : x.f3.toList.isEmpty = false)
  : ((findReg 7 (Tryz.f55.body.getD .skip)).getD .skip).wpIn (Fence.wide.inRound lo) 1 Tryz.prog (fun e b W' => e = .normal ∧ W' = W.drew ∧ ∃ v21 v22 v23 v24 v25 v26 v27 v28 v29 v30 v31 v32 v33 v34 v35 v36 v37 v38 v39 v40 v41 v42 v43 v44 v45 v46 v47 v48 : Value, b = { tmps := #[.slice A l.length c, .string goods, .int .i64 hour, .int .i64 k, undef, .pointer (some ⟨w.heap.size, 0, none⟩), .pointer (some ⟨w.heap.size + 1, 0, none⟩), undef, .pointer (some ⟨w.heap.size + 1 + 1, 0, none⟩), .bool false, .pointer (some ⟨w.heap.size + 1 + 1 + 1, 0, none⟩), .pointer (some ⟨Bx, 0, none⟩), .int .i64 1, .slice A l.length c, .int .i64 k, .func (.func 133) #[] #[.pointer (some ⟨w.heap.size + 1 + 1 + 1 + 1, 0, none⟩), .pointer (some ⟨w.heap.size + 1 + 1 + 1 + 1 + 1, 0, none⟩)], .agg #[.int .i64 x.f0, .int .i64 x.f1, .int .i64 x.f2, .string x.f3, .int .i64 x.f4.f0, .int .i64 x.f4.f1, .int .i64 x.f5, .int .i64 x.f6, .int .i64 x.f7], .pointer (some ⟨Bx, 3, none⟩), .string x.f3, .string goods, .bool false, v21, v22, v23, v24, v25, v26, v27, v28, v29, v30, v31, v32, v33, v34, v35, v36, v37, v38, v39, v40, v41, v42, v43, v44, v45, v46, v47, v48, .bool false, undef, undef, undef, undef, undef, undef, undef, undef, undef, undef, undef, undef, undef, undef, undef], defers := [] }) { tmps := #[.slice A l.length c, .string goods, .int .i64 hour, .int .i64 k, undef, .pointer (some ⟨w.heap.size, 0, none⟩), .pointer (some ⟨w.heap.size + 1, 0, none⟩), undef, .pointer (some ⟨w.heap.size + 1 + 1, 0, none⟩), .bool false, .pointer (some ⟨w.heap.size + 1 + 1 + 1, 0, none⟩), .pointer (some ⟨Bx, 0, none⟩), .int .i64 1, .slice A l.length c, .int .i64 k, .func (.func 133) #[] #[.pointer (some ⟨w.heap.size + 1 + 1 + 1 + 1, 0, none⟩), .pointer (some ⟨w.heap.size + 1 + 1 + 1 + 1 + 1, 0, none⟩)], .agg #[.int .i64 x.f0, .int .i64 x.f1, .int .i64 x.f2, .string x.f3, .int .i64 x.f4.f0, .int .i64 x.f4.f1, .int .i64 x.f5, .int .i64 x.f6, .int .i64 x.f7], .pointer (some ⟨Bx, 3, none⟩), .string x.f3, .string goods, .bool false, undef, undef, undef, undef, undef, undef, undef, undef, undef, undef, undef, undef, undef, undef, undef, undef, undef, undef, undef, undef, undef, undef, undef, undef, undef, undef, undef, undef, undef, undef, undef, undef, undef, undef, undef, undef, undef, undef, undef, undef, undef, undef, undef, undef], defers := [] } W := by
 have hmix : Tryz.prog.follows .mixedOrders = true := rfl
 dsimp only [Tryz.f55, Option.getD, findReg]
 simp only [Nat.reduceBEq, if_true, if_false, Bool.false_eq_true]
 refine startR_ (k := 29) (S := fun w' => w'.cell? ⟨Bx, 2, none⟩ = some (.int .i64 x.f2) ∧ w'.cell? ⟨Bx, 3, none⟩ = some (.string x.f3) ∧ w'.cell? ⟨w.heap.size + 1, 0, none⟩ = some (.int .i64 hour) ∧ w'.cell? ⟨w.heap.size + 1 + 1 + 1, 0, none⟩ = some (.int .i64 q0.f0) ∧ w'.cell? ⟨w.heap.size + 1 + 1 + 1, 2, none⟩ = some (.int .i64 q0.f2) ∧ w'.cell? ⟨w.heap.size + 1 + 1 + 1, 9, none⟩ = some (.int .i64 q1.f0) ∧ w'.cell? ⟨w.heap.size + 1 + 1 + 1, 11, none⟩ = some (.int .i64 q1.f2)) (ds := []) #[false, false, false, false, false, false, false, false, false, false, false, false, false, false, false, false, false, false, false, false, false, false, false, false, false, false, false, false, false] (by kernel_rfl) (by kernel_rfl) rfl rfl ⟨hx2, hx3, hh0, hq0, hq2, hq9, hq11⟩ (fun hHeld => ?_)
 refine pI 0 21 ?_
 refine pI 1 22 ?_
 refine pI 2 23 ?_
 refine pI 3 24 ?_
 refine tI 4 25 hHeld ?_
 refine pI 5 26 ?_
 refine pI 6 27 ?_
 refine pI 7 28 ?_
 refine pO 8 29 ?_
 refine pO 9 30 ?_
 refine pO 10 31 ?_
 refine pO 11 32 ?_
 refine pI 12 33 ?_
 refine pI 13 34 ?_
 refine pO 14 35 ?_
 refine pO 15 36 ?_
 refine pO 16 37 ?_
 refine pO 17 38 ?_
 refine pO 18 39 ?_
 refine pO 19 40 ?_
 refine pO 20 41 ?_
 refine pO 21 42 ?_
 refine pO 22 43 ?_
 refine pO 23 44 ?_
 refine pO 24 45 ?_
 refine pO 25 46 ?_
 refine pO 26 47 ?_
 refine pO 27 48 ?_
 refine pI 28 49 ?_
 refine done_ (by kernel_rfl) ?_
 refine onlyN_mk ?_
 exact ⟨rfl, rfl, _, _, _, _, _, _, _, _, _, _, _, _, _, _, _, _, _, _, _, _, _, _, _, _, _, _, _, _, rfl⟩
set_option maxRecDepth 100000 in
set_option maxHeartbeats 4000000 in
theorem guard_1 (lo Bx : Nat) (A : Option Addr) (c : Nat) (l : List S26) (goods : ByteArray) (hour k : Int) (x q0 q1 : S26) (w W : World)
  (hx2 : W.cell? ⟨Bx, 2, none⟩ = some (.int .i64 x.f2))
  (hx3 : W.cell? ⟨Bx, 3, none⟩ = some (.string x.f3))
  (hh0 : W.cell? ⟨w.heap.size + 1, 0, none⟩ = some (.int .i64 hour))
  (hq0 : W.cell? ⟨w.heap.size + 1 + 1 + 1, 0, none⟩ = some (.int .i64 q0.f0))
  (hq2 : W.cell? ⟨w.heap.size + 1 + 1 + 1, 2, none⟩ = some (.int .i64 q0.f2))
  (hq9 : W.cell? ⟨w.heap.size + 1 + 1 + 1, 9, none⟩ = some (.int .i64 q1.f0))
  (hq11 : W.cell? ⟨w.heap.size + 1 + 1 + 1, 11, none⟩ = some (.int .i64 q1.f2))
  (he : x.f3.toList.isEmpty = true)
  (hh : decide (x.f2 ≤ hour) = false)
  : ((findReg 7 (Tryz.f55.body.getD .skip)).getD .skip).wpIn (Fence.wide.inRound lo) 1 Tryz.prog (fun e b W' => e = .normal ∧ W' = W.drew ∧ ∃ v21 v22 v23 v24 v25 v26 v27 v28 v29 v30 v31 v32 v33 v34 v35 v36 v37 v38 v39 v40 v41 v42 v43 v44 v45 v46 v47 v48 : Value, b = { tmps := #[.slice A l.length c, .string goods, .int .i64 hour, .int .i64 k, undef, .pointer (some ⟨w.heap.size, 0, none⟩), .pointer (some ⟨w.heap.size + 1, 0, none⟩), undef, .pointer (some ⟨w.heap.size + 1 + 1, 0, none⟩), .bool false, .pointer (some ⟨w.heap.size + 1 + 1 + 1, 0, none⟩), .pointer (some ⟨Bx, 0, none⟩), .int .i64 1, .slice A l.length c, .int .i64 k, .func (.func 133) #[] #[.pointer (some ⟨w.heap.size + 1 + 1 + 1 + 1, 0, none⟩), .pointer (some ⟨w.heap.size + 1 + 1 + 1 + 1 + 1, 0, none⟩)], .agg #[.int .i64 x.f0, .int .i64 x.f1, .int .i64 x.f2, .string x.f3, .int .i64 x.f4.f0, .int .i64 x.f4.f1, .int .i64 x.f5, .int .i64 x.f6, .int .i64 x.f7], .pointer (some ⟨Bx, 3, none⟩), .string x.f3, .string goods, .bool false, v21, v22, v23, v24, v25, v26, v27, v28, v29, v30, v31, v32, v33, v34, v35, v36, v37, v38, v39, v40, v41, v42, v43, v44, v45, v46, v47, v48, .bool false, undef, undef, undef, undef, undef, undef, undef, undef, undef, undef, undef, undef, undef, undef, undef], defers := [] }) { tmps := #[.slice A l.length c, .string goods, .int .i64 hour, .int .i64 k, undef, .pointer (some ⟨w.heap.size, 0, none⟩), .pointer (some ⟨w.heap.size + 1, 0, none⟩), undef, .pointer (some ⟨w.heap.size + 1 + 1, 0, none⟩), .bool false, .pointer (some ⟨w.heap.size + 1 + 1 + 1, 0, none⟩), .pointer (some ⟨Bx, 0, none⟩), .int .i64 1, .slice A l.length c, .int .i64 k, .func (.func 133) #[] #[.pointer (some ⟨w.heap.size + 1 + 1 + 1 + 1, 0, none⟩), .pointer (some ⟨w.heap.size + 1 + 1 + 1 + 1 + 1, 0, none⟩)], .agg #[.int .i64 x.f0, .int .i64 x.f1, .int .i64 x.f2, .string x.f3, .int .i64 x.f4.f0, .int .i64 x.f4.f1, .int .i64 x.f5, .int .i64 x.f6, .int .i64 x.f7], .pointer (some ⟨Bx, 3, none⟩), .string x.f3, .string goods, .bool false, undef, undef, undef, undef, undef, undef, undef, undef, undef, undef, undef, undef, undef, undef, undef, undef, undef, undef, undef, undef, undef, undef, undef, undef, undef, undef, undef, undef, undef, undef, undef, undef, undef, undef, undef, undef, undef, undef, undef, undef, undef, undef, undef, undef], defers := [] } W := by
 have hmix : Tryz.prog.follows .mixedOrders = true := rfl
 dsimp only [Tryz.f55, Option.getD, findReg]
 simp only [Nat.reduceBEq, if_true, if_false, Bool.false_eq_true]
 refine startR_ (k := 29) (S := fun w' => w'.cell? ⟨Bx, 2, none⟩ = some (.int .i64 x.f2) ∧ w'.cell? ⟨Bx, 3, none⟩ = some (.string x.f3) ∧ w'.cell? ⟨w.heap.size + 1, 0, none⟩ = some (.int .i64 hour) ∧ w'.cell? ⟨w.heap.size + 1 + 1 + 1, 0, none⟩ = some (.int .i64 q0.f0) ∧ w'.cell? ⟨w.heap.size + 1 + 1 + 1, 2, none⟩ = some (.int .i64 q0.f2) ∧ w'.cell? ⟨w.heap.size + 1 + 1 + 1, 9, none⟩ = some (.int .i64 q1.f0) ∧ w'.cell? ⟨w.heap.size + 1 + 1 + 1, 11, none⟩ = some (.int .i64 q1.f2)) (ds := []) #[false, false, false, false, false, false, false, false, false, false, false, false, false, false, false, false, false, false, false, false, false, false, false, false, false, false, false, false, false] (by kernel_rfl) (by kernel_rfl) rfl rfl ⟨hx2, hx3, hh0, hq0, hq2, hq9, hq11⟩ (fun hHeld => ?_)
 refine pI 0 21 ?_
 refine pI 1 22 ?_
 refine pI 2 23 ?_
 refine pI 3 24 ?_
 refine tI 4 25 hHeld ?_
 refine pI 5 26 ?_
 refine pI 6 27 ?_
 refine pI 7 28 ?_
 refine pI 8 29 ?_
 refine tI 9 30 hHeld ?_
 refine tI 10 31 hHeld ?_
 refine pI 11 32 ?_
 refine pI 12 33 ?_
 refine pI 13 34 ?_
 refine pO 14 35 ?_
 refine pO 15 36 ?_
 refine pO 16 37 ?_
 refine pO 17 38 ?_
 refine pO 18 39 ?_
 refine pO 19 40 ?_
 refine pO 20 41 ?_
 refine pO 21 42 ?_
 refine pO 22 43 ?_
 refine pO 23 44 ?_
 refine pO 24 45 ?_
 refine pO 25 46 ?_
 refine pO 26 47 ?_
 refine pO 27 48 ?_
 refine pI 28 49 ?_
 refine done_ (by kernel_rfl) ?_
 refine onlyN_mk ?_
 exact ⟨rfl, rfl, _, _, _, _, _, _, _, _, _, _, _, _, _, _, _, _, _, _, _, _, _, _, _, _, _, _, _, _, rfl⟩
set_option maxRecDepth 100000 in
set_option maxHeartbeats 4000000 in
theorem guard_2 (lo Bx : Nat) (A : Option Addr) (c : Nat) (l : List S26) (goods : ByteArray) (hour k : Int) (x q0 q1 : S26) (w W : World)
  (hx2 : W.cell? ⟨Bx, 2, none⟩ = some (.int .i64 x.f2))
  (hx3 : W.cell? ⟨Bx, 3, none⟩ = some (.string x.f3))
  (hh0 : W.cell? ⟨w.heap.size + 1, 0, none⟩ = some (.int .i64 hour))
  (hq0 : W.cell? ⟨w.heap.size + 1 + 1 + 1, 0, none⟩ = some (.int .i64 q0.f0))
  (hq2 : W.cell? ⟨w.heap.size + 1 + 1 + 1, 2, none⟩ = some (.int .i64 q0.f2))
  (hq9 : W.cell? ⟨w.heap.size + 1 + 1 + 1, 9, none⟩ = some (.int .i64 q1.f0))
  (hq11 : W.cell? ⟨w.heap.size + 1 + 1 + 1, 11, none⟩ = some (.int .i64 q1.f2))
  (he : x.f3.toList.isEmpty = true)
  (hh : decide (x.f2 ≤ hour) = true)
  (hi : (q1.f0 == 0) = false)
  (hj : decide (q1.f2 ≤ x.f2) = false)
  : ((findReg 7 (Tryz.f55.body.getD .skip)).getD .skip).wpIn (Fence.wide.inRound lo) 1 Tryz.prog (fun e b W' => e = .normal ∧ W' = W.drew ∧ ∃ v21 v22 v23 v24 v25 v26 v27 v28 v29 v30 v31 v32 v33 v34 v35 v36 v37 v38 v39 v40 v41 v42 v43 v44 v45 v46 v47 v48 : Value, b = { tmps := #[.slice A l.length c, .string goods, .int .i64 hour, .int .i64 k, undef, .pointer (some ⟨w.heap.size, 0, none⟩), .pointer (some ⟨w.heap.size + 1, 0, none⟩), undef, .pointer (some ⟨w.heap.size + 1 + 1, 0, none⟩), .bool false, .pointer (some ⟨w.heap.size + 1 + 1 + 1, 0, none⟩), .pointer (some ⟨Bx, 0, none⟩), .int .i64 1, .slice A l.length c, .int .i64 k, .func (.func 133) #[] #[.pointer (some ⟨w.heap.size + 1 + 1 + 1 + 1, 0, none⟩), .pointer (some ⟨w.heap.size + 1 + 1 + 1 + 1 + 1, 0, none⟩)], .agg #[.int .i64 x.f0, .int .i64 x.f1, .int .i64 x.f2, .string x.f3, .int .i64 x.f4.f0, .int .i64 x.f4.f1, .int .i64 x.f5, .int .i64 x.f6, .int .i64 x.f7], .pointer (some ⟨Bx, 3, none⟩), .string x.f3, .string goods, .bool false, v21, v22, v23, v24, v25, v26, v27, v28, v29, v30, v31, v32, v33, v34, v35, v36, v37, v38, v39, v40, v41, v42, v43, v44, v45, v46, v47, v48, .bool false, undef, undef, undef, undef, undef, undef, undef, undef, undef, undef, undef, undef, undef, undef, undef], defers := [] }) { tmps := #[.slice A l.length c, .string goods, .int .i64 hour, .int .i64 k, undef, .pointer (some ⟨w.heap.size, 0, none⟩), .pointer (some ⟨w.heap.size + 1, 0, none⟩), undef, .pointer (some ⟨w.heap.size + 1 + 1, 0, none⟩), .bool false, .pointer (some ⟨w.heap.size + 1 + 1 + 1, 0, none⟩), .pointer (some ⟨Bx, 0, none⟩), .int .i64 1, .slice A l.length c, .int .i64 k, .func (.func 133) #[] #[.pointer (some ⟨w.heap.size + 1 + 1 + 1 + 1, 0, none⟩), .pointer (some ⟨w.heap.size + 1 + 1 + 1 + 1 + 1, 0, none⟩)], .agg #[.int .i64 x.f0, .int .i64 x.f1, .int .i64 x.f2, .string x.f3, .int .i64 x.f4.f0, .int .i64 x.f4.f1, .int .i64 x.f5, .int .i64 x.f6, .int .i64 x.f7], .pointer (some ⟨Bx, 3, none⟩), .string x.f3, .string goods, .bool false, undef, undef, undef, undef, undef, undef, undef, undef, undef, undef, undef, undef, undef, undef, undef, undef, undef, undef, undef, undef, undef, undef, undef, undef, undef, undef, undef, undef, undef, undef, undef, undef, undef, undef, undef, undef, undef, undef, undef, undef, undef, undef, undef, undef], defers := [] } W := by
 have hmix : Tryz.prog.follows .mixedOrders = true := rfl
 dsimp only [Tryz.f55, Option.getD, findReg]
 simp only [Nat.reduceBEq, if_true, if_false, Bool.false_eq_true]
 refine startR_ (k := 29) (S := fun w' => w'.cell? ⟨Bx, 2, none⟩ = some (.int .i64 x.f2) ∧ w'.cell? ⟨Bx, 3, none⟩ = some (.string x.f3) ∧ w'.cell? ⟨w.heap.size + 1, 0, none⟩ = some (.int .i64 hour) ∧ w'.cell? ⟨w.heap.size + 1 + 1 + 1, 0, none⟩ = some (.int .i64 q0.f0) ∧ w'.cell? ⟨w.heap.size + 1 + 1 + 1, 2, none⟩ = some (.int .i64 q0.f2) ∧ w'.cell? ⟨w.heap.size + 1 + 1 + 1, 9, none⟩ = some (.int .i64 q1.f0) ∧ w'.cell? ⟨w.heap.size + 1 + 1 + 1, 11, none⟩ = some (.int .i64 q1.f2)) (ds := []) #[false, false, false, false, false, false, false, false, false, false, false, false, false, false, false, false, false, false, false, false, false, false, false, false, false, false, false, false, false] (by kernel_rfl) (by kernel_rfl) rfl rfl ⟨hx2, hx3, hh0, hq0, hq2, hq9, hq11⟩ (fun hHeld => ?_)
 refine pI 0 21 ?_
 refine pI 1 22 ?_
 refine pI 2 23 ?_
 refine pI 3 24 ?_
 refine tI 4 25 hHeld ?_
 refine pI 5 26 ?_
 refine pI 6 27 ?_
 refine pI 7 28 ?_
 refine pI 8 29 ?_
 refine tI 9 30 hHeld ?_
 refine tI 10 31 hHeld ?_
 refine pI 11 32 ?_
 refine pI 12 33 ?_
 refine pI 13 34 ?_
 refine pI 14 35 ?_
 refine pI 15 36 ?_
 refine pI 16 37 ?_
 refine tI 17 38 hHeld ?_
 refine pI 18 39 ?_
 refine pI 19 40 ?_
 refine pI 20 41 ?_
 refine pI 22 43 ?_
 refine pI 23 44 ?_
 refine pI 24 45 ?_
 refine tI 21 42 hHeld ?_
 refine tI 25 46 hHeld ?_
 refine pI 26 47 ?_
 refine pI 27 48 ?_
 refine pI 28 49 ?_
 refine done_ (by kernel_rfl) ?_
 refine onlyN_mk ?_
 exact ⟨rfl, rfl, _, _, _, _, _, _, _, _, _, _, _, _, _, _, _, _, _, _, _, _, _, _, _, _, _, _, _, _, rfl⟩
set_option maxRecDepth 100000 in
set_option maxHeartbeats 4000000 in
theorem guard_3 (lo Bx : Nat) (A : Option Addr) (c : Nat) (l : List S26) (goods : ByteArray) (hour k : Int) (x q0 q1 : S26) (w W : World)
  (hx2 : W.cell? ⟨Bx, 2, none⟩ = some (.int .i64 x.f2))
  (hx3 : W.cell? ⟨Bx, 3, none⟩ = some (.string x.f3))
  (hh0 : W.cell? ⟨w.heap.size + 1, 0, none⟩ = some (.int .i64 hour))
  (hq0 : W.cell? ⟨w.heap.size + 1 + 1 + 1, 0, none⟩ = some (.int .i64 q0.f0))
  (hq2 : W.cell? ⟨w.heap.size + 1 + 1 + 1, 2, none⟩ = some (.int .i64 q0.f2))
  (hq9 : W.cell? ⟨w.heap.size + 1 + 1 + 1, 9, none⟩ = some (.int .i64 q1.f0))
  (hq11 : W.cell? ⟨w.heap.size + 1 + 1 + 1, 11, none⟩ = some (.int .i64 q1.f2))
  (he : x.f3.toList.isEmpty = true)
  (hh : decide (x.f2 ≤ hour) = true)
  (hi : (q1.f0 == 0) = false)
  (hj : decide (q1.f2 ≤ x.f2) = true)
  : ((findReg 7 (Tryz.f55.body.getD .skip)).getD .skip).wpIn (Fence.wide.inRound lo) 1 Tryz.prog (fun e b W' => e = .normal ∧ W' = W.drew ∧ ∃ v21 v22 v23 v24 v25 v26 v27 v28 v29 v30 v31 v32 v33 v34 v35 v36 v37 v38 v39 v40 v41 v42 v43 v44 v45 v46 v47 v48 : Value, b = { tmps := #[.slice A l.length c, .string goods, .int .i64 hour, .int .i64 k, undef, .pointer (some ⟨w.heap.size, 0, none⟩), .pointer (some ⟨w.heap.size + 1, 0, none⟩), undef, .pointer (some ⟨w.heap.size + 1 + 1, 0, none⟩), .bool false, .pointer (some ⟨w.heap.size + 1 + 1 + 1, 0, none⟩), .pointer (some ⟨Bx, 0, none⟩), .int .i64 1, .slice A l.length c, .int .i64 k, .func (.func 133) #[] #[.pointer (some ⟨w.heap.size + 1 + 1 + 1 + 1, 0, none⟩), .pointer (some ⟨w.heap.size + 1 + 1 + 1 + 1 + 1, 0, none⟩)], .agg #[.int .i64 x.f0, .int .i64 x.f1, .int .i64 x.f2, .string x.f3, .int .i64 x.f4.f0, .int .i64 x.f4.f1, .int .i64 x.f5, .int .i64 x.f6, .int .i64 x.f7], .pointer (some ⟨Bx, 3, none⟩), .string x.f3, .string goods, .bool false, v21, v22, v23, v24, v25, v26, v27, v28, v29, v30, v31, v32, v33, v34, v35, v36, v37, v38, v39, v40, v41, v42, v43, v44, v45, v46, v47, v48, .bool true, undef, undef, undef, undef, undef, undef, undef, undef, undef, undef, undef, undef, undef, undef, undef], defers := [] }) { tmps := #[.slice A l.length c, .string goods, .int .i64 hour, .int .i64 k, undef, .pointer (some ⟨w.heap.size, 0, none⟩), .pointer (some ⟨w.heap.size + 1, 0, none⟩), undef, .pointer (some ⟨w.heap.size + 1 + 1, 0, none⟩), .bool false, .pointer (some ⟨w.heap.size + 1 + 1 + 1, 0, none⟩), .pointer (some ⟨Bx, 0, none⟩), .int .i64 1, .slice A l.length c, .int .i64 k, .func (.func 133) #[] #[.pointer (some ⟨w.heap.size + 1 + 1 + 1 + 1, 0, none⟩), .pointer (some ⟨w.heap.size + 1 + 1 + 1 + 1 + 1, 0, none⟩)], .agg #[.int .i64 x.f0, .int .i64 x.f1, .int .i64 x.f2, .string x.f3, .int .i64 x.f4.f0, .int .i64 x.f4.f1, .int .i64 x.f5, .int .i64 x.f6, .int .i64 x.f7], .pointer (some ⟨Bx, 3, none⟩), .string x.f3, .string goods, .bool false, undef, undef, undef, undef, undef, undef, undef, undef, undef, undef, undef, undef, undef, undef, undef, undef, undef, undef, undef, undef, undef, undef, undef, undef, undef, undef, undef, undef, undef, undef, undef, undef, undef, undef, undef, undef, undef, undef, undef, undef, undef, undef, undef, undef], defers := [] } W := by
 have hmix : Tryz.prog.follows .mixedOrders = true := rfl
 dsimp only [Tryz.f55, Option.getD, findReg]
 simp only [Nat.reduceBEq, if_true, if_false, Bool.false_eq_true]
 refine startR_ (k := 29) (S := fun w' => w'.cell? ⟨Bx, 2, none⟩ = some (.int .i64 x.f2) ∧ w'.cell? ⟨Bx, 3, none⟩ = some (.string x.f3) ∧ w'.cell? ⟨w.heap.size + 1, 0, none⟩ = some (.int .i64 hour) ∧ w'.cell? ⟨w.heap.size + 1 + 1 + 1, 0, none⟩ = some (.int .i64 q0.f0) ∧ w'.cell? ⟨w.heap.size + 1 + 1 + 1, 2, none⟩ = some (.int .i64 q0.f2) ∧ w'.cell? ⟨w.heap.size + 1 + 1 + 1, 9, none⟩ = some (.int .i64 q1.f0) ∧ w'.cell? ⟨w.heap.size + 1 + 1 + 1, 11, none⟩ = some (.int .i64 q1.f2)) (ds := []) #[false, false, false, false, false, false, false, false, false, false, false, false, false, false, false, false, false, false, false, false, false, false, false, false, false, false, false, false, false] (by kernel_rfl) (by kernel_rfl) rfl rfl ⟨hx2, hx3, hh0, hq0, hq2, hq9, hq11⟩ (fun hHeld => ?_)
 refine pI 0 21 ?_
 refine pI 1 22 ?_
 refine pI 2 23 ?_
 refine pI 3 24 ?_
 refine tI 4 25 hHeld ?_
 refine pI 5 26 ?_
 refine pI 6 27 ?_
 refine pI 7 28 ?_
 refine pI 8 29 ?_
 refine tI 9 30 hHeld ?_
 refine tI 10 31 hHeld ?_
 refine pI 11 32 ?_
 refine pI 12 33 ?_
 refine pI 13 34 ?_
 refine pI 14 35 ?_
 refine pI 15 36 ?_
 refine pI 16 37 ?_
 refine tI 17 38 hHeld ?_
 refine pI 18 39 ?_
 refine pI 19 40 ?_
 refine pI 20 41 ?_
 refine pI 22 43 ?_
 refine pI 23 44 ?_
 refine pI 24 45 ?_
 refine tI 21 42 hHeld ?_
 refine tI 25 46 hHeld ?_
 refine pI 26 47 ?_
 refine pI 27 48 ?_
 refine pI 28 49 ?_
 refine done_ (by kernel_rfl) ?_
 refine onlyN_mk ?_
 exact ⟨rfl, rfl, _, _, _, _, _, _, _, _, _, _, _, _, _, _, _, _, _, _, _, _, _, _, _, _, _, _, _, _, rfl⟩
set_option maxRecDepth 100000 in
set_option maxHeartbeats 4000000 in
theorem guard_4 (lo Bx : Nat) (A : Option Addr) (c : Nat) (l : List S26) (goods : ByteArray) (hour k : Int) (x q0 q1 : S26) (w W : World)
  (hx2 : W.cell? ⟨Bx, 2, none⟩ = some (.int .i64 x.f2))
  (hx3 : W.cell? ⟨Bx, 3, none⟩ = some (.string x.f3))
  (hh0 : W.cell? ⟨w.heap.size + 1, 0, none⟩ = some (.int .i64 hour))
  (hq0 : W.cell? ⟨w.heap.size + 1 + 1 + 1, 0, none⟩ = some (.int .i64 q0.f0))
  (hq2 : W.cell? ⟨w.heap.size + 1 + 1 + 1, 2, none⟩ = some (.int .i64 q0.f2))
  (hq9 : W.cell? ⟨w.heap.size + 1 + 1 + 1, 9, none⟩ = some (.int .i64 q1.f0))
  (hq11 : W.cell? ⟨w.heap.size + 1 + 1 + 1, 11, none⟩ = some (.int .i64 q1.f2))
  (he : x.f3.toList.isEmpty = true)
  (hh : decide (x.f2 ≤ hour) = true)
  (hi : (q1.f0 == 0) = true)
  : ((findReg 7 (Tryz.f55.body.getD .skip)).getD .skip).wpIn (Fence.wide.inRound lo) 1 Tryz.prog (fun e b W' => e = .normal ∧ W' = W.drew ∧ ∃ v21 v22 v23 v24 v25 v26 v27 v28 v29 v30 v31 v32 v33 v34 v35 v36 v37 v38 v39 v40 v41 v42 v43 v44 v45 v46 v47 v48 : Value, b = { tmps := #[.slice A l.length c, .string goods, .int .i64 hour, .int .i64 k, undef, .pointer (some ⟨w.heap.size, 0, none⟩), .pointer (some ⟨w.heap.size + 1, 0, none⟩), undef, .pointer (some ⟨w.heap.size + 1 + 1, 0, none⟩), .bool false, .pointer (some ⟨w.heap.size + 1 + 1 + 1, 0, none⟩), .pointer (some ⟨Bx, 0, none⟩), .int .i64 1, .slice A l.length c, .int .i64 k, .func (.func 133) #[] #[.pointer (some ⟨w.heap.size + 1 + 1 + 1 + 1, 0, none⟩), .pointer (some ⟨w.heap.size + 1 + 1 + 1 + 1 + 1, 0, none⟩)], .agg #[.int .i64 x.f0, .int .i64 x.f1, .int .i64 x.f2, .string x.f3, .int .i64 x.f4.f0, .int .i64 x.f4.f1, .int .i64 x.f5, .int .i64 x.f6, .int .i64 x.f7], .pointer (some ⟨Bx, 3, none⟩), .string x.f3, .string goods, .bool false, v21, v22, v23, v24, v25, v26, v27, v28, v29, v30, v31, v32, v33, v34, v35, v36, v37, v38, v39, v40, v41, v42, v43, v44, v45, v46, v47, v48, .bool true, undef, undef, undef, undef, undef, undef, undef, undef, undef, undef, undef, undef, undef, undef, undef], defers := [] }) { tmps := #[.slice A l.length c, .string goods, .int .i64 hour, .int .i64 k, undef, .pointer (some ⟨w.heap.size, 0, none⟩), .pointer (some ⟨w.heap.size + 1, 0, none⟩), undef, .pointer (some ⟨w.heap.size + 1 + 1, 0, none⟩), .bool false, .pointer (some ⟨w.heap.size + 1 + 1 + 1, 0, none⟩), .pointer (some ⟨Bx, 0, none⟩), .int .i64 1, .slice A l.length c, .int .i64 k, .func (.func 133) #[] #[.pointer (some ⟨w.heap.size + 1 + 1 + 1 + 1, 0, none⟩), .pointer (some ⟨w.heap.size + 1 + 1 + 1 + 1 + 1, 0, none⟩)], .agg #[.int .i64 x.f0, .int .i64 x.f1, .int .i64 x.f2, .string x.f3, .int .i64 x.f4.f0, .int .i64 x.f4.f1, .int .i64 x.f5, .int .i64 x.f6, .int .i64 x.f7], .pointer (some ⟨Bx, 3, none⟩), .string x.f3, .string goods, .bool false, undef, undef, undef, undef, undef, undef, undef, undef, undef, undef, undef, undef, undef, undef, undef, undef, undef, undef, undef, undef, undef, undef, undef, undef, undef, undef, undef, undef, undef, undef, undef, undef, undef, undef, undef, undef, undef, undef, undef, undef, undef, undef, undef, undef], defers := [] } W := by
 have hmix : Tryz.prog.follows .mixedOrders = true := rfl
 dsimp only [Tryz.f55, Option.getD, findReg]
 simp only [Nat.reduceBEq, if_true, if_false, Bool.false_eq_true]
 refine startR_ (k := 29) (S := fun w' => w'.cell? ⟨Bx, 2, none⟩ = some (.int .i64 x.f2) ∧ w'.cell? ⟨Bx, 3, none⟩ = some (.string x.f3) ∧ w'.cell? ⟨w.heap.size + 1, 0, none⟩ = some (.int .i64 hour) ∧ w'.cell? ⟨w.heap.size + 1 + 1 + 1, 0, none⟩ = some (.int .i64 q0.f0) ∧ w'.cell? ⟨w.heap.size + 1 + 1 + 1, 2, none⟩ = some (.int .i64 q0.f2) ∧ w'.cell? ⟨w.heap.size + 1 + 1 + 1, 9, none⟩ = some (.int .i64 q1.f0) ∧ w'.cell? ⟨w.heap.size + 1 + 1 + 1, 11, none⟩ = some (.int .i64 q1.f2)) (ds := []) #[false, false, false, false, false, false, false, false, false, false, false, false, false, false, false, false, false, false, false, false, false, false, false, false, false, false, false, false, false] (by kernel_rfl) (by kernel_rfl) rfl rfl ⟨hx2, hx3, hh0, hq0, hq2, hq9, hq11⟩ (fun hHeld => ?_)
 refine pI 0 21 ?_
 refine pI 1 22 ?_
 refine pI 2 23 ?_
 refine pI 3 24 ?_
 refine tI 4 25 hHeld ?_
 refine pI 5 26 ?_
 refine pI 6 27 ?_
 refine pI 7 28 ?_
 refine pI 8 29 ?_
 refine tI 9 30 hHeld ?_
 refine tI 10 31 hHeld ?_
 refine pI 11 32 ?_
 refine pI 12 33 ?_
 refine pI 13 34 ?_
 refine pI 14 35 ?_
 refine pI 15 36 ?_
 refine pI 16 37 ?_
 refine tI 17 38 hHeld ?_
 refine pI 18 39 ?_
 refine pI 19 40 ?_
 refine pO 20 41 ?_
 refine pO 21 42 ?_
 refine pO 22 43 ?_
 refine pO 23 44 ?_
 refine pO 24 45 ?_
 refine pO 25 46 ?_
 refine pO 26 47 ?_
 refine pI 27 48 ?_
 refine pI 28 49 ?_
 refine done_ (by kernel_rfl) ?_
 refine onlyN_mk ?_
 exact ⟨rfl, rfl, _, _, _, _, _, _, _, _, _, _, _, _, _, _, _, _, _, _, _, _, _, _, _, _, _, _, _, _, rfl⟩
set_option maxRecDepth 100000 in
set_option maxHeartbeats 4000000 in
theorem guard_5 (lo Bx : Nat) (A : Option Addr) (c : Nat) (l : List S26) (goods : ByteArray) (hour k : Int) (x q0 q1 : S26) (w W : World)
  (hx2 : W.cell? ⟨Bx, 2, none⟩ = some (.int .i64 x.f2))
  (hx3 : W.cell? ⟨Bx, 3, none⟩ = some (.string x.f3))
  (hh0 : W.cell? ⟨w.heap.size + 1, 0, none⟩ = some (.int .i64 hour))
  (hq0 : W.cell? ⟨w.heap.size + 1 + 1 + 1, 0, none⟩ = some (.int .i64 q0.f0))
  (hq2 : W.cell? ⟨w.heap.size + 1 + 1 + 1, 2, none⟩ = some (.int .i64 q0.f2))
  (hq9 : W.cell? ⟨w.heap.size + 1 + 1 + 1, 9, none⟩ = some (.int .i64 q1.f0))
  (hq11 : W.cell? ⟨w.heap.size + 1 + 1 + 1, 11, none⟩ = some (.int .i64 q1.f2))
  (hh : decide (x.f2 ≤ hour) = false)
  : ((findReg 7 (Tryz.f55.body.getD .skip)).getD .skip).wpIn (Fence.wide.inRound lo) 1 Tryz.prog (fun e b W' => e = .normal ∧ W' = W.drew ∧ ∃ v21 v22 v23 v24 v25 v26 v27 v28 v29 v30 v31 v32 v33 v34 v35 v36 v37 v38 v39 v40 v41 v42 v43 v44 v45 v46 v47 v48 : Value, b = { tmps := #[.slice A l.length c, .string goods, .int .i64 hour, .int .i64 k, undef, .pointer (some ⟨w.heap.size, 0, none⟩), .pointer (some ⟨w.heap.size + 1, 0, none⟩), undef, .pointer (some ⟨w.heap.size + 1 + 1, 0, none⟩), .bool false, .pointer (some ⟨w.heap.size + 1 + 1 + 1, 0, none⟩), .pointer (some ⟨Bx, 0, none⟩), .int .i64 0, .slice A l.length c, .int .i64 k, .func (.func 133) #[] #[.pointer (some ⟨w.heap.size + 1 + 1 + 1 + 1, 0, none⟩), .pointer (some ⟨w.heap.size + 1 + 1 + 1 + 1 + 1, 0, none⟩)], .agg #[.int .i64 x.f0, .int .i64 x.f1, .int .i64 x.f2, .string x.f3, .int .i64 x.f4.f0, .int .i64 x.f4.f1, .int .i64 x.f5, .int .i64 x.f6, .int .i64 x.f7], .pointer (some ⟨Bx, 3, none⟩), .string x.f3, .string goods, .bool true, v21, v22, v23, v24, v25, v26, v27, v28, v29, v30, v31, v32, v33, v34, v35, v36, v37, v38, v39, v40, v41, v42, v43, v44, v45, v46, v47, v48, .bool false, undef, undef, undef, undef, undef, undef, undef, undef, undef, undef, undef, undef, undef, undef, undef], defers := [] }) { tmps := #[.slice A l.length c, .string goods, .int .i64 hour, .int .i64 k, undef, .pointer (some ⟨w.heap.size, 0, none⟩), .pointer (some ⟨w.heap.size + 1, 0, none⟩), undef, .pointer (some ⟨w.heap.size + 1 + 1, 0, none⟩), .bool false, .pointer (some ⟨w.heap.size + 1 + 1 + 1, 0, none⟩), .pointer (some ⟨Bx, 0, none⟩), .int .i64 0, .slice A l.length c, .int .i64 k, .func (.func 133) #[] #[.pointer (some ⟨w.heap.size + 1 + 1 + 1 + 1, 0, none⟩), .pointer (some ⟨w.heap.size + 1 + 1 + 1 + 1 + 1, 0, none⟩)], .agg #[.int .i64 x.f0, .int .i64 x.f1, .int .i64 x.f2, .string x.f3, .int .i64 x.f4.f0, .int .i64 x.f4.f1, .int .i64 x.f5, .int .i64 x.f6, .int .i64 x.f7], .pointer (some ⟨Bx, 3, none⟩), .string x.f3, .string goods, .bool true, undef, undef, undef, undef, undef, undef, undef, undef, undef, undef, undef, undef, undef, undef, undef, undef, undef, undef, undef, undef, undef, undef, undef, undef, undef, undef, undef, undef, undef, undef, undef, undef, undef, undef, undef, undef, undef, undef, undef, undef, undef, undef, undef, undef], defers := [] } W := by
 have hmix : Tryz.prog.follows .mixedOrders = true := rfl
 dsimp only [Tryz.f55, Option.getD, findReg]
 simp only [Nat.reduceBEq, if_true, if_false, Bool.false_eq_true]
 refine startR_ (k := 29) (S := fun w' => w'.cell? ⟨Bx, 2, none⟩ = some (.int .i64 x.f2) ∧ w'.cell? ⟨Bx, 3, none⟩ = some (.string x.f3) ∧ w'.cell? ⟨w.heap.size + 1, 0, none⟩ = some (.int .i64 hour) ∧ w'.cell? ⟨w.heap.size + 1 + 1 + 1, 0, none⟩ = some (.int .i64 q0.f0) ∧ w'.cell? ⟨w.heap.size + 1 + 1 + 1, 2, none⟩ = some (.int .i64 q0.f2) ∧ w'.cell? ⟨w.heap.size + 1 + 1 + 1, 9, none⟩ = some (.int .i64 q1.f0) ∧ w'.cell? ⟨w.heap.size + 1 + 1 + 1, 11, none⟩ = some (.int .i64 q1.f2)) (ds := []) #[false, false, false, false, false, false, false, false, false, false, false, false, false, false, false, false, false, false, false, false, false, false, false, false, false, false, false, false, false] (by kernel_rfl) (by kernel_rfl) rfl rfl ⟨hx2, hx3, hh0, hq0, hq2, hq9, hq11⟩ (fun hHeld => ?_)
 refine pI 0 21 ?_
 refine pI 1 22 ?_
 refine pI 2 23 ?_
 refine pO 3 24 ?_
 refine pO 4 25 ?_
 refine pO 5 26 ?_
 refine pI 6 27 ?_
 refine pI 7 28 ?_
 refine pI 8 29 ?_
 refine tI 9 30 hHeld ?_
 refine tI 10 31 hHeld ?_
 refine pI 11 32 ?_
 refine pI 12 33 ?_
 refine pI 13 34 ?_
 refine pO 14 35 ?_
 refine pO 15 36 ?_
 refine pO 16 37 ?_
 refine pO 17 38 ?_
 refine pO 18 39 ?_
 refine pO 19 40 ?_
 refine pO 20 41 ?_
 refine pO 21 42 ?_
 refine pO 22 43 ?_
 refine pO 23 44 ?_
 refine pO 24 45 ?_
 refine pO 25 46 ?_
 refine pO 26 47 ?_
 refine pO 27 48 ?_
 refine pI 28 49 ?_
 refine done_ (by kernel_rfl) ?_
 refine onlyN_mk ?_
 exact ⟨rfl, rfl, _, _, _, _, _, _, _, _, _, _, _, _, _, _, _, _, _, _, _, _, _, _, _, _, _, _, _, _, rfl⟩
set_option maxRecDepth 100000 in
set_option maxHeartbeats 4000000 in
theorem guard_6 (lo Bx : Nat) (A : Option Addr) (c : Nat) (l : List S26) (goods : ByteArray) (hour k : Int) (x q0 q1 : S26) (w W : World)
  (hx2 : W.cell? ⟨Bx, 2, none⟩ = some (.int .i64 x.f2))
  (hx3 : W.cell? ⟨Bx, 3, none⟩ = some (.string x.f3))
  (hh0 : W.cell? ⟨w.heap.size + 1, 0, none⟩ = some (.int .i64 hour))
  (hq0 : W.cell? ⟨w.heap.size + 1 + 1 + 1, 0, none⟩ = some (.int .i64 q0.f0))
  (hq2 : W.cell? ⟨w.heap.size + 1 + 1 + 1, 2, none⟩ = some (.int .i64 q0.f2))
  (hq9 : W.cell? ⟨w.heap.size + 1 + 1 + 1, 9, none⟩ = some (.int .i64 q1.f0))
  (hq11 : W.cell? ⟨w.heap.size + 1 + 1 + 1, 11, none⟩ = some (.int .i64 q1.f2))
  (hh : decide (x.f2 ≤ hour) = true)
  (hi : (q0.f0 == 0) = false)
  (hj : decide (q0.f2 ≤ x.f2) = false)
  : ((findReg 7 (Tryz.f55.body.getD .skip)).getD .skip).wpIn (Fence.wide.inRound lo) 1 Tryz.prog (fun e b W' => e = .normal ∧ W' = W.drew ∧ ∃ v21 v22 v23 v24 v25 v26 v27 v28 v29 v30 v31 v32 v33 v34 v35 v36 v37 v38 v39 v40 v41 v42 v43 v44 v45 v46 v47 v48 : Value, b = { tmps := #[.slice A l.length c, .string goods, .int .i64 hour, .int .i64 k, undef, .pointer (some ⟨w.heap.size, 0, none⟩), .pointer (some ⟨w.heap.size + 1, 0, none⟩), undef, .pointer (some ⟨w.heap.size + 1 + 1, 0, none⟩), .bool false, .pointer (some ⟨w.heap.size + 1 + 1 + 1, 0, none⟩), .pointer (some ⟨Bx, 0, none⟩), .int .i64 0, .slice A l.length c, .int .i64 k, .func (.func 133) #[] #[.pointer (some ⟨w.heap.size + 1 + 1 + 1 + 1, 0, none⟩), .pointer (some ⟨w.heap.size + 1 + 1 + 1 + 1 + 1, 0, none⟩)], .agg #[.int .i64 x.f0, .int .i64 x.f1, .int .i64 x.f2, .string x.f3, .int .i64 x.f4.f0, .int .i64 x.f4.f1, .int .i64 x.f5, .int .i64 x.f6, .int .i64 x.f7], .pointer (some ⟨Bx, 3, none⟩), .string x.f3, .string goods, .bool true, v21, v22, v23, v24, v25, v26, v27, v28, v29, v30, v31, v32, v33, v34, v35, v36, v37, v38, v39, v40, v41, v42, v43, v44, v45, v46, v47, v48, .bool false, undef, undef, undef, undef, undef, undef, undef, undef, undef, undef, undef, undef, undef, undef, undef], defers := [] }) { tmps := #[.slice A l.length c, .string goods, .int .i64 hour, .int .i64 k, undef, .pointer (some ⟨w.heap.size, 0, none⟩), .pointer (some ⟨w.heap.size + 1, 0, none⟩), undef, .pointer (some ⟨w.heap.size + 1 + 1, 0, none⟩), .bool false, .pointer (some ⟨w.heap.size + 1 + 1 + 1, 0, none⟩), .pointer (some ⟨Bx, 0, none⟩), .int .i64 0, .slice A l.length c, .int .i64 k, .func (.func 133) #[] #[.pointer (some ⟨w.heap.size + 1 + 1 + 1 + 1, 0, none⟩), .pointer (some ⟨w.heap.size + 1 + 1 + 1 + 1 + 1, 0, none⟩)], .agg #[.int .i64 x.f0, .int .i64 x.f1, .int .i64 x.f2, .string x.f3, .int .i64 x.f4.f0, .int .i64 x.f4.f1, .int .i64 x.f5, .int .i64 x.f6, .int .i64 x.f7], .pointer (some ⟨Bx, 3, none⟩), .string x.f3, .string goods, .bool true, undef, undef, undef, undef, undef, undef, undef, undef, undef, undef, undef, undef, undef, undef, undef, undef, undef, undef, undef, undef, undef, undef, undef, undef, undef, undef, undef, undef, undef, undef, undef, undef, undef, undef, undef, undef, undef, undef, undef, undef, undef, undef, undef, undef], defers := [] } W := by
 have hmix : Tryz.prog.follows .mixedOrders = true := rfl
 dsimp only [Tryz.f55, Option.getD, findReg]
 simp only [Nat.reduceBEq, if_true, if_false, Bool.false_eq_true]
 refine startR_ (k := 29) (S := fun w' => w'.cell? ⟨Bx, 2, none⟩ = some (.int .i64 x.f2) ∧ w'.cell? ⟨Bx, 3, none⟩ = some (.string x.f3) ∧ w'.cell? ⟨w.heap.size + 1, 0, none⟩ = some (.int .i64 hour) ∧ w'.cell? ⟨w.heap.size + 1 + 1 + 1, 0, none⟩ = some (.int .i64 q0.f0) ∧ w'.cell? ⟨w.heap.size + 1 + 1 + 1, 2, none⟩ = some (.int .i64 q0.f2) ∧ w'.cell? ⟨w.heap.size + 1 + 1 + 1, 9, none⟩ = some (.int .i64 q1.f0) ∧ w'.cell? ⟨w.heap.size + 1 + 1 + 1, 11, none⟩ = some (.int .i64 q1.f2)) (ds := []) #[false, false, false, false, false, false, false, false, false, false, false, false, false, false, false, false, false, false, false, false, false, false, false, false, false, false, false, false, false] (by kernel_rfl) (by kernel_rfl) rfl rfl ⟨hx2, hx3, hh0, hq0, hq2, hq9, hq11⟩ (fun hHeld => ?_)
 refine pI 0 21 ?_
 refine pI 1 22 ?_
 refine pI 2 23 ?_
 refine pO 3 24 ?_
 refine pO 4 25 ?_
 refine pO 5 26 ?_
 refine pI 6 27 ?_
 refine pI 7 28 ?_
 refine pI 8 29 ?_
 refine tI 9 30 hHeld ?_
 refine tI 10 31 hHeld ?_
 refine pI 11 32 ?_
 refine pI 12 33 ?_
 refine pI 13 34 ?_
 refine pI 14 35 ?_
 refine pI 15 36 ?_
 refine pI 16 37 ?_
 refine tI 17 38 hHeld ?_
 refine pI 18 39 ?_
 refine pI 19 40 ?_
 refine pI 20 41 ?_
 refine pI 22 43 ?_
 refine pI 23 44 ?_
 refine pI 24 45 ?_
 refine tI 21 42 hHeld ?_
 refine tI 25 46 hHeld ?_
 refine pI 26 47 ?_
 refine pI 27 48 ?_
 refine pI 28 49 ?_
 refine done_ (by kernel_rfl) ?_
 refine onlyN_mk ?_
 exact ⟨rfl, rfl, _, _, _, _, _, _, _, _, _, _, _, _, _, _, _, _, _, _, _, _, _, _, _, _, _, _, _, _, rfl⟩
set_option maxRecDepth 100000 in
set_option maxHeartbeats 4000000 in
theorem guard_7 (lo Bx : Nat) (A : Option Addr) (c : Nat) (l : List S26) (goods : ByteArray) (hour k : Int) (x q0 q1 : S26) (w W : World)
  (hx2 : W.cell? ⟨Bx, 2, none⟩ = some (.int .i64 x.f2))
  (hx3 : W.cell? ⟨Bx, 3, none⟩ = some (.string x.f3))
  (hh0 : W.cell? ⟨w.heap.size + 1, 0, none⟩ = some (.int .i64 hour))
  (hq0 : W.cell? ⟨w.heap.size + 1 + 1 + 1, 0, none⟩ = some (.int .i64 q0.f0))
  (hq2 : W.cell? ⟨w.heap.size + 1 + 1 + 1, 2, none⟩ = some (.int .i64 q0.f2))
  (hq9 : W.cell? ⟨w.heap.size + 1 + 1 + 1, 9, none⟩ = some (.int .i64 q1.f0))
  (hq11 : W.cell? ⟨w.heap.size + 1 + 1 + 1, 11, none⟩ = some (.int .i64 q1.f2))
  (hh : decide (x.f2 ≤ hour) = true)
  (hi : (q0.f0 == 0) = false)
  (hj : decide (q0.f2 ≤ x.f2) = true)
  : ((findReg 7 (Tryz.f55.body.getD .skip)).getD .skip).wpIn (Fence.wide.inRound lo) 1 Tryz.prog (fun e b W' => e = .normal ∧ W' = W.drew ∧ ∃ v21 v22 v23 v24 v25 v26 v27 v28 v29 v30 v31 v32 v33 v34 v35 v36 v37 v38 v39 v40 v41 v42 v43 v44 v45 v46 v47 v48 : Value, b = { tmps := #[.slice A l.length c, .string goods, .int .i64 hour, .int .i64 k, undef, .pointer (some ⟨w.heap.size, 0, none⟩), .pointer (some ⟨w.heap.size + 1, 0, none⟩), undef, .pointer (some ⟨w.heap.size + 1 + 1, 0, none⟩), .bool false, .pointer (some ⟨w.heap.size + 1 + 1 + 1, 0, none⟩), .pointer (some ⟨Bx, 0, none⟩), .int .i64 0, .slice A l.length c, .int .i64 k, .func (.func 133) #[] #[.pointer (some ⟨w.heap.size + 1 + 1 + 1 + 1, 0, none⟩), .pointer (some ⟨w.heap.size + 1 + 1 + 1 + 1 + 1, 0, none⟩)], .agg #[.int .i64 x.f0, .int .i64 x.f1, .int .i64 x.f2, .string x.f3, .int .i64 x.f4.f0, .int .i64 x.f4.f1, .int .i64 x.f5, .int .i64 x.f6, .int .i64 x.f7], .pointer (some ⟨Bx, 3, none⟩), .string x.f3, .string goods, .bool true, v21, v22, v23, v24, v25, v26, v27, v28, v29, v30, v31, v32, v33, v34, v35, v36, v37, v38, v39, v40, v41, v42, v43, v44, v45, v46, v47, v48, .bool true, undef, undef, undef, undef, undef, undef, undef, undef, undef, undef, undef, undef, undef, undef, undef], defers := [] }) { tmps := #[.slice A l.length c, .string goods, .int .i64 hour, .int .i64 k, undef, .pointer (some ⟨w.heap.size, 0, none⟩), .pointer (some ⟨w.heap.size + 1, 0, none⟩), undef, .pointer (some ⟨w.heap.size + 1 + 1, 0, none⟩), .bool false, .pointer (some ⟨w.heap.size + 1 + 1 + 1, 0, none⟩), .pointer (some ⟨Bx, 0, none⟩), .int .i64 0, .slice A l.length c, .int .i64 k, .func (.func 133) #[] #[.pointer (some ⟨w.heap.size + 1 + 1 + 1 + 1, 0, none⟩), .pointer (some ⟨w.heap.size + 1 + 1 + 1 + 1 + 1, 0, none⟩)], .agg #[.int .i64 x.f0, .int .i64 x.f1, .int .i64 x.f2, .string x.f3, .int .i64 x.f4.f0, .int .i64 x.f4.f1, .int .i64 x.f5, .int .i64 x.f6, .int .i64 x.f7], .pointer (some ⟨Bx, 3, none⟩), .string x.f3, .string goods, .bool true, undef, undef, undef, undef, undef, undef, undef, undef, undef, undef, undef, undef, undef, undef, undef, undef, undef, undef, undef, undef, undef, undef, undef, undef, undef, undef, undef, undef, undef, undef, undef, undef, undef, undef, undef, undef, undef, undef, undef, undef, undef, undef, undef, undef], defers := [] } W := by
 have hmix : Tryz.prog.follows .mixedOrders = true := rfl
 dsimp only [Tryz.f55, Option.getD, findReg]
 simp only [Nat.reduceBEq, if_true, if_false, Bool.false_eq_true]
 refine startR_ (k := 29) (S := fun w' => w'.cell? ⟨Bx, 2, none⟩ = some (.int .i64 x.f2) ∧ w'.cell? ⟨Bx, 3, none⟩ = some (.string x.f3) ∧ w'.cell? ⟨w.heap.size + 1, 0, none⟩ = some (.int .i64 hour) ∧ w'.cell? ⟨w.heap.size + 1 + 1 + 1, 0, none⟩ = some (.int .i64 q0.f0) ∧ w'.cell? ⟨w.heap.size + 1 + 1 + 1, 2, none⟩ = some (.int .i64 q0.f2) ∧ w'.cell? ⟨w.heap.size + 1 + 1 + 1, 9, none⟩ = some (.int .i64 q1.f0) ∧ w'.cell? ⟨w.heap.size + 1 + 1 + 1, 11, none⟩ = some (.int .i64 q1.f2)) (ds := []) #[false, false, false, false, false, false, false, false, false, false, false, false, false, false, false, false, false, false, false, false, false, false, false, false, false, false, false, false, false] (by kernel_rfl) (by kernel_rfl) rfl rfl ⟨hx2, hx3, hh0, hq0, hq2, hq9, hq11⟩ (fun hHeld => ?_)
 refine pI 0 21 ?_
 refine pI 1 22 ?_
 refine pI 2 23 ?_
 refine pO 3 24 ?_
 refine pO 4 25 ?_
 refine pO 5 26 ?_
 refine pI 6 27 ?_
 refine pI 7 28 ?_
 refine pI 8 29 ?_
 refine tI 9 30 hHeld ?_
 refine tI 10 31 hHeld ?_
 refine pI 11 32 ?_
 refine pI 12 33 ?_
 refine pI 13 34 ?_
 refine pI 14 35 ?_
 refine pI 15 36 ?_
 refine pI 16 37 ?_
 refine tI 17 38 hHeld ?_
 refine pI 18 39 ?_
 refine pI 19 40 ?_
 refine pI 20 41 ?_
 refine pI 22 43 ?_
 refine pI 23 44 ?_
 refine pI 24 45 ?_
 refine tI 21 42 hHeld ?_
 refine tI 25 46 hHeld ?_
 refine pI 26 47 ?_
 refine pI 27 48 ?_
 refine pI 28 49 ?_
 refine done_ (by kernel_rfl) ?_
 refine onlyN_mk ?_
 exact ⟨rfl, rfl, _, _, _, _, _, _, _, _, _, _, _, _, _, _, _, _, _, _, _, _, _, _, _, _, _, _, _, _, rfl⟩
set_option maxRecDepth 100000 in
set_option maxHeartbeats 4000000 in
theorem guard_8 (lo Bx : Nat) (A : Option Addr) (c : Nat) (l : List S26) (goods : ByteArray) (hour k : Int) (x q0 q1 : S26) (w W : World)
  (hx2 : W.cell? ⟨Bx, 2, none⟩ = some (.int .i64 x.f2))
  (hx3 : W.cell? ⟨Bx, 3, none⟩ = some (.string x.f3))
  (hh0 : W.cell? ⟨w.heap.size + 1, 0, none⟩ = some (.int .i64 hour))
  (hq0 : W.cell? ⟨w.heap.size + 1 + 1 + 1, 0, none⟩ = some (.int .i64 q0.f0))
  (hq2 : W.cell? ⟨w.heap.size + 1 + 1 + 1, 2, none⟩ = some (.int .i64 q0.f2))
  (hq9 : W.cell? ⟨w.heap.size + 1 + 1 + 1, 9, none⟩ = some (.int .i64 q1.f0))
  (hq11 : W.cell? ⟨w.heap.size + 1 + 1 + 1, 11, none⟩ = some (.int .i64 q1.f2))
  (hh : decide (x.f2 ≤ hour) = true)
  (hi : (q0.f0 == 0) = true)
  : ((findReg 7 (Tryz.f55.body.getD .skip)).getD .skip).wpIn (Fence.wide.inRound lo) 1 Tryz.prog (fun e b W' => e = .normal ∧ W' = W.drew ∧ ∃ v21 v22 v23 v24 v25 v26 v27 v28 v29 v30 v31 v32 v33 v34 v35 v36 v37 v38 v39 v40 v41 v42 v43 v44 v45 v46 v47 v48 : Value, b = { tmps := #[.slice A l.length c, .string goods, .int .i64 hour, .int .i64 k, undef, .pointer (some ⟨w.heap.size, 0, none⟩), .pointer (some ⟨w.heap.size + 1, 0, none⟩), undef, .pointer (some ⟨w.heap.size + 1 + 1, 0, none⟩), .bool false, .pointer (some ⟨w.heap.size + 1 + 1 + 1, 0, none⟩), .pointer (some ⟨Bx, 0, none⟩), .int .i64 0, .slice A l.length c, .int .i64 k, .func (.func 133) #[] #[.pointer (some ⟨w.heap.size + 1 + 1 + 1 + 1, 0, none⟩), .pointer (some ⟨w.heap.size + 1 + 1 + 1 + 1 + 1, 0, none⟩)], .agg #[.int .i64 x.f0, .int .i64 x.f1, .int .i64 x.f2, .string x.f3, .int .i64 x.f4.f0, .int .i64 x.f4.f1, .int .i64 x.f5, .int .i64 x.f6, .int .i64 x.f7], .pointer (some ⟨Bx, 3, none⟩), .string x.f3, .string goods, .bool true, v21, v22, v23, v24, v25, v26, v27, v28, v29, v30, v31, v32, v33, v34, v35, v36, v37, v38, v39, v40, v41, v42, v43, v44, v45, v46, v47, v48, .bool true, undef, undef, undef, undef, undef, undef, undef, undef, undef, undef, undef, undef, undef, undef, undef], defers := [] }) { tmps := #[.slice A l.length c, .string goods, .int .i64 hour, .int .i64 k, undef, .pointer (some ⟨w.heap.size, 0, none⟩), .pointer (some ⟨w.heap.size + 1, 0, none⟩), undef, .pointer (some ⟨w.heap.size + 1 + 1, 0, none⟩), .bool false, .pointer (some ⟨w.heap.size + 1 + 1 + 1, 0, none⟩), .pointer (some ⟨Bx, 0, none⟩), .int .i64 0, .slice A l.length c, .int .i64 k, .func (.func 133) #[] #[.pointer (some ⟨w.heap.size + 1 + 1 + 1 + 1, 0, none⟩), .pointer (some ⟨w.heap.size + 1 + 1 + 1 + 1 + 1, 0, none⟩)], .agg #[.int .i64 x.f0, .int .i64 x.f1, .int .i64 x.f2, .string x.f3, .int .i64 x.f4.f0, .int .i64 x.f4.f1, .int .i64 x.f5, .int .i64 x.f6, .int .i64 x.f7], .pointer (some ⟨Bx, 3, none⟩), .string x.f3, .string goods, .bool true, undef, undef, undef, undef, undef, undef, undef, undef, undef, undef, undef, undef, undef, undef, undef, undef, undef, undef, undef, undef, undef, undef, undef, undef, undef, undef, undef, undef, undef, undef, undef, undef, undef, undef, undef, undef, undef, undef, undef, undef, undef, undef, undef, undef], defers := [] } W := by
 have hmix : Tryz.prog.follows .mixedOrders = true := rfl
 dsimp only [Tryz.f55, Option.getD, findReg]
 simp only [Nat.reduceBEq, if_true, if_false, Bool.false_eq_true]
 refine startR_ (k := 29) (S := fun w' => w'.cell? ⟨Bx, 2, none⟩ = some (.int .i64 x.f2) ∧ w'.cell? ⟨Bx, 3, none⟩ = some (.string x.f3) ∧ w'.cell? ⟨w.heap.size + 1, 0, none⟩ = some (.int .i64 hour) ∧ w'.cell? ⟨w.heap.size + 1 + 1 + 1, 0, none⟩ = some (.int .i64 q0.f0) ∧ w'.cell? ⟨w.heap.size + 1 + 1 + 1, 2, none⟩ = some (.int .i64 q0.f2) ∧ w'.cell? ⟨w.heap.size + 1 + 1 + 1, 9, none⟩ = some (.int .i64 q1.f0) ∧ w'.cell? ⟨w.heap.size + 1 + 1 + 1, 11, none⟩ = some (.int .i64 q1.f2)) (ds := []) #[false, false, false, false, false, false, false, false, false, false, false, false, false, false, false, false, false, false, false, false, false, false, false, false, false, false, false, false, false] (by kernel_rfl) (by kernel_rfl) rfl rfl ⟨hx2, hx3, hh0, hq0, hq2, hq9, hq11⟩ (fun hHeld => ?_)
 refine pI 0 21 ?_
 refine pI 1 22 ?_
 refine pI 2 23 ?_
 refine pO 3 24 ?_
 refine pO 4 25 ?_
 refine pO 5 26 ?_
 refine pI 6 27 ?_
 refine pI 7 28 ?_
 refine pI 8 29 ?_
 refine tI 9 30 hHeld ?_
 refine tI 10 31 hHeld ?_
 refine pI 11 32 ?_
 refine pI 12 33 ?_
 refine pI 13 34 ?_
 refine pI 14 35 ?_
 refine pI 15 36 ?_
 refine pI 16 37 ?_
 refine tI 17 38 hHeld ?_
 refine pI 18 39 ?_
 refine pI 19 40 ?_
 refine pO 20 41 ?_
 refine pO 21 42 ?_
 refine pO 22 43 ?_
 refine pO 23 44 ?_
 refine pO 24 45 ?_
 refine pO 25 46 ?_
 refine pO 26 47 ?_
 refine pI 27 48 ?_
 refine pI 28 49 ?_
 refine done_ (by kernel_rfl) ?_
 refine onlyN_mk ?_
 exact ⟨rfl, rfl, _, _, _, _, _, _, _, _, _, _, _, _, _, _, _, _, _, _, _, _, _, _, _, _, _, _, _, _, rfl⟩
end
section
open Go.Shelf
theorem kpb_drew {n b1 b2 : Nat} {A W : World} (h : KpB n b1 b2 A W) : KpB n b1 b2 A W.drew := ⟨Below.drew h.1, h.2.1, h.2.2⟩
def fS_ (goods : ByteArray) (hour : Int) (q : S26 × S26) (x : S26) : S26 × S26 :=
 if x.f3.toList == goods.toList then (if decide (x.f2 ≤ hour) && (q.1.f0 == 0 || decide (q.1.f2 ≤ x.f2)) then (x, q.2) else q)
 else if x.f3.toList.isEmpty && decide (x.f2 ≤ hour) && (q.2.f0 == 0 || decide (q.2.f2 ≤ x.f2)) then (q.1, x) else q
def forceF (l : List S26) (goods : ByteArray) (hour k : Int) : S26 × S26 := (l.filter (countsR l k)).foldl (fS_ goods hour) (z26, z26)
def forceV (q : S26 × S26) : S26 × Bool := if 0 < q.1.f0 then (q.1, true) else (q.2, decide (0 < q.2.f0))
theorem cf18 {W : World} {g : Nat} {t : TypeId} {u0 u1 u2 u3 u4 u5 u6 u7 u8 u9 u10 u11 u12 u13 u14 u15 u16 u17 : Value} (h : W.heap[g]? = some (.cells #[u0, u1, u2, u3, u4, u5, u6, u7, u8, u9, u10, u11, u12, u13, u14, u15, u16, u17] t (0, 0))) : W.cell? ⟨g, 0, none⟩ = some u0 ∧ W.cell? ⟨g, 1, none⟩ = some u1 ∧ W.cell? ⟨g, 2, none⟩ = some u2 ∧ W.cell? ⟨g, 3, none⟩ = some u3 ∧ W.cell? ⟨g, 4, none⟩ = some u4 ∧ W.cell? ⟨g, 5, none⟩ = some u5 ∧ W.cell? ⟨g, 6, none⟩ = some u6 ∧ W.cell? ⟨g, 7, none⟩ = some u7 ∧ W.cell? ⟨g, 8, none⟩ = some u8 ∧ W.cell? ⟨g, 9, none⟩ = some u9 ∧ W.cell? ⟨g, 10, none⟩ = some u10 ∧ W.cell? ⟨g, 11, none⟩ = some u11 ∧ W.cell? ⟨g, 12, none⟩ = some u12 ∧ W.cell? ⟨g, 13, none⟩ = some u13 ∧ W.cell? ⟨g, 14, none⟩ = some u14 ∧ W.cell? ⟨g, 15, none⟩ = some u15 ∧ W.cell? ⟨g, 16, none⟩ = some u16 ∧ W.cell? ⟨g, 17, none⟩ = some u17 ∧ W.frozen? ⟨g, 0, none⟩ = false ∧ W.frozen? ⟨g, 1, none⟩ = false ∧ W.frozen? ⟨g, 2, none⟩ = false ∧ W.frozen? ⟨g, 3, none⟩ = false ∧ W.frozen? ⟨g, 4, none⟩ = false ∧ W.frozen? ⟨g, 5, none⟩ = false ∧ W.frozen? ⟨g, 6, none⟩ = false ∧ W.frozen? ⟨g, 7, none⟩ = false ∧ W.frozen? ⟨g, 8, none⟩ = false ∧ W.frozen? ⟨g, 9, none⟩ = false ∧ W.frozen? ⟨g, 10, none⟩ = false ∧ W.frozen? ⟨g, 11, none⟩ = false ∧ W.frozen? ⟨g, 12, none⟩ = false ∧ W.frozen? ⟨g, 13, none⟩ = false ∧ W.frozen? ⟨g, 14, none⟩ = false ∧ W.frozen? ⟨g, 15, none⟩ = false ∧ W.frozen? ⟨g, 16, none⟩ = false ∧ W.frozen? ⟨g, 17, none⟩ = false := ⟨(bC_ h 0).trans rfl, (bC_ h 1).trans rfl, (bC_ h 2).trans rfl, (bC_ h 3).trans rfl, (bC_ h 4).trans rfl, (bC_ h 5).trans rfl, (bC_ h 6).trans rfl, (bC_ h 7).trans rfl, (bC_ h 8).trans rfl, (bC_ h 9).trans rfl, (bC_ h 10).trans rfl, (bC_ h 11).trans rfl, (bC_ h 12).trans rfl, (bC_ h 13).trans rfl, (bC_ h 14).trans rfl, (bC_ h 15).trans rfl, (bC_ h 16).trans rfl, (bC_ h 17).trans rfl, bR_ h 0, bR_ h 1, bR_ h 2, bR_ h 3, bR_ h 4, bR_ h 5, bR_ h 6, bR_ h 7, bR_ h 8, bR_ h 9, bR_ h 10, bR_ h 11, bR_ h 12, bR_ h 13, bR_ h 14, bR_ h 15, bR_ h 16, bR_ h 17⟩
theorem stored_n (w W0 W : World) (goods : ByteArray) (hour : Int) (x q0 q1 : S26) (h0 : W.heap[w.heap.size]? = some (.cells #[.string goods] 9 (0, 0))) (h1 : W.heap[w.heap.size + 1]? = some (.cells #[.int .i64 hour] 3 (0, 0))) (h2 : W.heap[w.heap.size + 1 + 1]? = some (.cells #[.int .i64 0, .int .i64 0, .int .i64 0, .string ⟨#[]⟩, .int .i64 0, .int .i64 0, .int .i64 0, .int .i64 0, .int .i64 0] 26 (0, 0))) (h3 : W.heap[w.heap.size + 1 + 1 + 1]? = some (.cells #[.int .i64 q0.f0, .int .i64 q0.f1, .int .i64 q0.f2, .string q0.f3, .int .i64 q0.f4.f0, .int .i64 q0.f4.f1, .int .i64 q0.f5, .int .i64 q0.f6, .int .i64 q0.f7, .int .i64 q1.f0, .int .i64 q1.f1, .int .i64 q1.f2, .string q1.f3, .int .i64 q1.f4.f0, .int .i64 q1.f4.f1, .int .i64 q1.f5, .int .i64 q1.f6, .int .i64 q1.f7] 123 (0, 0))) (hB : Below w.heap.size w W) : ∃ V, V = W.drew ∧ KeepsFrom W0.heap.size W V ∧ KpB w.heap.size (w.heap.size + 1 + 1 + 1 + 1) (w.heap.size + 1 + 1 + 1 + 1 + 1) W V ∧ V.heap[w.heap.size]? = some (.cells #[.string goods] 9 (0, 0)) ∧ V.heap[w.heap.size + 1]? = some (.cells #[.int .i64 hour] 3 (0, 0)) ∧ V.heap[w.heap.size + 1 + 1]? = some (.cells #[.int .i64 0, .int .i64 0, .int .i64 0, .string ⟨#[]⟩, .int .i64 0, .int .i64 0, .int .i64 0, .int .i64 0, .int .i64 0] 26 (0, 0)) ∧ V.heap[w.heap.size + 1 + 1 + 1]? = some (.cells #[.int .i64 q0.f0, .int .i64 q0.f1, .int .i64 q0.f2, .string q0.f3, .int .i64 q0.f4.f0, .int .i64 q0.f4.f1, .int .i64 q0.f5, .int .i64 q0.f6, .int .i64 q0.f7, .int .i64 q1.f0, .int .i64 q1.f1, .int .i64 q1.f2, .string q1.f3, .int .i64 q1.f4.f0, .int .i64 q1.f4.f1, .int .i64 q1.f5, .int .i64 q1.f6, .int .i64 q1.f7] 123 (0, 0)) ∧ Below w.heap.size w V ∧ W.heap.size ≤ V.heap.size := by
 refine ⟨_, rfl, ?_, ?_, ?_, ?_, ?_, ?_, ?_, by simp⟩
 ·exact (KeepsFrom.refl _ _).trans ((KeepsOthers.drew _).from _)
 ·exact kpb_drew ⟨Below.refl _ _, rfl, rfl⟩
 ·exact bD_ h0
 ·exact bD_ h1
 ·exact bD_ h2
 ·exact bD_ h3
 ·exact Below.drew hB
theorem p18_0 {W : World} {g : Nat} {t : TypeId} {u0 u1 u2 u3 u4 u5 u6 u7 u8 u9 u10 u11 u12 u13 u14 u15 u16 u17 v0 v1 v2 v3 v4 v5 v6 v7 v8 : Value} (h : W.heap[g]? = some (.cells #[u0, u1, u2, u3, u4, u5, u6, u7, u8, u9, u10, u11, u12, u13, u14, u15, u16, u17] t (0, 0))) : (((((((((W.setCell ⟨g, 0, none⟩ v0).setCell ⟨g, 1, none⟩ v1).setCell ⟨g, 2, none⟩ v2).setCell ⟨g, 3, none⟩ v3).setCell ⟨g, 4, none⟩ v4).setCell ⟨g, 5, none⟩ v5).setCell ⟨g, 6, none⟩ v6).setCell ⟨g, 7, none⟩ v7).setCell ⟨g, 8, none⟩ v8).heap[g]? = some (.cells #[v0, v1, v2, v3, v4, v5, v6, v7, v8, u9, u10, u11, u12, u13, u14, u15, u16, u17] t (0, 0)) := bP_ (cs := #[v0, v1, v2, v3, v4, v5, v6, v7, u8, u9, u10, u11, u12, u13, u14, u15, u16, u17]) (cs' := #[v0, v1, v2, v3, v4, v5, v6, v7, v8, u9, u10, u11, u12, u13, u14, u15, u16, u17]) (bP_ (cs := #[v0, v1, v2, v3, v4, v5, v6, u7, u8, u9, u10, u11, u12, u13, u14, u15, u16, u17]) (cs' := #[v0, v1, v2, v3, v4, v5, v6, v7, u8, u9, u10, u11, u12, u13, u14, u15, u16, u17]) (bP_ (cs := #[v0, v1, v2, v3, v4, v5, u6, u7, u8, u9, u10, u11, u12, u13, u14, u15, u16, u17]) (cs' := #[v0, v1, v2, v3, v4, v5, v6, u7, u8, u9, u10, u11, u12, u13, u14, u15, u16, u17]) (bP_ (cs := #[v0, v1, v2, v3, v4, u5, u6, u7, u8, u9, u10, u11, u12, u13, u14, u15, u16, u17]) (cs' := #[v0, v1, v2, v3, v4, v5, u6, u7, u8, u9, u10, u11, u12, u13, u14, u15, u16, u17]) (bP_ (cs := #[v0, v1, v2, v3, u4, u5, u6, u7, u8, u9, u10, u11, u12, u13, u14, u15, u16, u17]) (cs' := #[v0, v1, v2, v3, v4, u5, u6, u7, u8, u9, u10, u11, u12, u13, u14, u15, u16, u17]) (bP_ (cs := #[v0, v1, v2, u3, u4, u5, u6, u7, u8, u9, u10, u11, u12, u13, u14, u15, u16, u17]) (cs' := #[v0, v1, v2, v3, u4, u5, u6, u7, u8, u9, u10, u11, u12, u13, u14, u15, u16, u17]) (bP_ (cs := #[v0, v1, u2, u3, u4, u5, u6, u7, u8, u9, u10, u11, u12, u13, u14, u15, u16, u17]) (cs' := #[v0, v1, v2, u3, u4, u5, u6, u7, u8, u9, u10, u11, u12, u13, u14, u15, u16, u17]) (bP_ (cs := #[v0, u1, u2, u3, u4, u5, u6, u7, u8, u9, u10, u11, u12, u13, u14, u15, u16, u17]) (cs' := #[v0, v1, u2, u3, u4, u5, u6, u7, u8, u9, u10, u11, u12, u13, u14, u15, u16, u17]) (bP_ (cs := #[u0, u1, u2, u3, u4, u5, u6, u7, u8, u9, u10, u11, u12, u13, u14, u15, u16, u17]) (cs' := #[v0, u1, u2, u3, u4, u5, u6, u7, u8, u9, u10, u11, u12, u13, u14, u15, u16, u17]) (h) 0 v0 rfl) 1 v1 rfl) 2 v2 rfl) 3 v3 rfl) 4 v4 rfl) 5 v5 rfl) 6 v6 rfl) 7 v7 rfl) 8 v8 rfl
theorem stored_0 (w W0 W : World) (goods : ByteArray) (hour : Int) (x q0 q1 : S26) (h0 : W.heap[w.heap.size]? = some (.cells #[.string goods] 9 (0, 0))) (h1 : W.heap[w.heap.size + 1]? = some (.cells #[.int .i64 hour] 3 (0, 0))) (h2 : W.heap[w.heap.size + 1 + 1]? = some (.cells #[.int .i64 0, .int .i64 0, .int .i64 0, .string ⟨#[]⟩, .int .i64 0, .int .i64 0, .int .i64 0, .int .i64 0, .int .i64 0] 26 (0, 0))) (h3 : W.heap[w.heap.size + 1 + 1 + 1]? = some (.cells #[.int .i64 q0.f0, .int .i64 q0.f1, .int .i64 q0.f2, .string q0.f3, .int .i64 q0.f4.f0, .int .i64 q0.f4.f1, .int .i64 q0.f5, .int .i64 q0.f6, .int .i64 q0.f7, .int .i64 q1.f0, .int .i64 q1.f1, .int .i64 q1.f2, .string q1.f3, .int .i64 q1.f4.f0, .int .i64 q1.f4.f1, .int .i64 q1.f5, .int .i64 q1.f6, .int .i64 q1.f7] 123 (0, 0))) (hB : Below w.heap.size w W) : ∃ V, V = (((((((((W.setCell ⟨w.heap.size + 1 + 1 + 1, 0, none⟩ (.int .i64 x.f0)).setCell ⟨w.heap.size + 1 + 1 + 1, 1, none⟩ (.int .i64 x.f1)).setCell ⟨w.heap.size + 1 + 1 + 1, 2, none⟩ (.int .i64 x.f2)).setCell ⟨w.heap.size + 1 + 1 + 1, 3, none⟩ (.string x.f3)).setCell ⟨w.heap.size + 1 + 1 + 1, 4, none⟩ (.int .i64 x.f4.f0)).setCell ⟨w.heap.size + 1 + 1 + 1, 5, none⟩ (.int .i64 x.f4.f1)).setCell ⟨w.heap.size + 1 + 1 + 1, 6, none⟩ (.int .i64 x.f5)).setCell ⟨w.heap.size + 1 + 1 + 1, 7, none⟩ (.int .i64 x.f6)).setCell ⟨w.heap.size + 1 + 1 + 1, 8, none⟩ (.int .i64 x.f7)).drew ∧ KeepsFrom W0.heap.size W V ∧ KpB w.heap.size (w.heap.size + 1 + 1 + 1 + 1) (w.heap.size + 1 + 1 + 1 + 1 + 1) W V ∧ V.heap[w.heap.size]? = some (.cells #[.string goods] 9 (0, 0)) ∧ V.heap[w.heap.size + 1]? = some (.cells #[.int .i64 hour] 3 (0, 0)) ∧ V.heap[w.heap.size + 1 + 1]? = some (.cells #[.int .i64 0, .int .i64 0, .int .i64 0, .string ⟨#[]⟩, .int .i64 0, .int .i64 0, .int .i64 0, .int .i64 0, .int .i64 0] 26 (0, 0)) ∧ V.heap[w.heap.size + 1 + 1 + 1]? = some (.cells #[.int .i64 x.f0, .int .i64 x.f1, .int .i64 x.f2, .string x.f3, .int .i64 x.f4.f0, .int .i64 x.f4.f1, .int .i64 x.f5, .int .i64 x.f6, .int .i64 x.f7, .int .i64 q1.f0, .int .i64 q1.f1, .int .i64 q1.f2, .string q1.f3, .int .i64 q1.f4.f0, .int .i64 q1.f4.f1, .int .i64 q1.f5, .int .i64 q1.f6, .int .i64 q1.f7] 123 (0, 0)) ∧ Below w.heap.size w V ∧ W.heap.size ≤ V.heap.size := by
 refine ⟨_, rfl, ?_, ?_, ?_, ?_, ?_, ?_, ?_, by simp⟩
 ·refine KeepsFrom.trans ?_ ((KeepsOthers.drew _).from _); (repeat refine KeepsFrom.trans ?_ ((KeepsOthers.setCell _ _ _).from _)); exact KeepsFrom.refl _ _
 ·refine kpb_drew ?_; (repeat refine kpb_set _ ?_ (by omega) (by omega) (by omega)); exact ⟨Below.refl _ _, rfl, rfl⟩
 ·refine bD_ ?_; (repeat refine bF_ (p := ⟨w.heap.size + 1 + 1 + 1, _, none⟩) ?_ (by show w.heap.size ≠ w.heap.size + 1 + 1 + 1; omega) _); exact h0
 ·refine bD_ ?_; (repeat refine bF_ (p := ⟨w.heap.size + 1 + 1 + 1, _, none⟩) ?_ (by show w.heap.size + 1 ≠ w.heap.size + 1 + 1 + 1; omega) _); exact h1
 ·refine bD_ ?_; (repeat refine bF_ (p := ⟨w.heap.size + 1 + 1 + 1, _, none⟩) ?_ (by show w.heap.size + 1 + 1 ≠ w.heap.size + 1 + 1 + 1; omega) _); exact h2
 ·exact bD_ (p18_0 h3)
 ·refine Below.drew ?_; (repeat refine bT_ ?_ (by omega)); exact hB
theorem p18_9 {W : World} {g : Nat} {t : TypeId} {u0 u1 u2 u3 u4 u5 u6 u7 u8 u9 u10 u11 u12 u13 u14 u15 u16 u17 v0 v1 v2 v3 v4 v5 v6 v7 v8 : Value} (h : W.heap[g]? = some (.cells #[u0, u1, u2, u3, u4, u5, u6, u7, u8, u9, u10, u11, u12, u13, u14, u15, u16, u17] t (0, 0))) : (((((((((W.setCell ⟨g, 9, none⟩ v0).setCell ⟨g, 10, none⟩ v1).setCell ⟨g, 11, none⟩ v2).setCell ⟨g, 12, none⟩ v3).setCell ⟨g, 13, none⟩ v4).setCell ⟨g, 14, none⟩ v5).setCell ⟨g, 15, none⟩ v6).setCell ⟨g, 16, none⟩ v7).setCell ⟨g, 17, none⟩ v8).heap[g]? = some (.cells #[u0, u1, u2, u3, u4, u5, u6, u7, u8, v0, v1, v2, v3, v4, v5, v6, v7, v8] t (0, 0)) := bP_ (cs := #[u0, u1, u2, u3, u4, u5, u6, u7, u8, v0, v1, v2, v3, v4, v5, v6, v7, u17]) (cs' := #[u0, u1, u2, u3, u4, u5, u6, u7, u8, v0, v1, v2, v3, v4, v5, v6, v7, v8]) (bP_ (cs := #[u0, u1, u2, u3, u4, u5, u6, u7, u8, v0, v1, v2, v3, v4, v5, v6, u16, u17]) (cs' := #[u0, u1, u2, u3, u4, u5, u6, u7, u8, v0, v1, v2, v3, v4, v5, v6, v7, u17]) (bP_ (cs := #[u0, u1, u2, u3, u4, u5, u6, u7, u8, v0, v1, v2, v3, v4, v5, u15, u16, u17]) (cs' := #[u0, u1, u2, u3, u4, u5, u6, u7, u8, v0, v1, v2, v3, v4, v5, v6, u16, u17]) (bP_ (cs := #[u0, u1, u2, u3, u4, u5, u6, u7, u8, v0, v1, v2, v3, v4, u14, u15, u16, u17]) (cs' := #[u0, u1, u2, u3, u4, u5, u6, u7, u8, v0, v1, v2, v3, v4, v5, u15, u16, u17]) (bP_ (cs := #[u0, u1, u2, u3, u4, u5, u6, u7, u8, v0, v1, v2, v3, u13, u14, u15, u16, u17]) (cs' := #[u0, u1, u2, u3, u4, u5, u6, u7, u8, v0, v1, v2, v3, v4, u14, u15, u16, u17]) (bP_ (cs := #[u0, u1, u2, u3, u4, u5, u6, u7, u8, v0, v1, v2, u12, u13, u14, u15, u16, u17]) (cs' := #[u0, u1, u2, u3, u4, u5, u6, u7, u8, v0, v1, v2, v3, u13, u14, u15, u16, u17]) (bP_ (cs := #[u0, u1, u2, u3, u4, u5, u6, u7, u8, v0, v1, u11, u12, u13, u14, u15, u16, u17]) (cs' := #[u0, u1, u2, u3, u4, u5, u6, u7, u8, v0, v1, v2, u12, u13, u14, u15, u16, u17]) (bP_ (cs := #[u0, u1, u2, u3, u4, u5, u6, u7, u8, v0, u10, u11, u12, u13, u14, u15, u16, u17]) (cs' := #[u0, u1, u2, u3, u4, u5, u6, u7, u8, v0, v1, u11, u12, u13, u14, u15, u16, u17]) (bP_ (cs := #[u0, u1, u2, u3, u4, u5, u6, u7, u8, u9, u10, u11, u12, u13, u14, u15, u16, u17]) (cs' := #[u0, u1, u2, u3, u4, u5, u6, u7, u8, v0, u10, u11, u12, u13, u14, u15, u16, u17]) (h) 9 v0 rfl) 10 v1 rfl) 11 v2 rfl) 12 v3 rfl) 13 v4 rfl) 14 v5 rfl) 15 v6 rfl) 16 v7 rfl) 17 v8 rfl
theorem stored_1 (w W0 W : World) (goods : ByteArray) (hour : Int) (x q0 q1 : S26) (h0 : W.heap[w.heap.size]? = some (.cells #[.string goods] 9 (0, 0))) (h1 : W.heap[w.heap.size + 1]? = some (.cells #[.int .i64 hour] 3 (0, 0))) (h2 : W.heap[w.heap.size + 1 + 1]? = some (.cells #[.int .i64 0, .int .i64 0, .int .i64 0, .string ⟨#[]⟩, .int .i64 0, .int .i64 0, .int .i64 0, .int .i64 0, .int .i64 0] 26 (0, 0))) (h3 : W.heap[w.heap.size + 1 + 1 + 1]? = some (.cells #[.int .i64 q0.f0, .int .i64 q0.f1, .int .i64 q0.f2, .string q0.f3, .int .i64 q0.f4.f0, .int .i64 q0.f4.f1, .int .i64 q0.f5, .int .i64 q0.f6, .int .i64 q0.f7, .int .i64 q1.f0, .int .i64 q1.f1, .int .i64 q1.f2, .string q1.f3, .int .i64 q1.f4.f0, .int .i64 q1.f4.f1, .int .i64 q1.f5, .int .i64 q1.f6, .int .i64 q1.f7] 123 (0, 0))) (hB : Below w.heap.size w W) : ∃ V, V = (((((((((W.setCell ⟨w.heap.size + 1 + 1 + 1, 9, none⟩ (.int .i64 x.f0)).setCell ⟨w.heap.size + 1 + 1 + 1, 10, none⟩ (.int .i64 x.f1)).setCell ⟨w.heap.size + 1 + 1 + 1, 11, none⟩ (.int .i64 x.f2)).setCell ⟨w.heap.size + 1 + 1 + 1, 12, none⟩ (.string x.f3)).setCell ⟨w.heap.size + 1 + 1 + 1, 13, none⟩ (.int .i64 x.f4.f0)).setCell ⟨w.heap.size + 1 + 1 + 1, 14, none⟩ (.int .i64 x.f4.f1)).setCell ⟨w.heap.size + 1 + 1 + 1, 15, none⟩ (.int .i64 x.f5)).setCell ⟨w.heap.size + 1 + 1 + 1, 16, none⟩ (.int .i64 x.f6)).setCell ⟨w.heap.size + 1 + 1 + 1, 17, none⟩ (.int .i64 x.f7)).drew ∧ KeepsFrom W0.heap.size W V ∧ KpB w.heap.size (w.heap.size + 1 + 1 + 1 + 1) (w.heap.size + 1 + 1 + 1 + 1 + 1) W V ∧ V.heap[w.heap.size]? = some (.cells #[.string goods] 9 (0, 0)) ∧ V.heap[w.heap.size + 1]? = some (.cells #[.int .i64 hour] 3 (0, 0)) ∧ V.heap[w.heap.size + 1 + 1]? = some (.cells #[.int .i64 0, .int .i64 0, .int .i64 0, .string ⟨#[]⟩, .int .i64 0, .int .i64 0, .int .i64 0, .int .i64 0, .int .i64 0] 26 (0, 0)) ∧ V.heap[w.heap.size + 1 + 1 + 1]? = some (.cells #[.int .i64 q0.f0, .int .i64 q0.f1, .int .i64 q0.f2, .string q0.f3, .int .i64 q0.f4.f0, .int .i64 q0.f4.f1, .int .i64 q0.f5, .int .i64 q0.f6, .int .i64 q0.f7, .int .i64 x.f0, .int .i64 x.f1, .int .i64 x.f2, .string x.f3, .int .i64 x.f4.f0, .int .i64 x.f4.f1, .int .i64 x.f5, .int .i64 x.f6, .int .i64 x.f7] 123 (0, 0)) ∧ Below w.heap.size w V ∧ W.heap.size ≤ V.heap.size := by
 refine ⟨_, rfl, ?_, ?_, ?_, ?_, ?_, ?_, ?_, by simp⟩
 ·refine KeepsFrom.trans ?_ ((KeepsOthers.drew _).from _); (repeat refine KeepsFrom.trans ?_ ((KeepsOthers.setCell _ _ _).from _)); exact KeepsFrom.refl _ _
 ·refine kpb_drew ?_; (repeat refine kpb_set _ ?_ (by omega) (by omega) (by omega)); exact ⟨Below.refl _ _, rfl, rfl⟩
 ·refine bD_ ?_; (repeat refine bF_ (p := ⟨w.heap.size + 1 + 1 + 1, _, none⟩) ?_ (by show w.heap.size ≠ w.heap.size + 1 + 1 + 1; omega) _); exact h0
 ·refine bD_ ?_; (repeat refine bF_ (p := ⟨w.heap.size + 1 + 1 + 1, _, none⟩) ?_ (by show w.heap.size + 1 ≠ w.heap.size + 1 + 1 + 1; omega) _); exact h1
 ·refine bD_ ?_; (repeat refine bF_ (p := ⟨w.heap.size + 1 + 1 + 1, _, none⟩) ?_ (by show w.heap.size + 1 + 1 ≠ w.heap.size + 1 + 1 + 1; omega) _); exact h2
 ·exact bD_ (p18_9 h3)
 ·refine Below.drew ?_; (repeat refine bT_ ?_ (by omega)); exact hB
attribute [local go_sem] Oper.semAt_some in
set_option maxRecDepth 100000 in
set_option maxHeartbeats 40000000 in
theorem force_any (A : Option Addr) (c : Nat) (l : List S26) (goods : ByteArray) (hour k : Int) (w : World) (hr : Kd.C k26 w A l.length l) :
  Calls Tryz.prog 55 #[.slice A l.length c, .string goods, .int .i64 hour, .int .i64 k] w fun e w' => e = .returned (.tuple #[.agg #[.int .i64 (forceV (forceF l goods hour k)).1.f0, .int .i64 (forceV (forceF l goods hour k)).1.f1, .int .i64 (forceV (forceF l goods hour k)).1.f2, .string (forceV (forceF l goods hour k)).1.f3, .int .i64 (forceV (forceF l goods hour k)).1.f4.f0, .int .i64 (forceV (forceF l goods hour k)).1.f4.f1, .int .i64 (forceV (forceF l goods hour k)).1.f5, .int .i64 (forceV (forceF l goods hour k)).1.f6, .int .i64 (forceV (forceF l goods hour k)).1.f7], .bool (forceV (forceF l goods hour k)).2]) ∧ Below w.heap.size w w' := by
 have HR := Aq.mk hr
 have hmix : Tryz.prog.follows .mixedOrders = true := rfl
 clear hr
 refine (callsIn_wide (n := 3)).1 ?_
 refine callsIn_of_wp_marks Tryz.func55 rfl trivial ?_ rfl
 simp only [Tryz.ntmps55, List.size_toArray, List.length_cons, List.length_nil, Nat.reduceAdd, Nat.reduceSub, Array.replicate_succ, Array.replicate_zero, List.push_toArray, List.append_toArray, List.nil_append, List.cons_append]
 gi_wp2_with (refine ⟨trivial, ?_⟩; gi_at_call 91; refine (callsIn_wide.2 (make_rate _ _ _ _ _)).mono ?_; rintro e w' ⟨rfl, rfl⟩)
 obtain ⟨W0, hW0⟩ : ∃ W0, ((((((w.alloc (.cells #[.string goods] 9)).alloc (.cells #[.int .i64 hour] 3)).alloc (.cells #[.int .i64 0, .int .i64 0, .int .i64 0, .string ⟨#[]⟩, .int .i64 0, .int .i64 0, .int .i64 0, .int .i64 0, .int .i64 0] 26)).alloc (.cells #[.int .i64 0, .int .i64 0, .int .i64 0, .string ⟨#[]⟩, .int .i64 0, .int .i64 0, .int .i64 0, .int .i64 0, .int .i64 0, .int .i64 0, .int .i64 0, .int .i64 0, .string ⟨#[]⟩, .int .i64 0, .int .i64 0, .int .i64 0, .int .i64 0, .int .i64 0] 123)).alloc (.cells #[.slice A l.length c] 22)).alloc (.cells #[.int .i64 k] 3)) = W0 := ⟨_, rfl⟩
 have hsz : W0.heap.size = w.heap.size + 6 := by rw [← hW0]; simp
 have HB0 : Aq (Below w.heap.size w W0) := ⟨by rw [← hW0]; repeat (first | exact Below.refl _ _ | apply bA_)⟩
 have P0 : Aq (W0.heap[w.heap.size]? = some (.cells #[.string goods] 9 (0, 0))) := ⟨by rw [← hW0]; exact bL_ (bL_ (bL_ (bL_ (bL_ (blk_at _ _ _ (by simp)) _) _) _) _) _⟩
 have P1 : Aq (W0.heap[w.heap.size + 1]? = some (.cells #[.int .i64 hour] 3 (0, 0))) := ⟨by rw [← hW0]; exact bL_ (bL_ (bL_ (bL_ (blk_at _ _ _ (by simp)) _) _) _) _⟩
 have P2 : Aq (W0.heap[w.heap.size + 1 + 1]? = some (.cells #[.int .i64 0, .int .i64 0, .int .i64 0, .string ⟨#[]⟩, .int .i64 0, .int .i64 0, .int .i64 0, .int .i64 0, .int .i64 0] 26 (0, 0))) := ⟨by rw [← hW0]; exact bL_ (bL_ (bL_ (blk_at _ _ _ (by simp)) _) _) _⟩
 have P3 : Aq (W0.heap[w.heap.size + 1 + 1 + 1]? = some (.cells #[.int .i64 0, .int .i64 0, .int .i64 0, .string ⟨#[]⟩, .int .i64 0, .int .i64 0, .int .i64 0, .int .i64 0, .int .i64 0, .int .i64 0, .int .i64 0, .int .i64 0, .string ⟨#[]⟩, .int .i64 0, .int .i64 0, .int .i64 0, .int .i64 0, .int .i64 0] 123 (0, 0))) := ⟨by rw [← hW0]; exact bL_ (bL_ (blk_at _ _ _ (by simp)) _) _⟩
 have P4 : Aq (W0.heap[w.heap.size + 1 + 1 + 1 + 1]? = some (.cells #[.slice A l.length c] 22 (0, 0))) := ⟨by rw [← hW0]; exact bL_ (blk_at _ _ _ (by simp)) _⟩
 have P5 : Aq (W0.heap[w.heap.size + 1 + 1 + 1 + 1 + 1]? = some (.cells #[.int .i64 k] 3 (0, 0))) := ⟨by rw [← hW0]; exact blk_at _ _ _ (by simp)⟩
 rw [hW0]
 clear hW0
 refine wpIn_rangeFunc_ownH rfl (by omega) (gf := 133) (lb := #[.pointer (some ⟨w.heap.size + 1 + 1 + 1 + 1, 0, none⟩), .pointer (some ⟨w.heap.size + 1 + 1 + 1 + 1 + 1, 0, none⟩)]) rfl trivial (enters_of Tryz.func133 (by kernel_rfl) rfl)
  (stops_rate 2 _ _ w A c l k HR.out W0 HB0.out P4.out P5.out) kpb_t (kpb_b (by omega) (by omega) (by omega)) (Below.refl _ _) (fun _ => rfl)
  (fun pre W => (((((W.heap[w.heap.size]? = some (.cells #[.string goods] 9 (0, 0))) ∧ W.heap[w.heap.size + 1]? = some (.cells #[.int .i64 hour] 3 (0, 0))) ∧ W.heap[w.heap.size + 1 + 1]? = some (.cells #[.int .i64 0, .int .i64 0, .int .i64 0, .string ⟨#[]⟩, .int .i64 0, .int .i64 0, .int .i64 0, .int .i64 0, .int .i64 0] 26 (0, 0))) ∧ W.heap[w.heap.size + 1 + 1 + 1]? = some (.cells #[.int .i64 ((pre.foldl (fS_ goods hour) (z26, z26))).1.f0, .int .i64 ((pre.foldl (fS_ goods hour) (z26, z26))).1.f1, .int .i64 ((pre.foldl (fS_ goods hour) (z26, z26))).1.f2, .string ((pre.foldl (fS_ goods hour) (z26, z26))).1.f3, .int .i64 ((pre.foldl (fS_ goods hour) (z26, z26))).1.f4.f0, .int .i64 ((pre.foldl (fS_ goods hour) (z26, z26))).1.f4.f1, .int .i64 ((pre.foldl (fS_ goods hour) (z26, z26))).1.f5, .int .i64 ((pre.foldl (fS_ goods hour) (z26, z26))).1.f6, .int .i64 ((pre.foldl (fS_ goods hour) (z26, z26))).1.f7, .int .i64 ((pre.foldl (fS_ goods hour) (z26, z26))).2.f0, .int .i64 ((pre.foldl (fS_ goods hour) (z26, z26))).2.f1, .int .i64 ((pre.foldl (fS_ goods hour) (z26, z26))).2.f2, .string ((pre.foldl (fS_ goods hour) (z26, z26))).2.f3, .int .i64 ((pre.foldl (fS_ goods hour) (z26, z26))).2.f4.f0, .int .i64 ((pre.foldl (fS_ goods hour) (z26, z26))).2.f4.f1, .int .i64 ((pre.foldl (fS_ goods hour) (z26, z26))).2.f5, .int .i64 ((pre.foldl (fS_ goods hour) (z26, z26))).2.f6, .int .i64 ((pre.foldl (fS_ goods hour) (z26, z26))).2.f7] 123 (0, 0))) ∧ Below w.heap.size w W) ∧ W0.heap.size ≤ W.heap.size)
  (fun _ _ _ => False)
  (OwnFrom.and (OwnFrom.and (OwnFrom.and (OwnFrom.and (OwnFrom.and (own_blk _ _ _ (fun _ => rfl)) (own_blk _ _ _ (fun _ => rfl))) (own_blk _ _ _ (fun _ => rfl))) (own_blk _ _ (fun pre : List S26 => Obj.cells #[.int .i64 ((pre.foldl (fS_ goods hour) (z26, z26))).1.f0, .int .i64 ((pre.foldl (fS_ goods hour) (z26, z26))).1.f1, .int .i64 ((pre.foldl (fS_ goods hour) (z26, z26))).1.f2, .string ((pre.foldl (fS_ goods hour) (z26, z26))).1.f3, .int .i64 ((pre.foldl (fS_ goods hour) (z26, z26))).1.f4.f0, .int .i64 ((pre.foldl (fS_ goods hour) (z26, z26))).1.f4.f1, .int .i64 ((pre.foldl (fS_ goods hour) (z26, z26))).1.f5, .int .i64 ((pre.foldl (fS_ goods hour) (z26, z26))).1.f6, .int .i64 ((pre.foldl (fS_ goods hour) (z26, z26))).1.f7, .int .i64 ((pre.foldl (fS_ goods hour) (z26, z26))).2.f0, .int .i64 ((pre.foldl (fS_ goods hour) (z26, z26))).2.f1, .int .i64 ((pre.foldl (fS_ goods hour) (z26, z26))).2.f2, .string ((pre.foldl (fS_ goods hour) (z26, z26))).2.f3, .int .i64 ((pre.foldl (fS_ goods hour) (z26, z26))).2.f4.f0, .int .i64 ((pre.foldl (fS_ goods hour) (z26, z26))).2.f4.f1, .int .i64 ((pre.foldl (fS_ goods hour) (z26, z26))).2.f5, .int .i64 ((pre.foldl (fS_ goods hour) (z26, z26))).2.f6, .int .i64 ((pre.foldl (fS_ goods hour) (z26, z26))).2.f7] 123 (0, 0)) (fun _ => rfl))) (ownFrom_below (Nat.le_refl _) (by omega))) (own_size _ _))
  (fun _ _ _ _ _ hs _ _ => hs)
  ⟨⟨⟨⟨⟨P0.out, P1.out⟩, P2.out⟩, P3.out⟩, HB0.out⟩, Nat.le_refl _⟩
  (fun x a' W => ∃ Bx, (w.heap.size + 6 ≤ Bx ∧ W.heap[Bx]? = some (.cells #[.int .i64 x.f0, .int .i64 x.f1, .int .i64 x.f2, .string x.f3, .int .i64 x.f4.f0, .int .i64 x.f4.f1, .int .i64 x.f5, .int .i64 x.f6, .int .i64 x.f7] 26 (0, 0))) ∧ a' = { tmps := #[.slice A l.length c, .string goods, .int .i64 hour, .int .i64 k, undef, .pointer (some ⟨w.heap.size, 0, none⟩), .pointer (some ⟨w.heap.size + 1, 0, none⟩), undef, .pointer (some ⟨w.heap.size + 1 + 1, 0, none⟩), .bool false, .pointer (some ⟨w.heap.size + 1 + 1 + 1, 0, none⟩), .pointer (some ⟨Bx, 0, none⟩), undef, .slice A l.length c, .int .i64 k, .func (.func 133) #[] #[.pointer (some ⟨w.heap.size + 1 + 1 + 1 + 1, 0, none⟩), .pointer (some ⟨w.heap.size + 1 + 1 + 1 + 1 + 1, 0, none⟩)], .agg #[.int .i64 x.f0, .int .i64 x.f1, .int .i64 x.f2, .string x.f3, .int .i64 x.f4.f0, .int .i64 x.f4.f1, .int .i64 x.f5, .int .i64 x.f6, .int .i64 x.f7], undef, undef, undef, undef, undef, undef, undef, undef, undef, undef, undef, undef, undef, undef, undef, undef, undef, undef, undef, undef, undef, undef, undef, undef, undef, undef, undef, undef, undef, undef, undef, undef, undef, undef, undef, undef, undef, undef, undef, undef, undef, undef, undef, undef, undef, undef, undef, undef], defers := [] })
  (fun x a' => own_ex (fun Bx => OwnFrom.and (OwnFrom.and (own_pure _ _) (own_blk _ _ _ (fun _ => rfl))) (own_pure _ _)))
  ?assign ?body ?done ?stop
 case assign =>
  rintro lo pre x W K ⟨⟨⟨⟨⟨h0, h1⟩, h2⟩, h3⟩, hB⟩, hS⟩ hK
  unfold encR
  gi_wp2
  have hk := hK _ (W.alloc (.cells #[.int .i64 x.f0, .int .i64 x.f1, .int .i64 x.f2, .string x.f3, .int .i64 x.f4.f0, .int .i64 x.f4.f1, .int .i64 x.f5, .int .i64 x.f6, .int .i64 x.f7] 26)) ((KeepsOthers.alloc _ _).from _) (kpb_below (bA_ (Below.refl _ _) _) (by omega) (by omega) (by omega)) ⟨⟨⟨⟨⟨bL_ h0 _, bL_ h1 _⟩, bL_ h2 _⟩, bL_ h3 _⟩, bA_ hB _⟩, by simp; omega⟩ ⟨W.heap.size, ⟨by omega, heap_alloc_new _ _⟩, rfl⟩
  exact hk
 case body =>
  rintro lo pre x a' W hlo ⟨rr, hrr⟩ ⟨⟨⟨⟨⟨h0, h1⟩, h2⟩, h3⟩, hB⟩, hS⟩ ⟨Bx, ⟨hBx, hX⟩, rfl⟩ hlt
  have HF : Aq ((pre ++ [x]).foldl (fS_ goods hour) (z26, z26) = fS_ goods hour (pre.foldl (fS_ goods hour) (z26, z26)) x) := ⟨by rw [List.foldl_append]; rfl⟩
  generalize pre.foldl (fS_ goods hour) (z26, z26) = q at h3 HF
  obtain ⟨q0, q1⟩ := q
  have hg0 : W.cell? ⟨w.heap.size, 0, none⟩ = some (.string goods) := (bC_ h0 0).trans rfl
  have hh0 : W.cell? ⟨w.heap.size + 1, 0, none⟩ = some (.int .i64 hour) := (bC_ h1 0).trans rfl
  obtain ⟨hx0, hx1, hx2, hx3, hx4, hx5, hx6, hx7, hx8⟩ := cz9 hX
  obtain ⟨hq0, hq1, hq2, hq3, hq4, hq5, hq6, hq7, hq8, hq9, hq10, hq11, hq12, hq13, hq14, hq15, hq16, hq17, hf0, hf1, hf2, hf3, hf4, hf5, hf6, hf7, hf8, hf9, hf10, hf11, hf12, hf13, hf14, hf15, hf16, hf17⟩ := cf18 h3
  have hq_dummy := True.intro
  rcases hg : (x.f3.toList == goods.toList) with _ | _
  ·rcases he : x.f3.toList.isEmpty with _ | _
   ·have he2 : decide (x.f3.toList = []) = false := by rw [← he]; cases x.f3.toList <;> rfl
    have HF : Aq ((pre ++ [x]).foldl (fS_ goods hour) (z26, z26) = (q0, q1)) := ⟨by rw [HF.out]; unfold fS_; simp only [hg, he, if_true, if_false, Bool.false_or, Bool.true_or, Bool.and_true, Bool.true_and, Bool.and_false, Bool.false_and, Bool.false_eq_true]⟩
    gi_wp2
    refine wpIn_mono (guard_0 lo Bx A c l goods hour k x q0 q1 w W hx2 hx3 hh0 hq0 hq2 hq9 hq11 he) ?_
    rintro e b W' ⟨rfl, rfl, v21, v22, v23, v24, v25, v26, v27, v28, v29, v30, v31, v32, v33, v34, v35, v36, v37, v38, v39, v40, v41, v42, v43, v44, v45, v46, v47, v48, rfl⟩
    gi_wp2
    obtain ⟨V, hV, TA, TB, TC, TD, TE, TG, TF, TH⟩ := stored_n w W0 W goods hour x q0 q1 h0 h1 h2 h3 hB
    rw [← hV]
    clear hV
    refine ⟨TA, TB, ⟨⟨⟨⟨⟨TC, TD⟩, TE⟩, by rw [HF.out]; exact TG⟩, TF⟩, Nat.le_trans hS TH⟩⟩
   ·have he2 : decide (x.f3.toList = []) = true := by rw [← he]; cases x.f3.toList <;> rfl
    rcases hh : decide (x.f2 ≤ hour) with _ | _
    ·skip
     have HF : Aq ((pre ++ [x]).foldl (fS_ goods hour) (z26, z26) = (q0, q1)) := ⟨by rw [HF.out]; unfold fS_; simp only [hg, he, hh, if_true, if_false, Bool.false_or, Bool.true_or, Bool.and_true, Bool.true_and, Bool.and_false, Bool.false_and, Bool.false_eq_true]⟩
     gi_wp2
     refine wpIn_mono (guard_1 lo Bx A c l goods hour k x q0 q1 w W hx2 hx3 hh0 hq0 hq2 hq9 hq11 he hh) ?_
     rintro e b W' ⟨rfl, rfl, v21, v22, v23, v24, v25, v26, v27, v28, v29, v30, v31, v32, v33, v34, v35, v36, v37, v38, v39, v40, v41, v42, v43, v44, v45, v46, v47, v48, rfl⟩
     gi_wp2
     obtain ⟨V, hV, TA, TB, TC, TD, TE, TG, TF, TH⟩ := stored_n w W0 W goods hour x q0 q1 h0 h1 h2 h3 hB
     rw [← hV]
     clear hV
     refine ⟨TA, TB, ⟨⟨⟨⟨⟨TC, TD⟩, TE⟩, by rw [HF.out]; exact TG⟩, TF⟩, Nat.le_trans hS TH⟩⟩
    ·rcases hi : (q1.f0 == 0) with _ | _
     ·rcases hj : decide (q1.f2 ≤ x.f2) with _ | _
      ·skip
       have HF : Aq ((pre ++ [x]).foldl (fS_ goods hour) (z26, z26) = (q0, q1)) := ⟨by rw [HF.out]; unfold fS_; simp only [hg, he, hh, hi, hj, if_true, if_false, Bool.false_or, Bool.true_or, Bool.and_true, Bool.true_and, Bool.and_false, Bool.false_and, Bool.false_eq_true]⟩
       gi_wp2
       refine wpIn_mono (guard_2 lo Bx A c l goods hour k x q0 q1 w W hx2 hx3 hh0 hq0 hq2 hq9 hq11 he hh hi hj) ?_
       rintro e b W' ⟨rfl, rfl, v21, v22, v23, v24, v25, v26, v27, v28, v29, v30, v31, v32, v33, v34, v35, v36, v37, v38, v39, v40, v41, v42, v43, v44, v45, v46, v47, v48, rfl⟩
       gi_wp2
       obtain ⟨V, hV, TA, TB, TC, TD, TE, TG, TF, TH⟩ := stored_n w W0 W goods hour x q0 q1 h0 h1 h2 h3 hB
       rw [← hV]
       clear hV
       refine ⟨TA, TB, ⟨⟨⟨⟨⟨TC, TD⟩, TE⟩, by rw [HF.out]; exact TG⟩, TF⟩, Nat.le_trans hS TH⟩⟩
      ·skip
       have HF : Aq ((pre ++ [x]).foldl (fS_ goods hour) (z26, z26) = (q0, x)) := ⟨by rw [HF.out]; unfold fS_; simp only [hg, he, hh, hi, hj, if_true, if_false, Bool.false_or, Bool.true_or, Bool.and_true, Bool.true_and, Bool.and_false, Bool.false_and, Bool.false_eq_true]⟩
       gi_wp2
       refine wpIn_mono (guard_3 lo Bx A c l goods hour k x q0 q1 w W hx2 hx3 hh0 hq0 hq2 hq9 hq11 he hh hi hj) ?_
       rintro e b W' ⟨rfl, rfl, v21, v22, v23, v24, v25, v26, v27, v28, v29, v30, v31, v32, v33, v34, v35, v36, v37, v38, v39, v40, v41, v42, v43, v44, v45, v46, v47, v48, rfl⟩
       gi_wp2
       obtain ⟨V, hV, TA, TB, TC, TD, TE, TG, TF, TH⟩ := stored_1 w W0 W goods hour x q0 q1 h0 h1 h2 h3 hB
       rw [← hV]
       clear hV
       refine ⟨TA, TB, ⟨⟨⟨⟨⟨TC, TD⟩, TE⟩, by rw [HF.out]; exact TG⟩, TF⟩, Nat.le_trans hS TH⟩⟩
     ·skip
      have HF : Aq ((pre ++ [x]).foldl (fS_ goods hour) (z26, z26) = (q0, x)) := ⟨by rw [HF.out]; unfold fS_; simp only [hg, he, hh, hi, if_true, if_false, Bool.false_or, Bool.true_or, Bool.and_true, Bool.true_and, Bool.and_false, Bool.false_and, Bool.false_eq_true]⟩
      gi_wp2
      refine wpIn_mono (guard_4 lo Bx A c l goods hour k x q0 q1 w W hx2 hx3 hh0 hq0 hq2 hq9 hq11 he hh hi) ?_
      rintro e b W' ⟨rfl, rfl, v21, v22, v23, v24, v25, v26, v27, v28, v29, v30, v31, v32, v33, v34, v35, v36, v37, v38, v39, v40, v41, v42, v43, v44, v45, v46, v47, v48, rfl⟩
      gi_wp2
      obtain ⟨V, hV, TA, TB, TC, TD, TE, TG, TF, TH⟩ := stored_1 w W0 W goods hour x q0 q1 h0 h1 h2 h3 hB
      rw [← hV]
      clear hV
      refine ⟨TA, TB, ⟨⟨⟨⟨⟨TC, TD⟩, TE⟩, by rw [HF.out]; exact TG⟩, TF⟩, Nat.le_trans hS TH⟩⟩
  ·rcases hh : decide (x.f2 ≤ hour) with _ | _
   ·skip
    have HF : Aq ((pre ++ [x]).foldl (fS_ goods hour) (z26, z26) = (q0, q1)) := ⟨by rw [HF.out]; unfold fS_; simp only [hg, hh, if_true, if_false, Bool.false_or, Bool.true_or, Bool.and_true, Bool.true_and, Bool.and_false, Bool.false_and, Bool.false_eq_true]⟩
    gi_wp2
    refine wpIn_mono (guard_5 lo Bx A c l goods hour k x q0 q1 w W hx2 hx3 hh0 hq0 hq2 hq9 hq11 hh) ?_
    rintro e b W' ⟨rfl, rfl, v21, v22, v23, v24, v25, v26, v27, v28, v29, v30, v31, v32, v33, v34, v35, v36, v37, v38, v39, v40, v41, v42, v43, v44, v45, v46, v47, v48, rfl⟩
    gi_wp2
    obtain ⟨V, hV, TA, TB, TC, TD, TE, TG, TF, TH⟩ := stored_n w W0 W goods hour x q0 q1 h0 h1 h2 h3 hB
    rw [← hV]
    clear hV
    refine ⟨TA, TB, ⟨⟨⟨⟨⟨TC, TD⟩, TE⟩, by rw [HF.out]; exact TG⟩, TF⟩, Nat.le_trans hS TH⟩⟩
   ·rcases hi : (q0.f0 == 0) with _ | _
    ·rcases hj : decide (q0.f2 ≤ x.f2) with _ | _
     ·skip
      have HF : Aq ((pre ++ [x]).foldl (fS_ goods hour) (z26, z26) = (q0, q1)) := ⟨by rw [HF.out]; unfold fS_; simp only [hg, hh, hi, hj, if_true, if_false, Bool.false_or, Bool.true_or, Bool.and_true, Bool.true_and, Bool.and_false, Bool.false_and, Bool.false_eq_true]⟩
      gi_wp2
      refine wpIn_mono (guard_6 lo Bx A c l goods hour k x q0 q1 w W hx2 hx3 hh0 hq0 hq2 hq9 hq11 hh hi hj) ?_
      rintro e b W' ⟨rfl, rfl, v21, v22, v23, v24, v25, v26, v27, v28, v29, v30, v31, v32, v33, v34, v35, v36, v37, v38, v39, v40, v41, v42, v43, v44, v45, v46, v47, v48, rfl⟩
      gi_wp2
      obtain ⟨V, hV, TA, TB, TC, TD, TE, TG, TF, TH⟩ := stored_n w W0 W goods hour x q0 q1 h0 h1 h2 h3 hB
      rw [← hV]
      clear hV
      refine ⟨TA, TB, ⟨⟨⟨⟨⟨TC, TD⟩, TE⟩, by rw [HF.out]; exact TG⟩, TF⟩, Nat.le_trans hS TH⟩⟩
     ·skip
      have HF : Aq ((pre ++ [x]).foldl (fS_ goods hour) (z26, z26) = (x, q1)) := ⟨by rw [HF.out]; unfold fS_; simp only [hg, hh, hi, hj, if_true, if_false, Bool.false_or, Bool.true_or, Bool.and_true, Bool.true_and, Bool.and_false, Bool.false_and, Bool.false_eq_true]⟩
      gi_wp2
      refine wpIn_mono (guard_7 lo Bx A c l goods hour k x q0 q1 w W hx2 hx3 hh0 hq0 hq2 hq9 hq11 hh hi hj) ?_
      rintro e b W' ⟨rfl, rfl, v21, v22, v23, v24, v25, v26, v27, v28, v29, v30, v31, v32, v33, v34, v35, v36, v37, v38, v39, v40, v41, v42, v43, v44, v45, v46, v47, v48, rfl⟩
      gi_wp2
      obtain ⟨V, hV, TA, TB, TC, TD, TE, TG, TF, TH⟩ := stored_0 w W0 W goods hour x q0 q1 h0 h1 h2 h3 hB
      rw [← hV]
      clear hV
      refine ⟨TA, TB, ⟨⟨⟨⟨⟨TC, TD⟩, TE⟩, by rw [HF.out]; exact TG⟩, TF⟩, Nat.le_trans hS TH⟩⟩
    ·skip
     have HF : Aq ((pre ++ [x]).foldl (fS_ goods hour) (z26, z26) = (x, q1)) := ⟨by rw [HF.out]; unfold fS_; simp only [hg, hh, hi, if_true, if_false, Bool.false_or, Bool.true_or, Bool.and_true, Bool.true_and, Bool.and_false, Bool.false_and, Bool.false_eq_true]⟩
     gi_wp2
     refine wpIn_mono (guard_8 lo Bx A c l goods hour k x q0 q1 w W hx2 hx3 hh0 hq0 hq2 hq9 hq11 hh hi) ?_
     rintro e b W' ⟨rfl, rfl, v21, v22, v23, v24, v25, v26, v27, v28, v29, v30, v31, v32, v33, v34, v35, v36, v37, v38, v39, v40, v41, v42, v43, v44, v45, v46, v47, v48, rfl⟩
     gi_wp2
     obtain ⟨V, hV, TA, TB, TC, TD, TE, TG, TF, TH⟩ := stored_0 w W0 W goods hour x q0 q1 h0 h1 h2 h3 hB
     rw [← hV]
     clear hV
     refine ⟨TA, TB, ⟨⟨⟨⟨⟨TC, TD⟩, TE⟩, by rw [HF.out]; exact TG⟩, TF⟩, Nat.le_trans hS TH⟩⟩
 case done =>
  rintro D ys W hD rfl ⟨⟨⟨⟨⟨h0, h1⟩, h2⟩, h3⟩, hB⟩, hS⟩ hK
  have HV : Aq (forceF l goods hour k = (l.filter (countsR l k)).foldl (fS_ goods hour) (z26, z26)) := ⟨rfl⟩
  generalize (l.filter (countsR l k)).foldl (fS_ goods hour) (z26, z26) = q at h3 HV
  obtain ⟨q0, q1⟩ := q
  obtain ⟨hq0, hq1, hq2, hq3, hq4, hq5, hq6, hq7, hq8, hq9, hq10, hq11, hq12, hq13, hq14, hq15, hq16, hq17, hf0, hf1, hf2, hf3, hf4, hf5, hf6, hf7, hf8, hf9, hf10, hf11, hf12, hf13, hf14, hf15, hf16, hf17⟩ := cf18 h3
  obtain ⟨hr0, hr1, hr2, hr3, hr4, hr5, hr6, hr7, hr8, hg0, hg1, hg2, hg3, hg4, hg5, hg6, hg7, hg8⟩ := cf9 h2
  rcases hp : decide (0 < q0.f0) with _ | _
  ·have HW : Aq (forceV (forceF l goods hour k) = (q1, decide (0 < q1.f0))) := ⟨by rw [HV.out]; unfold forceV; rw [if_neg (by simpa using hp)]⟩
   gi_wp2
   refine wpIn_wide.2 ?_
   go_region
   rename_i hK2
   refine hK2 _ _ ?_
   clear hK2
   gi_wp2
   have B9 : Aq ((((((((((W.setCell ⟨w.heap.size + 1 + 1, 0, none⟩ (.int .i64 q1.f0)).setCell ⟨w.heap.size + 1 + 1, 1, none⟩ (.int .i64 q1.f1)).setCell ⟨w.heap.size + 1 + 1, 2, none⟩ (.int .i64 q1.f2)).setCell ⟨w.heap.size + 1 + 1, 3, none⟩ (.string q1.f3)).setCell ⟨w.heap.size + 1 + 1, 4, none⟩ (.int .i64 q1.f4.f0)).setCell ⟨w.heap.size + 1 + 1, 5, none⟩ (.int .i64 q1.f4.f1)).setCell ⟨w.heap.size + 1 + 1, 6, none⟩ (.int .i64 q1.f5)).setCell ⟨w.heap.size + 1 + 1, 7, none⟩ (.int .i64 q1.f6)).setCell ⟨w.heap.size + 1 + 1, 8, none⟩ (.int .i64 q1.f7)).heap[w.heap.size + 1 + 1]? = some (.cells #[.int .i64 q1.f0, .int .i64 q1.f1, .int .i64 q1.f2, .string q1.f3, .int .i64 q1.f4.f0, .int .i64 q1.f4.f1, .int .i64 q1.f5, .int .i64 q1.f6, .int .i64 q1.f7] 26 (0, 0))) := ⟨pt9 h2⟩
   have BD : Aq ((((((((((W.setCell ⟨w.heap.size + 1 + 1, 0, none⟩ (.int .i64 q1.f0)).setCell ⟨w.heap.size + 1 + 1, 1, none⟩ (.int .i64 q1.f1)).setCell ⟨w.heap.size + 1 + 1, 2, none⟩ (.int .i64 q1.f2)).setCell ⟨w.heap.size + 1 + 1, 3, none⟩ (.string q1.f3)).setCell ⟨w.heap.size + 1 + 1, 4, none⟩ (.int .i64 q1.f4.f0)).setCell ⟨w.heap.size + 1 + 1, 5, none⟩ (.int .i64 q1.f4.f1)).setCell ⟨w.heap.size + 1 + 1, 6, none⟩ (.int .i64 q1.f5)).setCell ⟨w.heap.size + 1 + 1, 7, none⟩ (.int .i64 q1.f6)).setCell ⟨w.heap.size + 1 + 1, 8, none⟩ (.int .i64 q1.f7)).drew.heap[w.heap.size + 1 + 1]? = some (.cells #[.int .i64 q1.f0, .int .i64 q1.f1, .int .i64 q1.f2, .string q1.f3, .int .i64 q1.f4.f0, .int .i64 q1.f4.f1, .int .i64 q1.f5, .int .i64 q1.f6, .int .i64 q1.f7] 26 (0, 0))) := ⟨bD_ B9.out⟩
   have QB : Aq (Below w.heap.size w (((((((((W.setCell ⟨w.heap.size + 1 + 1, 0, none⟩ (.int .i64 q1.f0)).setCell ⟨w.heap.size + 1 + 1, 1, none⟩ (.int .i64 q1.f1)).setCell ⟨w.heap.size + 1 + 1, 2, none⟩ (.int .i64 q1.f2)).setCell ⟨w.heap.size + 1 + 1, 3, none⟩ (.string q1.f3)).setCell ⟨w.heap.size + 1 + 1, 4, none⟩ (.int .i64 q1.f4.f0)).setCell ⟨w.heap.size + 1 + 1, 5, none⟩ (.int .i64 q1.f4.f1)).setCell ⟨w.heap.size + 1 + 1, 6, none⟩ (.int .i64 q1.f5)).setCell ⟨w.heap.size + 1 + 1, 7, none⟩ (.int .i64 q1.f6)).setCell ⟨w.heap.size + 1 + 1, 8, none⟩ (.int .i64 q1.f7)).drew) := ⟨Below.drew (bT_ (bT_ (bT_ (bT_ (bT_ (bT_ (bT_ (bT_ (bT_ (hB) (by omega)) (by omega)) (by omega)) (by omega)) (by omega)) (by omega)) (by omega)) (by omega)) (by omega))⟩
   have QK : Aq ((((((((((W.setCell ⟨w.heap.size + 1 + 1, 0, none⟩ (.int .i64 q1.f0)).setCell ⟨w.heap.size + 1 + 1, 1, none⟩ (.int .i64 q1.f1)).setCell ⟨w.heap.size + 1 + 1, 2, none⟩ (.int .i64 q1.f2)).setCell ⟨w.heap.size + 1 + 1, 3, none⟩ (.string q1.f3)).setCell ⟨w.heap.size + 1 + 1, 4, none⟩ (.int .i64 q1.f4.f0)).setCell ⟨w.heap.size + 1 + 1, 5, none⟩ (.int .i64 q1.f4.f1)).setCell ⟨w.heap.size + 1 + 1, 6, none⟩ (.int .i64 q1.f5)).setCell ⟨w.heap.size + 1 + 1, 7, none⟩ (.int .i64 q1.f6)).setCell ⟨w.heap.size + 1 + 1, 8, none⟩ (.int .i64 q1.f7)).drew.heap[D]? = some (.deferred (some []))) := ⟨(((((((((((KeepsOthers.refl _).trans (KeepsOthers.setCell _ _ _)).trans (KeepsOthers.setCell _ _ _)).trans (KeepsOthers.setCell _ _ _)).trans (KeepsOthers.setCell _ _ _)).trans (KeepsOthers.setCell _ _ _)).trans (KeepsOthers.setCell _ _ _)).trans (KeepsOthers.setCell _ _ _)).trans (KeepsOthers.setCell _ _ _)).trans (KeepsOthers.setCell _ _ _)).trans (KeepsOthers.drew _) : KeepsOthers W (((((((((W.setCell ⟨w.heap.size + 1 + 1, 0, none⟩ (.int .i64 q1.f0)).setCell ⟨w.heap.size + 1 + 1, 1, none⟩ (.int .i64 q1.f1)).setCell ⟨w.heap.size + 1 + 1, 2, none⟩ (.int .i64 q1.f2)).setCell ⟨w.heap.size + 1 + 1, 3, none⟩ (.string q1.f3)).setCell ⟨w.heap.size + 1 + 1, 4, none⟩ (.int .i64 q1.f4.f0)).setCell ⟨w.heap.size + 1 + 1, 5, none⟩ (.int .i64 q1.f4.f1)).setCell ⟨w.heap.size + 1 + 1, 6, none⟩ (.int .i64 q1.f5)).setCell ⟨w.heap.size + 1 + 1, 7, none⟩ (.int .i64 q1.f6)).setCell ⟨w.heap.size + 1 + 1, 8, none⟩ (.int .i64 q1.f7)).drew).same D _ hK rfl⟩
   have Q2 := BD
   clear h0 h1 h2 h3 hB hK B9 BD hq0 hf0 hq1 hf1 hq2 hf2 hq3 hf3 hq4 hf4 hq5 hf5 hq6 hf6 hq7 hf7 hq8 hf8 hq9 hf9 hq10 hf10 hq11 hf11 hq12 hf12 hq13 hf13 hq14 hf14 hq15 hf15 hq16 hf16 hq17 hf17 hr0 hg0 hr1 hg1 hr2 hg2 hr3 hg3 hr4 hg4 hr5 hg5 hr6 hg6 hr7 hg7 hr8 hg8
   generalize (((((((((W.setCell ⟨w.heap.size + 1 + 1, 0, none⟩ (.int .i64 q1.f0)).setCell ⟨w.heap.size + 1 + 1, 1, none⟩ (.int .i64 q1.f1)).setCell ⟨w.heap.size + 1 + 1, 2, none⟩ (.int .i64 q1.f2)).setCell ⟨w.heap.size + 1 + 1, 3, none⟩ (.string q1.f3)).setCell ⟨w.heap.size + 1 + 1, 4, none⟩ (.int .i64 q1.f4.f0)).setCell ⟨w.heap.size + 1 + 1, 5, none⟩ (.int .i64 q1.f4.f1)).setCell ⟨w.heap.size + 1 + 1, 6, none⟩ (.int .i64 q1.f5)).setCell ⟨w.heap.size + 1 + 1, 7, none⟩ (.int .i64 q1.f6)).setCell ⟨w.heap.size + 1 + 1, 8, none⟩ (.int .i64 q1.f7)).drew = V at Q2 QB QK ⊢
   refine ⟨by simp, .inl ⟨_, _, rfl, run_takeDeferred QK.out, ?_⟩⟩
   have R2 : (V.putObj D (.deferred none)).heap[w.heap.size + 1 + 1]? = some (.cells #[.int .i64 q1.f0, .int .i64 q1.f1, .int .i64 q1.f2, .string q1.f3, .int .i64 q1.f4.f0, .int .i64 q1.f4.f1, .int .i64 q1.f5, .int .i64 q1.f6, .int .i64 q1.f7] 26 (0, 0)) := (World.putObj_heap_other (by omega)).trans Q2.out
   have r0 : (V.putObj D (.deferred none)).cell? ⟨w.heap.size + 1 + 1, 0, none⟩ = some (.int .i64 q1.f0) := (bC_ R2 0).trans rfl
   have r1 : (V.putObj D (.deferred none)).cell? ⟨w.heap.size + 1 + 1, 1, none⟩ = some (.int .i64 q1.f1) := (bC_ R2 1).trans rfl
   have r2 : (V.putObj D (.deferred none)).cell? ⟨w.heap.size + 1 + 1, 2, none⟩ = some (.int .i64 q1.f2) := (bC_ R2 2).trans rfl
   have r3 : (V.putObj D (.deferred none)).cell? ⟨w.heap.size + 1 + 1, 3, none⟩ = some (.string q1.f3) := (bC_ R2 3).trans rfl
   have r4 : (V.putObj D (.deferred none)).cell? ⟨w.heap.size + 1 + 1, 4, none⟩ = some (.int .i64 q1.f4.f0) := (bC_ R2 4).trans rfl
   have r5 : (V.putObj D (.deferred none)).cell? ⟨w.heap.size + 1 + 1, 5, none⟩ = some (.int .i64 q1.f4.f1) := (bC_ R2 5).trans rfl
   have r6 : (V.putObj D (.deferred none)).cell? ⟨w.heap.size + 1 + 1, 6, none⟩ = some (.int .i64 q1.f5) := (bC_ R2 6).trans rfl
   have r7 : (V.putObj D (.deferred none)).cell? ⟨w.heap.size + 1 + 1, 7, none⟩ = some (.int .i64 q1.f6) := (bC_ R2 7).trans rfl
   have r8 : (V.putObj D (.deferred none)).cell? ⟨w.heap.size + 1 + 1, 8, none⟩ = some (.int .i64 q1.f7) := (bC_ R2 8).trans rfl
   refine ⟨.tuple #[.agg #[.int .i64 q1.f0, .int .i64 q1.f1, .int .i64 q1.f2, .string q1.f3, .int .i64 q1.f4.f0, .int .i64 q1.f4.f1, .int .i64 q1.f5, .int .i64 q1.f6, .int .i64 q1.f7], .bool (decide (0 < q1.f0))], ?_, by rw [HW.out], QB.out.trans (belowK_b (w := w) (Nat.le_refl _) V D _ _ (by omega) QK.out rfl rfl)⟩
   simp [results, Tryz.f55, go_sem, r0, r1, r2, r3, r4, r5, r6, r7, r8]
  ·have HW : Aq (forceV (forceF l goods hour k) = (q0, true)) := ⟨by rw [HV.out]; unfold forceV; rw [if_pos (by simpa using hp)]⟩
   gi_wp2
   have B9 : Aq ((((((((((W.setCell ⟨w.heap.size + 1 + 1, 0, none⟩ (.int .i64 q0.f0)).setCell ⟨w.heap.size + 1 + 1, 1, none⟩ (.int .i64 q0.f1)).setCell ⟨w.heap.size + 1 + 1, 2, none⟩ (.int .i64 q0.f2)).setCell ⟨w.heap.size + 1 + 1, 3, none⟩ (.string q0.f3)).setCell ⟨w.heap.size + 1 + 1, 4, none⟩ (.int .i64 q0.f4.f0)).setCell ⟨w.heap.size + 1 + 1, 5, none⟩ (.int .i64 q0.f4.f1)).setCell ⟨w.heap.size + 1 + 1, 6, none⟩ (.int .i64 q0.f5)).setCell ⟨w.heap.size + 1 + 1, 7, none⟩ (.int .i64 q0.f6)).setCell ⟨w.heap.size + 1 + 1, 8, none⟩ (.int .i64 q0.f7)).heap[w.heap.size + 1 + 1]? = some (.cells #[.int .i64 q0.f0, .int .i64 q0.f1, .int .i64 q0.f2, .string q0.f3, .int .i64 q0.f4.f0, .int .i64 q0.f4.f1, .int .i64 q0.f5, .int .i64 q0.f6, .int .i64 q0.f7] 26 (0, 0))) := ⟨pt9 h2⟩
   have QB : Aq (Below w.heap.size w (((((((((W.setCell ⟨w.heap.size + 1 + 1, 0, none⟩ (.int .i64 q0.f0)).setCell ⟨w.heap.size + 1 + 1, 1, none⟩ (.int .i64 q0.f1)).setCell ⟨w.heap.size + 1 + 1, 2, none⟩ (.int .i64 q0.f2)).setCell ⟨w.heap.size + 1 + 1, 3, none⟩ (.string q0.f3)).setCell ⟨w.heap.size + 1 + 1, 4, none⟩ (.int .i64 q0.f4.f0)).setCell ⟨w.heap.size + 1 + 1, 5, none⟩ (.int .i64 q0.f4.f1)).setCell ⟨w.heap.size + 1 + 1, 6, none⟩ (.int .i64 q0.f5)).setCell ⟨w.heap.size + 1 + 1, 7, none⟩ (.int .i64 q0.f6)).setCell ⟨w.heap.size + 1 + 1, 8, none⟩ (.int .i64 q0.f7))) := ⟨bT_ (bT_ (bT_ (bT_ (bT_ (bT_ (bT_ (bT_ (bT_ (hB) (by omega)) (by omega)) (by omega)) (by omega)) (by omega)) (by omega)) (by omega)) (by omega)) (by omega)⟩
   have QK : Aq ((((((((((W.setCell ⟨w.heap.size + 1 + 1, 0, none⟩ (.int .i64 q0.f0)).setCell ⟨w.heap.size + 1 + 1, 1, none⟩ (.int .i64 q0.f1)).setCell ⟨w.heap.size + 1 + 1, 2, none⟩ (.int .i64 q0.f2)).setCell ⟨w.heap.size + 1 + 1, 3, none⟩ (.string q0.f3)).setCell ⟨w.heap.size + 1 + 1, 4, none⟩ (.int .i64 q0.f4.f0)).setCell ⟨w.heap.size + 1 + 1, 5, none⟩ (.int .i64 q0.f4.f1)).setCell ⟨w.heap.size + 1 + 1, 6, none⟩ (.int .i64 q0.f5)).setCell ⟨w.heap.size + 1 + 1, 7, none⟩ (.int .i64 q0.f6)).setCell ⟨w.heap.size + 1 + 1, 8, none⟩ (.int .i64 q0.f7)).heap[D]? = some (.deferred (some []))) := ⟨((((((((((KeepsOthers.refl _).trans (KeepsOthers.setCell _ _ _)).trans (KeepsOthers.setCell _ _ _)).trans (KeepsOthers.setCell _ _ _)).trans (KeepsOthers.setCell _ _ _)).trans (KeepsOthers.setCell _ _ _)).trans (KeepsOthers.setCell _ _ _)).trans (KeepsOthers.setCell _ _ _)).trans (KeepsOthers.setCell _ _ _)).trans (KeepsOthers.setCell _ _ _) : KeepsOthers W (((((((((W.setCell ⟨w.heap.size + 1 + 1, 0, none⟩ (.int .i64 q0.f0)).setCell ⟨w.heap.size + 1 + 1, 1, none⟩ (.int .i64 q0.f1)).setCell ⟨w.heap.size + 1 + 1, 2, none⟩ (.int .i64 q0.f2)).setCell ⟨w.heap.size + 1 + 1, 3, none⟩ (.string q0.f3)).setCell ⟨w.heap.size + 1 + 1, 4, none⟩ (.int .i64 q0.f4.f0)).setCell ⟨w.heap.size + 1 + 1, 5, none⟩ (.int .i64 q0.f4.f1)).setCell ⟨w.heap.size + 1 + 1, 6, none⟩ (.int .i64 q0.f5)).setCell ⟨w.heap.size + 1 + 1, 7, none⟩ (.int .i64 q0.f6)).setCell ⟨w.heap.size + 1 + 1, 8, none⟩ (.int .i64 q0.f7))).same D _ hK rfl⟩
   have Q2 := B9
   clear h0 h1 h2 h3 hB hK B9 hq0 hf0 hq1 hf1 hq2 hf2 hq3 hf3 hq4 hf4 hq5 hf5 hq6 hf6 hq7 hf7 hq8 hf8 hq9 hf9 hq10 hf10 hq11 hf11 hq12 hf12 hq13 hf13 hq14 hf14 hq15 hf15 hq16 hf16 hq17 hf17 hr0 hg0 hr1 hg1 hr2 hg2 hr3 hg3 hr4 hg4 hr5 hg5 hr6 hg6 hr7 hg7 hr8 hg8
   generalize (((((((((W.setCell ⟨w.heap.size + 1 + 1, 0, none⟩ (.int .i64 q0.f0)).setCell ⟨w.heap.size + 1 + 1, 1, none⟩ (.int .i64 q0.f1)).setCell ⟨w.heap.size + 1 + 1, 2, none⟩ (.int .i64 q0.f2)).setCell ⟨w.heap.size + 1 + 1, 3, none⟩ (.string q0.f3)).setCell ⟨w.heap.size + 1 + 1, 4, none⟩ (.int .i64 q0.f4.f0)).setCell ⟨w.heap.size + 1 + 1, 5, none⟩ (.int .i64 q0.f4.f1)).setCell ⟨w.heap.size + 1 + 1, 6, none⟩ (.int .i64 q0.f5)).setCell ⟨w.heap.size + 1 + 1, 7, none⟩ (.int .i64 q0.f6)).setCell ⟨w.heap.size + 1 + 1, 8, none⟩ (.int .i64 q0.f7)) = V at Q2 QB QK ⊢
   refine ⟨by simp, .inl ⟨_, _, rfl, run_takeDeferred QK.out, ?_⟩⟩
   have R2 : (V.putObj D (.deferred none)).heap[w.heap.size + 1 + 1]? = some (.cells #[.int .i64 q0.f0, .int .i64 q0.f1, .int .i64 q0.f2, .string q0.f3, .int .i64 q0.f4.f0, .int .i64 q0.f4.f1, .int .i64 q0.f5, .int .i64 q0.f6, .int .i64 q0.f7] 26 (0, 0)) := (World.putObj_heap_other (by omega)).trans Q2.out
   have r0 : (V.putObj D (.deferred none)).cell? ⟨w.heap.size + 1 + 1, 0, none⟩ = some (.int .i64 q0.f0) := (bC_ R2 0).trans rfl
   have r1 : (V.putObj D (.deferred none)).cell? ⟨w.heap.size + 1 + 1, 1, none⟩ = some (.int .i64 q0.f1) := (bC_ R2 1).trans rfl
   have r2 : (V.putObj D (.deferred none)).cell? ⟨w.heap.size + 1 + 1, 2, none⟩ = some (.int .i64 q0.f2) := (bC_ R2 2).trans rfl
   have r3 : (V.putObj D (.deferred none)).cell? ⟨w.heap.size + 1 + 1, 3, none⟩ = some (.string q0.f3) := (bC_ R2 3).trans rfl
   have r4 : (V.putObj D (.deferred none)).cell? ⟨w.heap.size + 1 + 1, 4, none⟩ = some (.int .i64 q0.f4.f0) := (bC_ R2 4).trans rfl
   have r5 : (V.putObj D (.deferred none)).cell? ⟨w.heap.size + 1 + 1, 5, none⟩ = some (.int .i64 q0.f4.f1) := (bC_ R2 5).trans rfl
   have r6 : (V.putObj D (.deferred none)).cell? ⟨w.heap.size + 1 + 1, 6, none⟩ = some (.int .i64 q0.f5) := (bC_ R2 6).trans rfl
   have r7 : (V.putObj D (.deferred none)).cell? ⟨w.heap.size + 1 + 1, 7, none⟩ = some (.int .i64 q0.f6) := (bC_ R2 7).trans rfl
   have r8 : (V.putObj D (.deferred none)).cell? ⟨w.heap.size + 1 + 1, 8, none⟩ = some (.int .i64 q0.f7) := (bC_ R2 8).trans rfl
   refine ⟨.tuple #[.agg #[.int .i64 q0.f0, .int .i64 q0.f1, .int .i64 q0.f2, .string q0.f3, .int .i64 q0.f4.f0, .int .i64 q0.f4.f1, .int .i64 q0.f5, .int .i64 q0.f6, .int .i64 q0.f7], .bool true], ?_, by rw [HW.out], QB.out.trans (belowK_b (w := w) (Nat.le_refl _) V D _ _ (by omega) QK.out rfl rfl)⟩
   simp [results, Tryz.f55, go_sem, r0, r1, r2, r3, r4, r5, r6, r7, r8]
 case stop =>
  rintro D cd pre W _ _ h _
  exact h.elim
def award_inForce.f (l0 : List (S26)) (a1 : ByteArray) (a2 : Int) (a3 : Int) : Option (Int × Int × Int × ByteArray × Int × Int × Int × Int × Int × Bool) :=
 some ((forceV (forceF l0 a1 a2 a3)).1.f0, (forceV (forceF l0 a1 a2 a3)).1.f1, (forceV (forceF l0 a1 a2 a3)).1.f2, (forceV (forceF l0 a1 a2 a3)).1.f3, (forceV (forceF l0 a1 a2 a3)).1.f4.f0, (forceV (forceF l0 a1 a2 a3)).1.f4.f1, (forceV (forceF l0 a1 a2 a3)).1.f5, (forceV (forceF l0 a1 a2 a3)).1.f6, (forceV (forceF l0 a1 a2 a3)).1.f7, (forceV (forceF l0 a1 a2 a3)).2)
theorem award_inForce.calls (A0 : Option Addr) (c0 : Nat) (l0 : List (S26)) (a1 : ByteArray) (a2 : Int) (a3 : Int) (r1 : Int) (r2 : Int) (r3 : Int) (r4 : ByteArray) (r5 : Int) (r6 : Int) (r7 : Int) (r8 : Int) (r9 : Int) (r10 : Bool) (w : World) (hr0 : Kd.C k26 w A0 l0.length l0) (hc0 : l0.length ≤ c0) (h : award_inForce.f l0 a1 a2 a3 = some (r1, r2, r3, r4, r5, r6, r7, r8, r9, r10)) :
  Calls Tryz.prog 55 #[.slice A0 l0.length c0, .string a1, .int .i64 a2, .int .i64 a3] w fun e w' => e = .returned (.tuple #[.agg #[.int .i64 r1, .int .i64 r2, .int .i64 r3, .string r4, .int .i64 r5, .int .i64 r6, .int .i64 r7, .int .i64 r8, .int .i64 r9], .bool r10]) ∧ Below w.heap.size w w' := by
 refine (force_any A0 c0 l0 a1 a2 a3 w hr0).mono fun e w' ⟨he, hw⟩ => ⟨?_, hw⟩
 rw [he]
 unfold award_inForce.f at h
 simp only [Option.some.injEq, Prod.mk.injEq] at h
 obtain ⟨rfl, rfl, rfl, rfl, rfl, rfl, rfl, rfl, rfl, rfl⟩ := h
 rfl
end
end Go.Proofs.YtbicfbnempiocaaGreat.G
