/- Part 2 of what the law's proof rests on: what each function of the program computes, and that the machine's call of it comes to just that. -/
import Derived.RangeFuncNested
import Derived.RangeFuncBound
import Derived.RangeFuncCalls
import Derived.RangeFuncLeaves
import Derived.Shelf.RegionOpen
import Derived.OwnWalkIn
import Derived.TacticsInMore
import Derived.LoopNIn
import Derived.LoopIn
import Derived.Deep.DeepMust
import Derived.Test.YtbicfbnempiocaaGreatZB0
set_option linter.unusedVariables false
set_option linter.unusedSimpArgs false
namespace Go.Proofs.YtbicfbnempiocaaGreatW.PrintLast
theorem i32_w (n : Int) : Go.IntKind.i32.wrap n = Go.RowKit.wrap32 n := by unfold Go.RowKit.wrap32; exact Go.IntKind.wrap_i32 n
end Go.Proofs.YtbicfbnempiocaaGreatW.PrintLast
namespace Go.Proofs.YtbicfbnempiocaaGreat.G
open Go.RowKit Go.Proofs.YtbicfbnempiocaaGreatW.PrintWords Go.Proofs.YtbicfbnempiocaaGreatW.PrintLast Go.Proofs.YtbicfbnempiocaaGreatW.PrintMore
section
attribute [local go_sem] max2_int min2_int max_two min_two max_three min_three max_four min_four
def award_Fees.j0 : Nat → Int → Int → Bool → Int → Int → Int → ByteArray → Int → Int → Int → Int → Int → Int → Int → Int → Int → Int → Int → Int → Int → Int → Option (Int × Int × Int)
 | 0, _, _, _, _, _, _, _, _, _, _, _, _, _, _, _, _, _, _, _, _, _ => none
 | k + 1, x4, x5, x24, x405000, x405001, x405002, x405003, x405004, x405005, x405006, x405007, x405008, x406000, x406001, x406002, x406003, x406004, x406005, x406006, x406007, x406008 => if x24 = true then (some (0, 0, 1)) else (if x406005 > 0 then (if x406006 > 0 then (some (x405006, wrap64 (x405007 * (wrap64 (Int.tdiv (wrap64 ((wrap64 ((wrap64 (x406002 - x406007)) + 100)) - 1)) 100))), 0)) else (some (x405006, x5, 0))) else (if x406006 > 0 then (some (x4, wrap64 (x405007 * (wrap64 (Int.tdiv (wrap64 ((wrap64 ((wrap64 (x406002 - x406007)) + 100)) - 1)) 100))), 0)) else (some (x4, x5, 0))))
def award_Fees.f (k : Nat) (a0_0 : Int) (a0_1 : Int) (a0_2 : Int) (a0_3 : ByteArray) (a0_4 : Int) (a0_5 : Int) (a0_6 : Int) (a0_7 : Int) (a0_8 : Int) (a1_0 : Int) (a1_1 : Int) (a1_2 : Int) (a1_3 : Int) (a1_4 : Int) (a1_5 : Int) (a1_6 : Int) (a1_7 : Int) (a1_8 : Int) : Option (Int × Int × Int) := (award_CheckRate.f k a0_0 a0_1 a0_2 a0_3 a0_4 a0_5 a0_6 a0_7 a0_8).bind fun t406 => (if t406 = 0 then ((award_CheckSale.f k a1_0 a1_1 a1_2 a1_3 a1_4 a1_5 a1_6 a1_7 a1_8).bind fun t407 => (if t407 = 0 then (if a0_8 > 0 then (award_Fees.j0 k 0 0 true a0_0 a0_1 a0_2 a0_3 a0_4 a0_5 a0_6 a0_7 a0_8 a1_0 a1_1 a1_2 a1_3 a1_4 a1_5 a1_6 a1_7 a1_8) else (award_Fees.j0 k 0 0 (decide (a1_8 > 0)) a0_0 a0_1 a0_2 a0_3 a0_4 a0_5 a0_6 a0_7 a0_8 a1_0 a1_1 a1_2 a1_3 a1_4 a1_5 a1_6 a1_7 a1_8)) else (award_Fees.j0 k 0 0 true a0_0 a0_1 a0_2 a0_3 a0_4 a0_5 a0_6 a0_7 a0_8 a1_0 a1_1 a1_2 a1_3 a1_4 a1_5 a1_6 a1_7 a1_8))) else (award_Fees.j0 k 0 0 true a0_0 a0_1 a0_2 a0_3 a0_4 a0_5 a0_6 a0_7 a0_8 a1_0 a1_1 a1_2 a1_3 a1_4 a1_5 a1_6 a1_7 a1_8))
set_option maxHeartbeats 8000000 in
set_option maxRecDepth 100000 in
theorem award_Fees.calls (k : Nat) (a0_0 : Int) (a0_1 : Int) (a0_2 : Int) (a0_3 : ByteArray) (a0_4 : Int) (a0_5 : Int) (a0_6 : Int) (a0_7 : Int) (a0_8 : Int) (a1_0 : Int) (a1_1 : Int) (a1_2 : Int) (a1_3 : Int) (a1_4 : Int) (a1_5 : Int) (a1_6 : Int) (a1_7 : Int) (a1_8 : Int) (r1 : Int) (r2 : Int) (r3 : Int) (w : World) (h : award_Fees.f k a0_0 a0_1 a0_2 a0_3 a0_4 a0_5 a0_6 a0_7 a0_8 a1_0 a1_1 a1_2 a1_3 a1_4 a1_5 a1_6 a1_7 a1_8 = some (r1, r2, r3)) :
  Calls Tryz.prog 24 #[.agg #[.int .i64 a0_0, .int .i64 a0_1, .int .i64 a0_2, .string a0_3, .int .i64 a0_4, .int .i64 a0_5, .int .i64 a0_6, .int .i64 a0_7, .int .i64 a0_8], .agg #[.int .i64 a1_0, .int .i64 a1_1, .int .i64 a1_2, .int .i64 a1_3, .int .i64 a1_4, .int .i64 a1_5, .int .i64 a1_6, .int .i64 a1_7, .int .i64 a1_8]] w fun e w' => e = .returned (.tuple #[.int .i64 r1, .int .i64 r2, .int .i64 r3]) ∧ Below w.heap.size w w' := by
 have hu26 := Tryz.underlying26
 have hu39 := Tryz.underlying39
 have HB := Aq.mk (Below.refl w.heap.size w)
 have H : ((award_CheckRate.f k a0_0 a0_1 a0_2 a0_3 a0_4 a0_5 a0_6 a0_7 a0_8).bind fun t406 => (if t406 = 0 then ((award_CheckSale.f k a1_0 a1_1 a1_2 a1_3 a1_4 a1_5 a1_6 a1_7 a1_8).bind fun t407 => (if t407 = 0 then (if a0_8 > 0 then (award_Fees.j0 k 0 0 true a0_0 a0_1 a0_2 a0_3 a0_4 a0_5 a0_6 a0_7 a0_8 a1_0 a1_1 a1_2 a1_3 a1_4 a1_5 a1_6 a1_7 a1_8) else (award_Fees.j0 k 0 0 (decide (a1_8 > 0)) a0_0 a0_1 a0_2 a0_3 a0_4 a0_5 a0_6 a0_7 a0_8 a1_0 a1_1 a1_2 a1_3 a1_4 a1_5 a1_6 a1_7 a1_8)) else (award_Fees.j0 k 0 0 true a0_0 a0_1 a0_2 a0_3 a0_4 a0_5 a0_6 a0_7 a0_8 a1_0 a1_1 a1_2 a1_3 a1_4 a1_5 a1_6 a1_7 a1_8))) else (award_Fees.j0 k 0 0 true a0_0 a0_1 a0_2 a0_3 a0_4 a0_5 a0_6 a0_7 a0_8 a1_0 a1_1 a1_2 a1_3 a1_4 a1_5 a1_6 a1_7 a1_8))) = some (r1, r2, r3) := h
 clear h
 have HC3 := Aq.mk H
 clear H
 go_enter Tryz.func24, Tryz.ntmps24
 go_upto_region 1 with (first | ((with_reducible refine gD_ (N := 2) rfl ?_); refine bxE (N := 2) #[.int .i64 a0_0, .int .i64 a0_1, .int .i64 a0_2, .string a0_3, .int .i64 a0_4, .int .i64 a0_5, .int .i64 a0_6, .int .i64 a0_7, .int .i64 a0_8] 26 ?_; intro gb404 hg w4 hbox hb; have BK404 := Aq.mk hbox; have GW404 := yS HB hg; have GE404 := yS HB hg; replace HB := yB HB hb; clear hb hbox hg) | ((with_reducible refine gD_ (N := 3) rfl ?_); refine bxE (N := 3) #[.int .i64 a1_0, .int .i64 a1_1, .int .i64 a1_2, .int .i64 a1_3, .int .i64 a1_4, .int .i64 a1_5, .int .i64 a1_6, .int .i64 a1_7, .int .i64 a1_8] 39 ?_; intro gb405 hg w5 hbox hb; have BK405 := Aq.mk hbox; have GW405 := yS HB hg; have GE405 := yS HB hg; have NB404_405 := Aq.mk ((by rw [hg]; exact Nat.ne_of_lt (blk_lt (g := gb404) (o := .cells #[.int .i64 a0_0, .int .i64 a0_1, .int .i64 a0_2, .string a0_3, .int .i64 a0_4, .int .i64 a0_5, .int .i64 a0_6, .int .i64 a0_7, .int .i64 a0_8] 26 (0, 0)) (sK BK404.out)) : gb404 ≠ gb405)); have NB405_404 := Aq.mk ((by rw [hg]; exact Nat.ne_of_gt (blk_lt (g := gb404) (o := .cells #[.int .i64 a0_0, .int .i64 a0_1, .int .i64 a0_2, .string a0_3, .int .i64 a0_4, .int .i64 a0_5, .int .i64 a0_6, .int .i64 a0_7, .int .i64 a0_8] 26 (0, 0)) (sK BK404.out)) : gb405 ≠ gb404)); replace BK404 := Aq.mk (bB_ (g := gb404) (o := .cells #[.int .i64 a0_0, .int .i64 a0_1, .int .i64 a0_2, .string a0_3, .int .i64 a0_4, .int .i64 a0_5, .int .i64 a0_6, .int .i64 a0_7, .int .i64 a0_8] 26 (0, 0)) (sK BK404.out) hb); replace HB := yB HB hb; clear hb hbox hg))
 (try simp only [Act.put, List.setIfInBounds_toArray, List.set_cons_zero, List.set_cons_succ])
 go_cut [24] (fun v24 wc => ∃ (kq : Nat) (x24_2 : Bool), v24 = .bool x24_2 ∧ Aq (award_Fees.j0 kq 0 0 x24_2 a0_0 a0_1 a0_2 a0_3 a0_4 a0_5 a0_6 a0_7 a0_8 a1_0 a1_1 a1_2 a1_3 a1_4 a1_5 a1_6 a1_7 a1_8 = some (r1, r2, r3)) ∧ Aq (kq ≤ k) ∧ Aq (wc.heap[gb404]? = some (.cells #[.int .i64 a0_0, .int .i64 a0_1, .int .i64 a0_2, .string a0_3, .int .i64 a0_4, .int .i64 a0_5, .int .i64 a0_6, .int .i64 a0_7, .int .i64 a0_8] 26 (0, 0))) ∧ Aq (wc.heap[gb405]? = some (.cells #[.int .i64 a1_0, .int .i64 a1_1, .int .i64 a1_2, .int .i64 a1_3, .int .i64 a1_4, .int .i64 a1_5, .int .i64 a1_6, .int .i64 a1_7, .int .i64 a1_8] 39 (0, 0))) ∧ Aq (Below w.heap.size w wc))
 case first =>
  have H := HC3.out
  clear HC3
  replace H := oB H; obtain ⟨t406, A6, H⟩ := H
  replace H := oI H; rcases H with ⟨c7, H⟩ | ⟨c7, H⟩
  ·have c7b0 := bT c7
   have c7b1 := bN c7
   clear c7
   (first | rw [c7b0] | (simp only [i64_w, i32_w]; rw [c7b0]) | skip)
   replace H := oB H; obtain ⟨t407, A8, H⟩ := H
   replace H := oI H; rcases H with ⟨c9, H⟩ | ⟨c9, H⟩
   ·have c9b0 := bT c9
    have c9b1 := bN c9
    clear c9
    replace H := oI H; rcases H with ⟨c10, H⟩ | ⟨c10, H⟩
    ·have c10b0 : decide (0 < a0_8) = true := decide_eq_true c10
     clear c10
     have H' := Aq.mk H
     clear H
     have hnb11 := NB404_405.out
     have hnc11 := NB405_404.out
     obtain ⟨hcz12_0, hcz12_1, hcz12_2, hcz12_3, hcz12_4, hcz12_5, hcz12_6, hcz12_7, hcz12_8, hfz12_0, hfz12_1, hfz12_2, hfz12_3, hfz12_4, hfz12_5, hfz12_6, hfz12_7, hfz12_8⟩ := cf9 BK404.out
     go_wp2_with (first | ((with_reducible refine gD_ (N := 8) rfl ?_); refine gX 8 rfl #[.agg #[.int .i64 a0_0, .int .i64 a0_1, .int .i64 a0_2, .string a0_3, .int .i64 a0_4, .int .i64 a0_5, .int .i64 a0_6, .int .i64 a0_7, .int .i64 a0_8]] (award_CheckRate.calls k a0_0 a0_1 a0_2 a0_3 a0_4 a0_5 a0_6 a0_7 a0_8 t406 _ A6.out) ?_; intro w13 hb; replace BK404 := Aq.mk (bB_ (g := gb404) (o := .cells #[.int .i64 a0_0, .int .i64 a0_1, .int .i64 a0_2, .string a0_3, .int .i64 a0_4, .int .i64 a0_5, .int .i64 a0_6, .int .i64 a0_7, .int .i64 a0_8] 26 (0, 0)) (sK BK404.out) hb); replace BK405 := Aq.mk (bB_ (g := gb405) (o := .cells #[.int .i64 a1_0, .int .i64 a1_1, .int .i64 a1_2, .int .i64 a1_3, .int .i64 a1_4, .int .i64 a1_5, .int .i64 a1_6, .int .i64 a1_7, .int .i64 a1_8] 39 (0, 0)) (sK BK405.out) hb); replace HB := yB HB hb; try clear hb; obtain ⟨hcz14_0, hcz14_1, hcz14_2, hcz14_3, hcz14_4, hcz14_5, hcz14_6, hcz14_7, hcz14_8, hfz14_0, hfz14_1, hfz14_2, hfz14_3, hfz14_4, hfz14_5, hfz14_6, hfz14_7, hfz14_8⟩ := cf9 BK405.out) | (go_at_call 63; (with_reducible refine cX (award_CheckSale.calls k a1_0 a1_1 a1_2 a1_3 a1_4 a1_5 a1_6 a1_7 a1_8 t407 _ A8.out) ?_); intro w15 hb; replace BK404 := Aq.mk (bB_ (g := gb404) (o := .cells #[.int .i64 a0_0, .int .i64 a0_1, .int .i64 a0_2, .string a0_3, .int .i64 a0_4, .int .i64 a0_5, .int .i64 a0_6, .int .i64 a0_7, .int .i64 a0_8] 26 (0, 0)) (sK BK404.out) hb); replace BK405 := Aq.mk (bB_ (g := gb405) (o := .cells #[.int .i64 a1_0, .int .i64 a1_1, .int .i64 a1_2, .int .i64 a1_3, .int .i64 a1_4, .int .i64 a1_5, .int .i64 a1_6, .int .i64 a1_7, .int .i64 a1_8] 39 (0, 0)) (sK BK405.out) hb); replace HB := yB HB hb; try clear hb; obtain ⟨hcz16_0, hcz16_1, hcz16_2, hcz16_3, hcz16_4, hcz16_5, hcz16_6, hcz16_7, hcz16_8, hfz16_0, hfz16_1, hfz16_2, hfz16_3, hfz16_4, hfz16_5, hfz16_6, hfz16_7, hfz16_8⟩ := cf9 BK404.out))
     go_meet
     case rel => exact ⟨_, (true), sS, H', ⟨by first | omega | exact Nat.le_refl _⟩, ⟨sL BK404.out⟩, ⟨sL BK405.out⟩, ⟨sB HB.out⟩⟩
    ·have c10b0 : decide (0 < a0_8) = false := decide_eq_false c10
     clear c10
     have H' := Aq.mk H
     clear H
     have hnb17 := NB404_405.out
     have hnc17 := NB405_404.out
     obtain ⟨hcz18_0, hcz18_1, hcz18_2, hcz18_3, hcz18_4, hcz18_5, hcz18_6, hcz18_7, hcz18_8, hfz18_0, hfz18_1, hfz18_2, hfz18_3, hfz18_4, hfz18_5, hfz18_6, hfz18_7, hfz18_8⟩ := cf9 BK404.out
     go_wp2_with (first | ((with_reducible refine gD_ (N := 8) rfl ?_); refine gX 8 rfl #[.agg #[.int .i64 a0_0, .int .i64 a0_1, .int .i64 a0_2, .string a0_3, .int .i64 a0_4, .int .i64 a0_5, .int .i64 a0_6, .int .i64 a0_7, .int .i64 a0_8]] (award_CheckRate.calls k a0_0 a0_1 a0_2 a0_3 a0_4 a0_5 a0_6 a0_7 a0_8 t406 _ A6.out) ?_; intro w19 hb; replace BK404 := Aq.mk (bB_ (g := gb404) (o := .cells #[.int .i64 a0_0, .int .i64 a0_1, .int .i64 a0_2, .string a0_3, .int .i64 a0_4, .int .i64 a0_5, .int .i64 a0_6, .int .i64 a0_7, .int .i64 a0_8] 26 (0, 0)) (sK BK404.out) hb); replace BK405 := Aq.mk (bB_ (g := gb405) (o := .cells #[.int .i64 a1_0, .int .i64 a1_1, .int .i64 a1_2, .int .i64 a1_3, .int .i64 a1_4, .int .i64 a1_5, .int .i64 a1_6, .int .i64 a1_7, .int .i64 a1_8] 39 (0, 0)) (sK BK405.out) hb); replace HB := yB HB hb; try clear hb; obtain ⟨hcz20_0, hcz20_1, hcz20_2, hcz20_3, hcz20_4, hcz20_5, hcz20_6, hcz20_7, hcz20_8, hfz20_0, hfz20_1, hfz20_2, hfz20_3, hfz20_4, hfz20_5, hfz20_6, hfz20_7, hfz20_8⟩ := cf9 BK405.out) | (go_at_call 63; (with_reducible refine cX (award_CheckSale.calls k a1_0 a1_1 a1_2 a1_3 a1_4 a1_5 a1_6 a1_7 a1_8 t407 _ A8.out) ?_); intro w21 hb; replace BK404 := Aq.mk (bB_ (g := gb404) (o := .cells #[.int .i64 a0_0, .int .i64 a0_1, .int .i64 a0_2, .string a0_3, .int .i64 a0_4, .int .i64 a0_5, .int .i64 a0_6, .int .i64 a0_7, .int .i64 a0_8] 26 (0, 0)) (sK BK404.out) hb); replace BK405 := Aq.mk (bB_ (g := gb405) (o := .cells #[.int .i64 a1_0, .int .i64 a1_1, .int .i64 a1_2, .int .i64 a1_3, .int .i64 a1_4, .int .i64 a1_5, .int .i64 a1_6, .int .i64 a1_7, .int .i64 a1_8] 39 (0, 0)) (sK BK405.out) hb); replace HB := yB HB hb; try clear hb; obtain ⟨hcz22_0, hcz22_1, hcz22_2, hcz22_3, hcz22_4, hcz22_5, hcz22_6, hcz22_7, hcz22_8, hfz22_0, hfz22_1, hfz22_2, hfz22_3, hfz22_4, hfz22_5, hfz22_6, hfz22_7, hfz22_8⟩ := cf9 BK404.out; obtain ⟨hcz23_0, hcz23_1, hcz23_2, hcz23_3, hcz23_4, hcz23_5, hcz23_6, hcz23_7, hcz23_8, hfz23_0, hfz23_1, hfz23_2, hfz23_3, hfz23_4, hfz23_5, hfz23_6, hfz23_7, hfz23_8⟩ := cf9 BK405.out))
     go_meet
     case rel => exact ⟨_, (decide (a1_8 > 0)), sS, H', ⟨by first | omega | exact Nat.le_refl _⟩, ⟨sL BK404.out⟩, ⟨sL BK405.out⟩, ⟨sB HB.out⟩⟩
   ·have c9b0 := bF c9
    have c9b1 := bM c9
    have H' := Aq.mk H
    clear H
    have hnb24 := NB404_405.out
    have hnc24 := NB405_404.out
    obtain ⟨hcz25_0, hcz25_1, hcz25_2, hcz25_3, hcz25_4, hcz25_5, hcz25_6, hcz25_7, hcz25_8, hfz25_0, hfz25_1, hfz25_2, hfz25_3, hfz25_4, hfz25_5, hfz25_6, hfz25_7, hfz25_8⟩ := cf9 BK404.out
    go_wp2_with (first | ((with_reducible refine gD_ (N := 8) rfl ?_); refine gX 8 rfl #[.agg #[.int .i64 a0_0, .int .i64 a0_1, .int .i64 a0_2, .string a0_3, .int .i64 a0_4, .int .i64 a0_5, .int .i64 a0_6, .int .i64 a0_7, .int .i64 a0_8]] (award_CheckRate.calls k a0_0 a0_1 a0_2 a0_3 a0_4 a0_5 a0_6 a0_7 a0_8 t406 _ A6.out) ?_; intro w26 hb; replace BK404 := Aq.mk (bB_ (g := gb404) (o := .cells #[.int .i64 a0_0, .int .i64 a0_1, .int .i64 a0_2, .string a0_3, .int .i64 a0_4, .int .i64 a0_5, .int .i64 a0_6, .int .i64 a0_7, .int .i64 a0_8] 26 (0, 0)) (sK BK404.out) hb); replace BK405 := Aq.mk (bB_ (g := gb405) (o := .cells #[.int .i64 a1_0, .int .i64 a1_1, .int .i64 a1_2, .int .i64 a1_3, .int .i64 a1_4, .int .i64 a1_5, .int .i64 a1_6, .int .i64 a1_7, .int .i64 a1_8] 39 (0, 0)) (sK BK405.out) hb); replace HB := yB HB hb; try clear hb; obtain ⟨hcz27_0, hcz27_1, hcz27_2, hcz27_3, hcz27_4, hcz27_5, hcz27_6, hcz27_7, hcz27_8, hfz27_0, hfz27_1, hfz27_2, hfz27_3, hfz27_4, hfz27_5, hfz27_6, hfz27_7, hfz27_8⟩ := cf9 BK405.out) | (go_at_call 63; (with_reducible refine cX (award_CheckSale.calls k a1_0 a1_1 a1_2 a1_3 a1_4 a1_5 a1_6 a1_7 a1_8 t407 _ A8.out) ?_); intro w28 hb; replace BK404 := Aq.mk (bB_ (g := gb404) (o := .cells #[.int .i64 a0_0, .int .i64 a0_1, .int .i64 a0_2, .string a0_3, .int .i64 a0_4, .int .i64 a0_5, .int .i64 a0_6, .int .i64 a0_7, .int .i64 a0_8] 26 (0, 0)) (sK BK404.out) hb); replace BK405 := Aq.mk (bB_ (g := gb405) (o := .cells #[.int .i64 a1_0, .int .i64 a1_1, .int .i64 a1_2, .int .i64 a1_3, .int .i64 a1_4, .int .i64 a1_5, .int .i64 a1_6, .int .i64 a1_7, .int .i64 a1_8] 39 (0, 0)) (sK BK405.out) hb); replace HB := yB HB hb; try clear hb))
    go_meet
    case rel => exact ⟨_, (true), sS, H', ⟨by first | omega | exact Nat.le_refl _⟩, ⟨sL BK404.out⟩, ⟨sL BK405.out⟩, ⟨sB HB.out⟩⟩
  ·have c7b0 := bF c7
   have c7b1 := bM c7
   (first | rw [c7b0] | (simp only [i64_w, i32_w]; rw [c7b0]) | skip)
   have H' := Aq.mk H
   clear H
   have hnb29 := NB404_405.out
   have hnc29 := NB405_404.out
   obtain ⟨hcz30_0, hcz30_1, hcz30_2, hcz30_3, hcz30_4, hcz30_5, hcz30_6, hcz30_7, hcz30_8, hfz30_0, hfz30_1, hfz30_2, hfz30_3, hfz30_4, hfz30_5, hfz30_6, hfz30_7, hfz30_8⟩ := cf9 BK404.out
   go_wp2_with (first | ((with_reducible refine gD_ (N := 8) rfl ?_); refine gX 8 rfl #[.agg #[.int .i64 a0_0, .int .i64 a0_1, .int .i64 a0_2, .string a0_3, .int .i64 a0_4, .int .i64 a0_5, .int .i64 a0_6, .int .i64 a0_7, .int .i64 a0_8]] (award_CheckRate.calls k a0_0 a0_1 a0_2 a0_3 a0_4 a0_5 a0_6 a0_7 a0_8 t406 _ A6.out) ?_; intro w31 hb; replace BK404 := Aq.mk (bB_ (g := gb404) (o := .cells #[.int .i64 a0_0, .int .i64 a0_1, .int .i64 a0_2, .string a0_3, .int .i64 a0_4, .int .i64 a0_5, .int .i64 a0_6, .int .i64 a0_7, .int .i64 a0_8] 26 (0, 0)) (sK BK404.out) hb); replace BK405 := Aq.mk (bB_ (g := gb405) (o := .cells #[.int .i64 a1_0, .int .i64 a1_1, .int .i64 a1_2, .int .i64 a1_3, .int .i64 a1_4, .int .i64 a1_5, .int .i64 a1_6, .int .i64 a1_7, .int .i64 a1_8] 39 (0, 0)) (sK BK405.out) hb); replace HB := yB HB hb; try clear hb))
   go_meet
   case rel => exact ⟨_, (true), sS, H', ⟨by first | omega | exact Nat.le_refl _⟩, ⟨sL BK404.out⟩, ⟨sL BK405.out⟩, ⟨sB HB.out⟩⟩
 case rest =>
  clear HC3
  obtain ⟨kq, x24_2, rfl, HA, HJ2, BK404, BK405, HB⟩ := hcut
  cases kq with
  | zero => exact absurd HA.out (by simp [award_Fees.j0])
  | succ kj2 =>
   have H := HA.out
   clear HA
   simp only [award_Fees.j0] at H
   replace H := oT H; rcases H with ⟨rfl, H⟩ | ⟨rfl, H⟩
   ·simp only [Option.some.injEq, Prod.mk.injEq] at H
    obtain ⟨rfl, rfl, rfl⟩ := H
    go_wp2
    go_ret3
    exact ⟨sE, sB HB.out⟩
   ·replace H := oI H; rcases H with ⟨c33, H⟩ | ⟨c33, H⟩
    ·have c33b0 : decide (0 < a1_5) = true := decide_eq_true c33
     clear c33
     replace H := oI H; rcases H with ⟨c34, H⟩ | ⟨c34, H⟩
     ·have c34b0 : decide (0 < a1_6) = true := decide_eq_true c34
      clear c34
      simp only [Option.some.injEq, Prod.mk.injEq] at H
      obtain ⟨rfl, rfl, rfl⟩ := H
      have hnb35 := NB405_404.out
      have hnc35 := NB404_405.out
      obtain ⟨hcz36_0, hcz36_1, hcz36_2, hcz36_3, hcz36_4, hcz36_5, hcz36_6, hcz36_7, hcz36_8, hfz36_0, hfz36_1, hfz36_2, hfz36_3, hfz36_4, hfz36_5, hfz36_6, hfz36_7, hfz36_8⟩ := cf9 BK405.out
      obtain ⟨hcz37_0, hcz37_1, hcz37_2, hcz37_3, hcz37_4, hcz37_5, hcz37_6, hcz37_7, hcz37_8, hfz37_0, hfz37_1, hfz37_2, hfz37_3, hfz37_4, hfz37_5, hfz37_6, hfz37_7, hfz37_8⟩ := cf9 BK404.out
      go_wp2
      go_ret3
      exact ⟨sE, sB HB.out⟩
     ·have c34b0 : decide (0 < a1_6) = false := decide_eq_false c34
      clear c34
      simp only [Option.some.injEq, Prod.mk.injEq] at H
      obtain ⟨rfl, rfl, rfl⟩ := H
      have hnb38 := NB405_404.out
      have hnc38 := NB404_405.out
      obtain ⟨hcz39_0, hcz39_1, hcz39_2, hcz39_3, hcz39_4, hcz39_5, hcz39_6, hcz39_7, hcz39_8, hfz39_0, hfz39_1, hfz39_2, hfz39_3, hfz39_4, hfz39_5, hfz39_6, hfz39_7, hfz39_8⟩ := cf9 BK405.out
      obtain ⟨hcz40_0, hcz40_1, hcz40_2, hcz40_3, hcz40_4, hcz40_5, hcz40_6, hcz40_7, hcz40_8, hfz40_0, hfz40_1, hfz40_2, hfz40_3, hfz40_4, hfz40_5, hfz40_6, hfz40_7, hfz40_8⟩ := cf9 BK404.out
      go_wp2
      go_ret3
      exact ⟨sE, sB HB.out⟩
    ·have c33b0 : decide (0 < a1_5) = false := decide_eq_false c33
     clear c33
     replace H := oI H; rcases H with ⟨c41, H⟩ | ⟨c41, H⟩
     ·have c41b0 : decide (0 < a1_6) = true := decide_eq_true c41
      clear c41
      simp only [Option.some.injEq, Prod.mk.injEq] at H
      obtain ⟨rfl, rfl, rfl⟩ := H
      have hnb42 := NB405_404.out
      have hnc42 := NB404_405.out
      obtain ⟨hcz43_0, hcz43_1, hcz43_2, hcz43_3, hcz43_4, hcz43_5, hcz43_6, hcz43_7, hcz43_8, hfz43_0, hfz43_1, hfz43_2, hfz43_3, hfz43_4, hfz43_5, hfz43_6, hfz43_7, hfz43_8⟩ := cf9 BK405.out
      obtain ⟨hcz44_0, hcz44_1, hcz44_2, hcz44_3, hcz44_4, hcz44_5, hcz44_6, hcz44_7, hcz44_8, hfz44_0, hfz44_1, hfz44_2, hfz44_3, hfz44_4, hfz44_5, hfz44_6, hfz44_7, hfz44_8⟩ := cf9 BK404.out
      go_wp2
      go_ret3
      exact ⟨sE, sB HB.out⟩
     ·have c41b0 : decide (0 < a1_6) = false := decide_eq_false c41
      clear c41
      simp only [Option.some.injEq, Prod.mk.injEq] at H
      obtain ⟨rfl, rfl, rfl⟩ := H
      have hnb45 := NB405_404.out
      have hnc45 := NB404_405.out
      obtain ⟨hcz46_0, hcz46_1, hcz46_2, hcz46_3, hcz46_4, hcz46_5, hcz46_6, hcz46_7, hcz46_8, hfz46_0, hfz46_1, hfz46_2, hfz46_3, hfz46_4, hfz46_5, hfz46_6, hfz46_7, hfz46_8⟩ := cf9 BK405.out
      go_wp2
      go_ret3
      exact ⟨sE, sB HB.out⟩
end
section
attribute [local go_sem] max2_int min2_int max_two min_two max_three min_three max_four min_four
mutual
def award_Equal.j0 : Nat → Int → List Int → Bool → Option (List Int × Int)
 | 0, _, _, _ => none
 | k + 1, x0, x1, x15 => if x15 = true then (some (([] : List Int), 1)) else (if 0 ≤ (x1.length : Int) then (if ((x1.length : Int) : Int).toNat ≤ 35184372088832 then ((some (List.replicate ((x1.length : Int) : Int).toNat 0 : List Int)).bind fun y426 => (award_Equal.l0 k x0 x1 y426 (y426.length : Int) 0)) else (none)) else (none))
def award_Equal.l0 : Nat → Int → List Int → List Int → Int → Int → Option (List Int × Int)
 | 0, _, _, _, _, _ => none
 | k + 1, x0, x1, x6, x20, x21 => if x21 < x20 then (if (x1.length : Int) = 0 then (none) else (if 0 ≤ x21 then (if x21 < (x6.length : Int) then ((some (x6.set (x21 : Int).toNat (wrap64 (Int.tdiv x0 (x1.length : Int))) : List Int)).bind fun y429 => (if x21 < (Int.tmod x0 (x1.length : Int)) then (award_Equal.l0 k x0 x1 (y429.set (x21 : Int).toNat (wrap64 ((rd y429 x21) + 1))) x20 (wrap64 (x21 + 1))) else (award_Equal.l0 k x0 x1 y429 x20 (wrap64 (x21 + 1))))) else (none)) else (none))) else (some (x6, 0))
end
def award_Equal.f (k : Nat) (a0 : Int) (l1 : List Int) : Option (List Int × Int) := (award_in.f a0 0 1000000000).bind fun t424 => (if t424 = true then ((award_areParties.f l1).bind fun t425 => (award_Equal.j0 k a0 l1 (!t425))) else (award_Equal.j0 k a0 l1 true))
set_option maxHeartbeats 8000000 in
set_option maxRecDepth 100000 in
theorem award_Equal.calls (k : Nat) (a0 : Int) (A1 : Option Addr) (c1 : Nat) (l1 : List Int) (r1 : List Int) (r2 : Int) (w : World) (hr1 : Kd.C (Kd.int .i64) w A1 l1.length l1) (hc1 : l1.length ≤ c1) (h : award_Equal.f k a0 l1 = some (r1, r2)) :
  Calls Tryz.prog 26 #[.int .i64 a0, .slice A1 l1.length c1] w fun e w' => ∃ v0_ : Value, e = .returned (.tuple #[v0_, .int .i64 r2]) ∧ Kd.R (Kd.int .i64) 3 w' w.heap.size (fun _ => True) v0_ r1 ∧ Below w.heap.size w w' := by
 have HR1 := Aq.mk hr1
 have HC1 := Aq.mk hc1
 clear hr1 hc1
 have HB := Aq.mk (Below.refl w.heap.size w)
 have H : ((award_in.f a0 0 1000000000).bind fun t424 => (if t424 = true then ((award_areParties.f l1).bind fun t425 => (award_Equal.j0 k a0 l1 (!t425))) else (award_Equal.j0 k a0 l1 true))) = some (r1, r2) := h
 clear h
 have HC3 := Aq.mk H
 clear H
 go_enter Tryz.func26, Tryz.ntmps26
 go_upto_region 1 with (fail)
 go_cut [15] (fun v15 wc => ∃ (kq : Nat) (x15_2 : Bool), v15 = .bool x15_2 ∧ Aq (award_Equal.j0 kq a0 l1 x15_2 = some (r1, r2)) ∧ Aq (kq ≤ k) ∧ Aq (Below w.heap.size w wc))
 case first =>
  have H := HC3.out
  clear HC3
  replace H := oB H; obtain ⟨t424, A4, H⟩ := H
  replace H := oT H; rcases H with ⟨rfl, H⟩ | ⟨rfl, H⟩
  ·replace H := oB H; obtain ⟨t425, A6, H⟩ := H
   have H' := Aq.mk H
   clear H
   go_wp2_with (first | ((with_reducible refine gD_ (N := 9) rfl ?_); refine gY 9 rfl #[.int .i64 a0, .int .i64 0, .int .i64 1000000000] (award_in.calls a0 0 1000000000 true _ A4.out) ?_; intro nd) | (go_at_call 67; (with_reducible refine cX (award_areParties.calls _ _ l1 t425 _ ?side1 ?side2 A6.out) ?_); (case side1 => exact sC (Kd.C_below HR1.out (sB HB.out))); (case side2 => exact HC1.out); intro w7 hb; replace HB := yB HB hb; try clear hb))
   go_meet
   case rel => exact ⟨_, (!t425), sS, H', ⟨by first | omega | exact Nat.le_refl _⟩, ⟨sB HB.out⟩⟩
  ·have H' := Aq.mk H
   clear H
   go_wp2_with (first | ((with_reducible refine gD_ (N := 9) rfl ?_); refine gY 9 rfl #[.int .i64 a0, .int .i64 0, .int .i64 1000000000] (award_in.calls a0 0 1000000000 false _ A4.out) ?_; intro nd))
   go_meet
   case rel => exact ⟨_, (true), sS, H', ⟨by first | omega | exact Nat.le_refl _⟩, ⟨sB HB.out⟩⟩
 case rest =>
  clear HC3
  try clear c1
  obtain ⟨kq, x15_2, rfl, HA, HJ2, HB⟩ := hcut
  cases kq with
  | zero => exact absurd HA.out (by simp [award_Equal.j0])
  | succ kj2 =>
   have H := HA.out
   clear HA
   simp only [award_Equal.j0] at H
   replace H := oT H; rcases H with ⟨rfl, H⟩ | ⟨rfl, H⟩
   ·simp only [Option.some.injEq, Prod.mk.injEq] at H
    obtain ⟨rfl, rfl⟩ := H
    go_wp2
    go_ret2
    exact ⟨_, sE, by first | exact Kd.R_nil _ _ _ _ _ | exact Kd.N_nil _ _ _ _ _ | exact Kd.V_nil _ _ _ _ _ | exact Kd.Q_nil _ _ _ _ _ | exact Kd.S_nil _ _ _ _ _, sB HB.out⟩
   ·replace H := oI H; rcases H with ⟨c9, H⟩ | ⟨c9, H⟩
    ·have c9b0 := eq_true c9
     have c9b1 := dT c9
     clear c9
     replace H := oI H; rcases H with ⟨c10, H⟩ | ⟨c10, H⟩
     ·have c10b0 := eq_true c10
      have c10b1 := dT c10
      clear c10
      obtain ⟨y426, hy426⟩ : ∃ y_ : List Int, y_ = (List.replicate ((l1.length : Int) : Int).toNat 0) := ⟨_, rfl⟩
      replace H : (award_Equal.l0 kj2 a0 l1 y426 (y426.length : Int) 0) = some (r1, r2) := by first | (rw [hy426]; with_reducible exact H) | (have H2_ := (Option.bind_some _ _).symm.trans H; rw [hy426]; with_reducible exact H2_) | (have H2_ := (Option.bind_some _ _).symm.trans H; with_reducible exact H2_) | with_reducible exact H | (rw [hy426]; exact H) | exact H
      have Ny426 := Aq.mk hy426
      clear hy426
      have H' := Aq.mk H
      clear H
      go_wp2_with (first | ((with_reducible refine gD_ (N := 18) rfl ?_); refine Kd.R_make (Kd.int .i64) _ 3 rfl (N := 18) rfl 35 _ _ rfl (l1.length : Int) rfl rfl Tryz.underlying35 (.int .i64 0) 8 info3 rfl (by decide) (by omega) 0 (ok := fun _ => True) (okp := fun _ => True) rfl (fun _ hk => hk) trivial (of_decide_eq_true (by first | (with_reducible assumption) | assumption)) (Nat.le_trans (Nat.mul_le_mul_right _ (of_decide_eq_true (by first | (with_reducible assumption) | assumption) : (l1.length : Int).toNat ≤ 35184372088832)) (by omega)) (Below.refl _ _) (Nat.le_refl _) ?_; intro v427 w11 ho12 hb hg_ hnew_; clear hg_ hnew_; (first | rw [← Ny426.out] at ho12 | (simp only [Int.reduceToNat] at ho12; rw [← Ny426.out] at ho12)); have HO428 := Aq.mk (Kd.R_lower ho12 (bZ_ (sB HB.out))); replace HB := yB HB hb; clear hb ho12; obtain ⟨Ao13, co13, eo13⟩ := Kd.R_slice HO428.out; subst eo13))
      go_loopg [21] kj2 (fun kq v21 w' => ∃ (x6_2 : List Int) (x21_2 : Int), v21 = .int .i64 x21_2 ∧ Aq (award_Equal.l0 kq a0 l1 x6_2 (y426.length : Int) x21_2 = some (r1, r2)) ∧ Aq (kq ≤ kj2) ∧ Aq (Kd.R (Kd.int .i64) 3 w' w.heap.size (fun _ => True) (.slice Ao13 y426.length co13) x6_2) ∧ Aq (Below w.heap.size w w'))
      case atStart => exact ⟨(y426), (0), sS, H', ⟨Nat.le_refl _⟩, ⟨sR HO428.out⟩, ⟨sB HB.out⟩⟩
      case round =>
       clear H'
       try clear c1
       try clear c9
       try clear c9b0
       try clear c9b1
       try clear c10
       try clear c10b0
       obtain ⟨x6_2, x21_2, rfl, HA, HK2, HO_6, HB⟩ := hrel
       have hl6_2 := (Kd.R_reads' HO_6.out).1
       rw [hl6_2] at HO_6
       (try simp only [hl6_2])
       cases gk with
       | zero => exact absurd HA.out (by simp [award_Equal.l0])
       | succ k2 =>
        have H := HA.out
        clear HA
        simp only [award_Equal.l0] at H
        replace H := oI H; rcases H with ⟨c14, H⟩ | ⟨c14, H⟩
        ·have c14b0 := dT c14
         (try simp only [hl6_2] at c14b0)
         clear c14
         replace H := oI H; rcases H with ⟨c15, H⟩ | ⟨c15, H⟩
         ·exact absurd H (by simp)
         ·have c15b0 := bF c15
          (try simp only [hl6_2] at c15b0)
          have c15b1 := bM c15
          (try simp only [hl6_2] at c15b1)
          have c15b2 : ¬ (l1 = []) := fun h_ => c15 (by rw [h_]; rfl)
          replace H := oI H; rcases H with ⟨c16, H⟩ | ⟨c16, H⟩
          ·have c16b0 := dT c16
           clear c16
           replace H := oI H; rcases H with ⟨c17, H⟩ | ⟨c17, H⟩
           ·have c17b0 := dT c17
            (try simp only [hl6_2] at c17b0)
            clear c17
            obtain ⟨y429, hy429⟩ : ∃ y_ : List Int, y_ = (x6_2.set (x21_2 : Int).toNat (wrap64 (Int.tdiv a0 (l1.length : Int)))) := ⟨_, rfl⟩
            replace H : (if x21_2 < (Int.tmod a0 (l1.length : Int)) then (award_Equal.l0 k2 a0 l1 (y429.set (x21_2 : Int).toNat (wrap64 ((rd y429 x21_2) + 1))) (y426.length : Int) (wrap64 (x21_2 + 1))) else (award_Equal.l0 k2 a0 l1 y429 (y426.length : Int) (wrap64 (x21_2 + 1)))) = some (r1, r2) := by first | (rw [hy429]; with_reducible exact H) | (have H2_ := (Option.bind_some _ _).symm.trans H; rw [hy429]; with_reducible exact H2_) | (have H2_ := (Option.bind_some _ _).symm.trans H; with_reducible exact H2_) | with_reducible exact H | (rw [hy429]; exact H) | exact H
            have Ny429 := Aq.mk hy429
            clear hy429
            replace H := oI H; rcases H with ⟨c19, H⟩ | ⟨c19, H⟩
            ·have c19b0 := dT c19
             (try simp only [hl6_2] at c19b0)
             clear c19
             obtain ⟨y431, hy431⟩ : ∃ y_ : List Int, y_ = (y429.set (x21_2 : Int).toNat (wrap64 ((rd y429 x21_2) + 1))) := ⟨_, rfl⟩
             replace H : (award_Equal.l0 k2 a0 l1 y431 (y426.length : Int) (wrap64 (x21_2 + 1))) = some (r1, r2) := by first | (rw [hy431]; with_reducible exact H) | (have H2_ := (Option.bind_some _ _).symm.trans H; rw [hy431]; with_reducible exact H2_) | (have H2_ := (Option.bind_some _ _).symm.trans H; with_reducible exact H2_) | with_reducible exact H | (rw [hy431]; exact H) | exact H
             have Ny431 := Aq.mk hy431
             clear hy431
             have H' := Aq.mk H
             clear H
             have p18 : 0 ≤ (x21_2 : Int) := oA
             have q18 : (x21_2 : Int) < ((x6_2.length : Int) : Int) := oA
             obtain ⟨go18, co18, eo18, gb18, gl18, cl18, HG18⟩ := Kd.R_form HO_6.out (by omega)
             (first | cases eo18 | (injection eo18 with ea_ en_ ec_; (first | subst ea_ | (injection ea_ with ea_; subst ea_)); subst ec_; clear en_))
             have GB18 := Aq.mk gb18
             have GG18 := Aq.mk HG18
             clear gb18 gl18 HG18
             obtain ⟨hx18_0, hf18_0⟩ := Kd.R_celln 0 HO_6.out (x21_2 : Int) p18 q18
             replace p18 := eq_true p18
             replace q18 := eq_true q18
             have HP21 := Kd.R_putg HO_6.out (x21_2 : Int) (wrap64 (Int.tdiv a0 (l1.length : Int)))
             go_wp2_with (first | ((with_reducible refine gate_store (t := 3) (p := 30) rfl ?_); refine store_event (t := 3) (p := 30) (v := ?vo_w22) (w1 := (wr.setCell ⟨go18, (x21_2 : Int).toNat, none⟩ (.int .i64 (wrap64 (Int.tdiv a0 (l1.length : Int)))))) ?hg ?ho ?hn ?hr ?_; (case ho => rfl); (case hg => rfl); (case hn => rfl); (case hr => first | (go_simp; done) | (go_simp; rfl)); intro w22 hw; have hg : wr.grownBy w22 (some go18) := (by rw [hw]; exact HP21.2); have hp_ : Kd.R (Kd.int .i64) 3 w22 w.heap.size (fun _ => True) (.slice (some ⟨go18, 0, none⟩) x6_2.length co13) y429 := (by rw [hw, Ny429.out]; exact HP21.1); clear HP21; replace HO_6 := Aq.mk hp_; replace HB := Aq.mk ((by rw [hw]; exact bT_ (HB.out) GB18.out : Below w.heap.size w w22)); clear hg hw hp_; have p430 : 0 ≤ (x21_2 : Int) := oA; have q430 : x21_2 < (y429.length : Int) := (by have h_ : (x21_2 : Int) < ((x6_2.length : Int) : Int) := oA; first | (have e_ := (Kd.R_reads' HO_6.out).1; omega) | simpa only [Ny429.out, List.length_set] using h_); have ql430 : ((x21_2 : Int) < ((x6_2.length : Int) : Int)) = True := eq_true (of_decide_eq_true (by first | (with_reducible assumption) | assumption)); obtain ⟨ad430, e430, hx430_0⟩ := Kd.at_int (Kd.R_reads' HO_6.out).2.2 x21_2 p430 q430; obtain rfl : (⟨go18, 0, none⟩ : Addr) = ad430 := (by injection e430); (first | simp only [add_plain] at hx430_0 | simp only [add_at] at hx430_0 | simp only [Addr.add, Nat.zero_add] at hx430_0 | skip); replace p430 := eq_true p430; replace q430 := eq_true q430; have p20 : 0 ≤ (x21_2 : Int) := oA; have q20 : (x21_2 : Int) < ((x6_2.length : Int) : Int) := oA; obtain ⟨hx20_0, hf20_0⟩ := Kd.R_celln 0 HO_6.out (x21_2 : Int) p20 q20; replace p20 := eq_true p20; replace q20 := eq_true q20; obtain ⟨hy23_, hz23_⟩ := Kd.R_celln 0 HO_6.out (x21_2 : Int) (of_decide_eq_true (by first | (with_reducible assumption) | assumption)) (of_decide_eq_true (by first | (with_reducible assumption) | assumption)); have HP23 := Kd.R_putg HO_6.out (x21_2 : Int) (wrap64 ((rd y429 x21_2) + 1))) | ((with_reducible refine gate_store (t := 3) (p := 42) rfl ?_); refine store_event (t := 3) (p := 42) (v := ?vo_w24) (w1 := (w22.setCell ⟨go18, (x21_2 : Int).toNat, none⟩ (.int .i64 (wrap64 ((rd y429 x21_2) + 1))))) ?hg ?ho ?hn ?hr ?_; (case ho => rfl); (case hg => rfl); (case hn => rfl); (case hr => first | (go_simp; done) | (go_simp; rfl)); intro w24 hw; have hg : w22.grownBy w24 (some go18) := (by rw [hw]; exact HP23.2); have hp_ : Kd.R (Kd.int .i64) 3 w24 w.heap.size (fun _ => True) (.slice (some ⟨go18, 0, none⟩) x6_2.length co13) y431 := (by rw [hw, Ny431.out]; exact HP23.1); clear HP23; replace HO_6 := Aq.mk hp_; replace HB := Aq.mk ((by rw [hw]; exact bT_ (HB.out) GB18.out : Below w.heap.size w w24)); clear hg hw hp_))
             (try simp only [← hl6_2])
             go_roundg k2
             case measure => have := HJ2.out; have := HK2.out; omega
             case rel => exact ⟨(y431), (wrap64 (x21_2 + 1)), sS, H', ⟨by have := HJ2.out; have := HK2.out; omega⟩, ⟨by (try simp only [hl6_2]); refine wR ?_; exact HO_6.out⟩, ⟨sB HB.out⟩⟩
            ·have c19b0 := dF c19
             (try simp only [hl6_2] at c19b0)
             clear c19
             have H' := Aq.mk H
             clear H
             have p18 : 0 ≤ (x21_2 : Int) := oA
             have q18 : (x21_2 : Int) < ((x6_2.length : Int) : Int) := oA
             obtain ⟨go18, co18, eo18, gb18, gl18, cl18, HG18⟩ := Kd.R_form HO_6.out (by omega)
             (first | cases eo18 | (injection eo18 with ea_ en_ ec_; (first | subst ea_ | (injection ea_ with ea_; subst ea_)); subst ec_; clear en_))
             have GB18 := Aq.mk gb18
             have GG18 := Aq.mk HG18
             clear gb18 gl18 HG18
             obtain ⟨hx18_0, hf18_0⟩ := Kd.R_celln 0 HO_6.out (x21_2 : Int) p18 q18
             replace p18 := eq_true p18
             replace q18 := eq_true q18
             have HP25 := Kd.R_putg HO_6.out (x21_2 : Int) (wrap64 (Int.tdiv a0 (l1.length : Int)))
             go_wp2_with (first | ((with_reducible refine gate_store (t := 3) (p := 30) rfl ?_); refine store_event (t := 3) (p := 30) (v := ?vo_w26) (w1 := (wr.setCell ⟨go18, (x21_2 : Int).toNat, none⟩ (.int .i64 (wrap64 (Int.tdiv a0 (l1.length : Int)))))) ?hg ?ho ?hn ?hr ?_; (case ho => rfl); (case hg => rfl); (case hn => rfl); (case hr => first | (go_simp; done) | (go_simp; rfl)); intro w26 hw; have hg : wr.grownBy w26 (some go18) := (by rw [hw]; exact HP25.2); have hp_ : Kd.R (Kd.int .i64) 3 w26 w.heap.size (fun _ => True) (.slice (some ⟨go18, 0, none⟩) x6_2.length co13) y429 := (by rw [hw, Ny429.out]; exact HP25.1); clear HP25; replace HO_6 := Aq.mk hp_; replace HB := Aq.mk ((by rw [hw]; exact bT_ (HB.out) GB18.out : Below w.heap.size w w26)); clear hg hw hp_))
             (try simp only [← hl6_2])
             go_roundg k2
             case measure => have := HJ2.out; have := HK2.out; omega
             case rel => exact ⟨(y429), (wrap64 (x21_2 + 1)), sS, H', ⟨by have := HJ2.out; have := HK2.out; omega⟩, ⟨by (try simp only [hl6_2]); refine wR ?_; exact HO_6.out⟩, ⟨sB HB.out⟩⟩
           ·exact absurd H (by simp)
          ·exact absurd H (by simp)
        ·have c14b0 := dF c14
         (try simp only [hl6_2] at c14b0)
         clear c14
         simp only [Option.some.injEq, Prod.mk.injEq] at H
         obtain ⟨rfl, rfl⟩ := H
         go_wp2
         go_ret2
         exact ⟨_, sE, sR HO_6.out, sB HB.out⟩
     ·exact absurd H (by simp)
    ·exact absurd H (by simp)
end
section
open Go.Shelf
set_option maxRecDepth 100000 in
set_option maxHeartbeats 2000000 in
theorem index_Frac (g : Nat) (lb : Array Value) (p : S24 → Bool) (A : Option Addr) (c : Nat) (l : List S24) (w : World)
  (eg : ∀ args w, (callFunc g args).run Tryz.prog w = .ok (.enter g args) w)
  (hp : ∀ (W : World) (x : S24), x ∈ l → Below w.heap.size w W → Calls Tryz.prog g (#[.agg #[.int .i64 x.f0, .int .i64 x.f1]] ++ lb) W fun e W' => e = .returned (.bool (p x)) ∧ Below w.heap.size w W')
  (hr : Kd.C k24 w A l.length l) :
  Calls Tryz.prog 174 #[.slice A l.length c, .func (.func g) #[] lb] w fun e w' => e = .returned (.int .i64 (idxOf p l)) ∧ Below w.heap.size w w' := by
 have hm : l.length ≤ 9223372036854775807 := hr.2.1
 have HR := Aq.mk hr
 have HP := Aq.mk hp
 clear hr hp
 go_enter Tryz.func174, Tryz.ntmps174
 go_wp2
 go_loopg [5, 8] l.length (fun gg _ s8 wr => ∃ kk : Nat, kk ≤ l.length ∧ l.length - kk ≤ gg ∧ s8 = .int .i64 kk ∧ Aq (Below w.heap.size w wr) ∧ Aq (idxOf p l = shifted kk (idxOf p (l.drop kk))))
 case atStart => exact ⟨0, Nat.zero_le _, by omega, rfl, ⟨Below.refl _ w⟩, ⟨shifted_start p l⟩⟩
 case round =>
  obtain ⟨kk, hkk, hg, rfl, BW, A0⟩ := hrel
  by_cases hlt : kk < l.length
  ·have hltz : (kk : Int) < (l.length : Int) := by omega
   have h0 : (0 : Int) ≤ (kk : Int) := by omega
   obtain ⟨ad, e_, hx0, hx1⟩ := at_T24 HR.out (kk : Int) h0 hltz
   cases e_
   obtain ⟨HX, HD⟩ := rdT24_drop l kk hlt
   generalize rd_T24 l (kk : Int) = X at hx0 hx1 HX HD
   replace hx0 := (BW.out.cell (World.block_lt_of_cell? w _ hx0)).trans hx0
   replace hx1 := (BW.out.cell (World.block_lt_of_cell? w _ hx1)).trans hx1
   simp only [Int.toNat_natCast] at hx0 hx1
   have hcall := HP.out wr X (by exact HX) BW.out
   have hd : l.drop kk = X :: l.drop (kk + 1) := HD
   cases hq : p X with
   | true =>
    rw [hq] at hcall
    have HF : Aq (idxOf p l = kk) := ⟨by rw [A0.out, hd, idxOf_yes hq]; simp [shifted]⟩
    clear hd A0 HX HD
    go_wp2_with (go_at_fn g; refine hcall.mono ?_; rintro e w' ⟨rfl, hb'⟩)
    go_ret
    exact ⟨by rw [HF.out]; rfl, hb'⟩
   | false =>
    rw [hq] at hcall
    have HF : Aq (idxOf p l = shifted (kk + 1) (idxOf p (l.drop (kk + 1)))) := ⟨by rw [A0.out, hd, idxOf_no hq, shifted_shifted]⟩
    clear hd A0 HX HD
    go_wp2_with (go_at_fn g; refine hcall.mono ?_; rintro e w' ⟨rfl, hb'⟩)
    go_roundg (l.length - (kk + 1))
    case measure => omega
    case rel => exact ⟨kk + 1, by omega, by omega, by go_num, ⟨hb'⟩, HF⟩
  ·have hltz : ¬ (kk : Int) < (l.length : Int) := by omega
   have HF : Aq (idxOf p l = -1) := ⟨by rw [A0.out, List.drop_eq_nil_of_le (by omega)]; rfl⟩
   clear A0
   go_wp2
   go_ret
   exact ⟨by rw [HF.out]; rfl, BW.out⟩
theorem contains_Frac (g : Nat) (lb : Array Value) (p : S24 → Bool) (A : Option Addr) (c : Nat) (l : List S24) (w : World)
  (eg : ∀ args w, (callFunc g args).run Tryz.prog w = .ok (.enter g args) w)
  (hp : ∀ (W : World) (x : S24), x ∈ l → Below w.heap.size w W → Calls Tryz.prog g (#[.agg #[.int .i64 x.f0, .int .i64 x.f1]] ++ lb) W fun e W' => e = .returned (.bool (p x)) ∧ Below w.heap.size w W')
  (hr : Kd.C k24 w A l.length l) :
  Calls Tryz.prog 140 #[.slice A l.length c, .func (.func g) #[] lb] w fun e w' => e = .returned (.bool (l.any p)) ∧ Below w.heap.size w w' := by
 have HI := Aq.mk (index_Frac g lb p A c l w eg hp hr)
 have HA := Aq.mk (idxOf_any p l)
 clear hp hr eg
 generalize idxOf p l = n at HI HA
 generalize l.any p = b at HA
 go_enter Tryz.func140, Tryz.ntmps140
 go_wp2_with (go_at_call 174; refine HI.out.mono ?_; rintro e w' ⟨rfl, hb'⟩)
 go_ret
 exact ⟨by rw [HA.out]; rfl, hb'⟩
end
section
open Go.Shelf
set_option maxRecDepth 100000 in
set_option maxHeartbeats 1000000 in
theorem head_rate (X : S26) (w : World) : Calls Tryz.prog 115 #[.agg #[.int .i64 X.f0, .int .i64 X.f1, .int .i64 X.f2, .string X.f3, .int .i64 X.f4.f0, .int .i64 X.f4.f1, .int .i64 X.f5, .int .i64 X.f6, .int .i64 X.f7]] w fun e w' => e = .returned (.agg #[.int .i64 X.f0, .int .i64 X.f1, .int .i64 X.f7]) ∧ w' = ((w.alloc (.cells #[.int .i64 X.f0, .int .i64 X.f1, .int .i64 X.f2, .string X.f3, .int .i64 X.f4.f0, .int .i64 X.f4.f1, .int .i64 X.f5, .int .i64 X.f6, .int .i64 X.f7] 26)).alloc (.cells #[.int .i64 X.f0, .int .i64 X.f1, .int .i64 X.f7] 143)).alloc (.cells #[.int .i64 X.f0, .int .i64 X.f1, .int .i64 X.f2, .string X.f3, .int .i64 X.f4.f0, .int .i64 X.f4.f1, .int .i64 X.f5, .int .i64 X.f6, .int .i64 X.f7] 26) := by
 have hta : ∀ (v : Value) (W : World), (Instr.typeAssert (.iface 26 v) 20 26 true).run Tryz.prog W = .ok (.tuple #[v, .bool true]) W := fun v W => by rfl
 go_enter Tryz.func115, Tryz.ntmps115
 go_wp2
 exact bodyPost_ret (v := .agg #[.int .i64 X.f0, .int .i64 X.f1, .int .i64 X.f7]) (by simp [results, Tryz.results115, go_sem]) rfl ⟨rfl, rfl⟩
set_option maxRecDepth 100000 in
set_option maxHeartbeats 1000000 in
theorem head_sale (X : S39) (w : World) : Calls Tryz.prog 128 #[.agg #[.int .i64 X.f0, .int .i64 X.f1, .int .i64 X.f2, .int .i64 X.f3, .int .i64 X.f4, .int .i64 X.f5, .int .i64 X.f6, .int .i64 X.f7, .int .i64 X.f8]] w fun e w' => e = .returned (.agg #[.int .i64 X.f0, .int .i64 X.f1, .int .i64 X.f8]) ∧ w' = ((w.alloc (.cells #[.int .i64 X.f0, .int .i64 X.f1, .int .i64 X.f2, .int .i64 X.f3, .int .i64 X.f4, .int .i64 X.f5, .int .i64 X.f6, .int .i64 X.f7, .int .i64 X.f8] 39)).alloc (.cells #[.int .i64 X.f0, .int .i64 X.f1, .int .i64 X.f8] 143)).alloc (.cells #[.int .i64 X.f0, .int .i64 X.f1, .int .i64 X.f2, .int .i64 X.f3, .int .i64 X.f4, .int .i64 X.f5, .int .i64 X.f6, .int .i64 X.f7, .int .i64 X.f8] 39) := by
 have hta : ∀ (v : Value) (W : World), (Instr.typeAssert (.iface 39 v) 20 39 true).run Tryz.prog W = .ok (.tuple #[v, .bool true]) W := fun v W => by rfl
 have htb : ∀ (v : Value) (W : World), (Instr.typeAssert (.iface 39 v) 20 26 true).run Tryz.prog W = .ok (.tuple #[.agg #[.int .i64 0, .int .i64 0, .int .i64 0, .string ⟨#[]⟩, .int .i64 0, .int .i64 0, .int .i64 0, .int .i64 0, .int .i64 0], .bool false]) W := fun v W => by rfl
 go_enter Tryz.func128, Tryz.ntmps128
 go_wp2
 exact bodyPost_ret (v := .agg #[.int .i64 X.f0, .int .i64 X.f1, .int .i64 X.f8]) (by simp [results, Tryz.results128, go_sem]) rfl ⟨rfl, rfl⟩
theorem headB_rate (X : S26) (w : World) : Calls Tryz.prog 115 #[.agg #[.int .i64 X.f0, .int .i64 X.f1, .int .i64 X.f2, .string X.f3, .int .i64 X.f4.f0, .int .i64 X.f4.f1, .int .i64 X.f5, .int .i64 X.f6, .int .i64 X.f7]] w fun e w' => e = .returned (.agg #[.int .i64 X.f0, .int .i64 X.f1, .int .i64 X.f7]) ∧ Below w.heap.size w w' :=
 (head_rate X w).mono fun e w' ⟨he, hw⟩ => by subst hw; exact ⟨he, by repeat (first | exact Below.refl _ _ | apply bA_ | apply pN_ | apply bE_)⟩
theorem headB_sale (X : S39) (w : World) : Calls Tryz.prog 128 #[.agg #[.int .i64 X.f0, .int .i64 X.f1, .int .i64 X.f2, .int .i64 X.f3, .int .i64 X.f4, .int .i64 X.f5, .int .i64 X.f6, .int .i64 X.f7, .int .i64 X.f8]] w fun e w' => e = .returned (.agg #[.int .i64 X.f0, .int .i64 X.f1, .int .i64 X.f8]) ∧ Below w.heap.size w w' :=
 (head_sale X w).mono fun e w' ⟨he, hw⟩ => by subst hw; exact ⟨he, by repeat (first | exact Below.refl _ _ | apply bA_ | apply pN_ | apply bE_)⟩
set_option maxRecDepth 100000 in
set_option maxHeartbeats 1000000 in
theorem same_rate (X : S26) (B : Nat) (i k o : Int) (W : World) (hc : W.heap[B]? = some (.cells #[.int .i64 i, .int .i64 k, .int .i64 o] 143 (0, 0))) :
  Calls Tryz.prog 117 #[.agg #[.int .i64 X.f0, .int .i64 X.f1, .int .i64 X.f2, .string X.f3, .int .i64 X.f4.f0, .int .i64 X.f4.f1, .int .i64 X.f5, .int .i64 X.f6, .int .i64 X.f7], .pointer (some ⟨B, 0, none⟩)] W fun e W' => e = .returned (.bool (X.f0 == i)) ∧ Below W.heap.size W W' := by
 have hB : W.cell? ⟨B, 0, none⟩ = some (.int .i64 i) := (bC_ hc 0).trans rfl
 clear hc
 have hfd0 : ∀ (a b c : Int) (V : World), (Instr.field 143 (.agg #[.int .i64 a, .int .i64 b, .int .i64 c]) 0).run Tryz.prog V = .ok (.int .i64 a) V := fun _ _ _ _ => by rfl
 have hfd1 : ∀ (a b c : Int) (V : World), (Instr.field 143 (.agg #[.int .i64 a, .int .i64 b, .int .i64 c]) 1).run Tryz.prog V = .ok (.int .i64 b) V := fun _ _ _ _ => by rfl
 have hfd2 : ∀ (a b c : Int) (V : World), (Instr.field 143 (.agg #[.int .i64 a, .int .i64 b, .int .i64 c]) 2).run Tryz.prog V = .ok (.int .i64 c) V := fun _ _ _ _ => by rfl
 go_enter Tryz.func117, Tryz.ntmps117
 go_wp2
 go_region_held3 (fun V => V.cell? ⟨W.heap.size, 0, none⟩ = some (.int .i64 X.f0) ∧ V.cell? ⟨W.heap.size, 1, none⟩ = some (.int .i64 X.f1) ∧ V.cell? ⟨W.heap.size, 2, none⟩ = some (.int .i64 X.f2) ∧ V.cell? ⟨W.heap.size, 3, none⟩ = some (.string X.f3) ∧ V.cell? ⟨W.heap.size, 4, none⟩ = some (.int .i64 X.f4.f0) ∧ V.cell? ⟨W.heap.size, 5, none⟩ = some (.int .i64 X.f4.f1) ∧ V.cell? ⟨W.heap.size, 6, none⟩ = some (.int .i64 X.f5) ∧ V.cell? ⟨W.heap.size, 7, none⟩ = some (.int .i64 X.f6) ∧ V.cell? ⟨W.heap.size, 8, none⟩ = some (.int .i64 X.f7) ∧ V.cell? ⟨B, 0, none⟩ = some (.int .i64 i)) (((repeat' apply And.intro) <;> (first | (go_keep; done) | exact pC_ (by repeat (first | exact Below.refl _ _ | apply bA_ | apply pN_ | apply bE_)) hB | exact pC_ (by repeat (first | exact Below.refl _ _ | apply bA_ | apply pN_ | apply bE_)) hk0 | exact pC_ (by repeat (first | exact Below.refl _ _ | apply bA_ | apply pN_ | apply bE_)) hk1 | exact pC_ (by repeat (first | exact Below.refl _ _ | apply bA_ | apply pN_ | apply bE_)) hk2 | exact pC_ (by repeat (first | exact Below.refl _ _ | apply bA_ | apply pN_ | apply bE_)) hk3 | exact pC_ (by repeat (first | exact Below.refl _ _ | apply bA_ | apply pN_ | apply bE_)) hk4 | exact pC_ (by repeat (first | exact Below.refl _ _ | apply bA_ | apply pN_ | apply bE_)) hk5 | exact pC_ (by repeat (first | exact Below.refl _ _ | apply bA_ | apply pN_ | apply bE_)) hk6 | exact pC_ (by repeat (first | exact Below.refl _ _ | apply bA_ | apply pN_ | apply bE_)) hk7 | exact pC_ (by repeat (first | exact Below.refl _ _ | apply bA_ | apply pN_ | apply bE_)) hk8))) (first | (go_at_call 115; refine (head_rate X _).mono ?_; rintro e w' ⟨rfl, rfl⟩))
 all_goals
  go_wp2
  go_ret
  exact ⟨rfl, by repeat (first | exact Below.refl _ _ | apply bA_ | apply pN_ | apply bE_)⟩
set_option maxRecDepth 100000 in
set_option maxHeartbeats 1000000 in
theorem named_rate (X : S26) (B : Nat) (i k o : Int) (W : World) (hc : W.heap[B]? = some (.cells #[.int .i64 i, .int .i64 k, .int .i64 o] 143 (0, 0))) :
  Calls Tryz.prog 118 #[.agg #[.int .i64 X.f0, .int .i64 X.f1, .int .i64 X.f2, .string X.f3, .int .i64 X.f4.f0, .int .i64 X.f4.f1, .int .i64 X.f5, .int .i64 X.f6, .int .i64 X.f7], .pointer (some ⟨B, 0, none⟩)] W fun e W' => e = .returned (.bool (X.f0 == o && X.f7 == 0)) ∧ Below W.heap.size W W' := by
 have hB : W.cell? ⟨B, 2, none⟩ = some (.int .i64 o) := (bC_ hc 2).trans rfl
 clear hc
 have hfd0 : ∀ (a b c : Int) (V : World), (Instr.field 143 (.agg #[.int .i64 a, .int .i64 b, .int .i64 c]) 0).run Tryz.prog V = .ok (.int .i64 a) V := fun _ _ _ _ => by rfl
 have hfd1 : ∀ (a b c : Int) (V : World), (Instr.field 143 (.agg #[.int .i64 a, .int .i64 b, .int .i64 c]) 1).run Tryz.prog V = .ok (.int .i64 b) V := fun _ _ _ _ => by rfl
 have hfd2 : ∀ (a b c : Int) (V : World), (Instr.field 143 (.agg #[.int .i64 a, .int .i64 b, .int .i64 c]) 2).run Tryz.prog V = .ok (.int .i64 c) V := fun _ _ _ _ => by rfl
 cases hq : (X.f0 == o) with
 | true =>
  go_enter Tryz.func118, Tryz.ntmps118
  go_wp2
  refine stT 13 (fun w' => w'.cell? ⟨W.heap.size, 0, none⟩ = some (.int .i64 X.f0) ∧ w'.cell? ⟨W.heap.size, 1, none⟩ = some (.int .i64 X.f1) ∧ w'.cell? ⟨W.heap.size, 2, none⟩ = some (.int .i64 X.f2) ∧ w'.cell? ⟨W.heap.size, 3, none⟩ = some (.string X.f3) ∧ w'.cell? ⟨W.heap.size, 4, none⟩ = some (.int .i64 X.f4.f0) ∧ w'.cell? ⟨W.heap.size, 5, none⟩ = some (.int .i64 X.f4.f1) ∧ w'.cell? ⟨W.heap.size, 6, none⟩ = some (.int .i64 X.f5) ∧ w'.cell? ⟨W.heap.size, 7, none⟩ = some (.int .i64 X.f6) ∧ w'.cell? ⟨W.heap.size, 8, none⟩ = some (.int .i64 X.f7) ∧ w'.cell? ⟨B, 2, none⟩ = some (.int .i64 o)) ⟨(bC_ (bD_ (heap_alloc_new W _)) 0).trans rfl, (bC_ (bD_ (heap_alloc_new W _)) 1).trans rfl, (bC_ (bD_ (heap_alloc_new W _)) 2).trans rfl, (bC_ (bD_ (heap_alloc_new W _)) 3).trans rfl, (bC_ (bD_ (heap_alloc_new W _)) 4).trans rfl, (bC_ (bD_ (heap_alloc_new W _)) 5).trans rfl, (bC_ (bD_ (heap_alloc_new W _)) 6).trans rfl, (bC_ (bD_ (heap_alloc_new W _)) 7).trans rfl, (bC_ (bD_ (heap_alloc_new W _)) 8).trans rfl, pC_ (by exact bE_ (bA_ (Below.refl _ _) _)) hB⟩ (fun hHeld => ?_)
  have HB := Aq.mk (bE_ (bA_ (Below.refl W.heap.size W) (.cells #[.int .i64 X.f0, .int .i64 X.f1, .int .i64 X.f2, .string X.f3, .int .i64 X.f4.f0, .int .i64 X.f4.f1, .int .i64 X.f5, .int .i64 X.f6, .int .i64 X.f7] 26)))
  generalize (W.alloc (.cells #[.int .i64 X.f0, .int .i64 X.f1, .int .i64 X.f2, .string X.f3, .int .i64 X.f4.f0, .int .i64 X.f4.f1, .int .i64 X.f5, .int .i64 X.f6, .int .i64 X.f7] 26)).drew = w1 at HB hHeld ⊢
  refine pI 3 7 ?_
  refine tI 0 4 hHeld ?_
  refine tI 4 8 hHeld ?_
  refine one_ (i := 1) (N := some 5) #[true, true, false, true, true, false, false, false, false, false, false, false, false] rfl rfl (by kernel_rfl) (by decide) (fun K hK => ?_)
  refine goes_ Tryz.func115 (by kernel_rfl) rfl #[.agg #[.int .i64 X.f0, .int .i64 X.f1, .int .i64 X.f2, .string X.f3, .int .i64 X.f4.f0, .int .i64 X.f4.f1, .int .i64 X.f5, .int .i64 X.f6, .int .i64 X.f7]] (by rfl) rfl rfl (by simp only [List.map_toArray, List.map_cons, List.map_nil]; rfl) ?_
  with_reducible refine (headB_rate X _).mono ?_
  rintro e w' ⟨rfl, hb⟩
  refine ⟨_, rfl, ?_⟩
  have HB3 := Aq.mk (bS_ HB.out hb)
  clear HB
  have HB := HB3
  clear HB3
  refine hK.out _ _ (hh hb hHeld) (fun hHeld => ?_)
  clear hK K
  refine nM 5 ?_
  refine pI 2 6 ?_
  refine pI 5 9 ?_
  refine pI 6 10 ?_
  refine tI 7 11 hHeld ?_
  refine one_ (i := 8) (N := some 12) #[true, true, true, true, true, true, true, true, true, false, false, false, false] rfl rfl (by kernel_rfl) (by decide) (fun K hK => ?_)
  refine goes_ Tryz.func115 (by kernel_rfl) rfl #[.agg #[.int .i64 X.f0, .int .i64 X.f1, .int .i64 X.f2, .string X.f3, .int .i64 X.f4.f0, .int .i64 X.f4.f1, .int .i64 X.f5, .int .i64 X.f6, .int .i64 X.f7]] (by rfl) rfl rfl (by simp only [List.map_toArray, List.map_cons, List.map_nil]; rfl) ?_
  with_reducible refine (headB_rate X _).mono ?_
  rintro e w' ⟨rfl, hb⟩
  refine ⟨_, rfl, ?_⟩
  have HB3 := Aq.mk (bS_ HB.out hb)
  clear HB
  have HB := HB3
  clear HB3
  refine hK.out _ _ (hh hb hHeld) (fun hHeld => ?_)
  clear hK K
  refine nM 12 ?_
  refine pI 9 13 ?_
  refine pI 10 14 ?_
  refine pI 11 15 ?_
  refine pI 12 3 ?_
  refine done_ (by kernel_rfl) ?_
  go_wp2
  go_ret
  exact ⟨by simp, HB.out⟩
 | false =>
  go_enter Tryz.func118, Tryz.ntmps118
  go_wp2
  refine stT 13 (fun w' => w'.cell? ⟨W.heap.size, 0, none⟩ = some (.int .i64 X.f0) ∧ w'.cell? ⟨W.heap.size, 1, none⟩ = some (.int .i64 X.f1) ∧ w'.cell? ⟨W.heap.size, 2, none⟩ = some (.int .i64 X.f2) ∧ w'.cell? ⟨W.heap.size, 3, none⟩ = some (.string X.f3) ∧ w'.cell? ⟨W.heap.size, 4, none⟩ = some (.int .i64 X.f4.f0) ∧ w'.cell? ⟨W.heap.size, 5, none⟩ = some (.int .i64 X.f4.f1) ∧ w'.cell? ⟨W.heap.size, 6, none⟩ = some (.int .i64 X.f5) ∧ w'.cell? ⟨W.heap.size, 7, none⟩ = some (.int .i64 X.f6) ∧ w'.cell? ⟨W.heap.size, 8, none⟩ = some (.int .i64 X.f7) ∧ w'.cell? ⟨B, 2, none⟩ = some (.int .i64 o)) ⟨(bC_ (bD_ (heap_alloc_new W _)) 0).trans rfl, (bC_ (bD_ (heap_alloc_new W _)) 1).trans rfl, (bC_ (bD_ (heap_alloc_new W _)) 2).trans rfl, (bC_ (bD_ (heap_alloc_new W _)) 3).trans rfl, (bC_ (bD_ (heap_alloc_new W _)) 4).trans rfl, (bC_ (bD_ (heap_alloc_new W _)) 5).trans rfl, (bC_ (bD_ (heap_alloc_new W _)) 6).trans rfl, (bC_ (bD_ (heap_alloc_new W _)) 7).trans rfl, (bC_ (bD_ (heap_alloc_new W _)) 8).trans rfl, pC_ (by exact bE_ (bA_ (Below.refl _ _) _)) hB⟩ (fun hHeld => ?_)
  have HB := Aq.mk (bE_ (bA_ (Below.refl W.heap.size W) (.cells #[.int .i64 X.f0, .int .i64 X.f1, .int .i64 X.f2, .string X.f3, .int .i64 X.f4.f0, .int .i64 X.f4.f1, .int .i64 X.f5, .int .i64 X.f6, .int .i64 X.f7] 26)))
  generalize (W.alloc (.cells #[.int .i64 X.f0, .int .i64 X.f1, .int .i64 X.f2, .string X.f3, .int .i64 X.f4.f0, .int .i64 X.f4.f1, .int .i64 X.f5, .int .i64 X.f6, .int .i64 X.f7] 26)).drew = w1 at HB hHeld ⊢
  refine pI 3 7 ?_
  refine tI 0 4 hHeld ?_
  refine tI 4 8 hHeld ?_
  refine one_ (i := 1) (N := some 5) #[true, true, false, true, true, false, false, false, false, false, false, false, false] rfl rfl (by kernel_rfl) (by decide) (fun K hK => ?_)
  refine goes_ Tryz.func115 (by kernel_rfl) rfl #[.agg #[.int .i64 X.f0, .int .i64 X.f1, .int .i64 X.f2, .string X.f3, .int .i64 X.f4.f0, .int .i64 X.f4.f1, .int .i64 X.f5, .int .i64 X.f6, .int .i64 X.f7]] (by rfl) rfl rfl (by simp only [List.map_toArray, List.map_cons, List.map_nil]; rfl) ?_
  with_reducible refine (headB_rate X _).mono ?_
  rintro e w' ⟨rfl, hb⟩
  refine ⟨_, rfl, ?_⟩
  have HB3 := Aq.mk (bS_ HB.out hb)
  clear HB
  have HB := HB3
  clear HB3
  refine hK.out _ _ (hh hb hHeld) (fun hHeld => ?_)
  clear hK K
  refine nM 5 ?_
  refine pI 2 6 ?_
  refine pI 5 9 ?_
  refine pI 6 10 ?_
  refine pO 7 11 ?_
  refine pO 8 12 ?_
  refine pO 9 13 ?_
  refine pO 10 14 ?_
  refine pI 11 15 ?_
  refine pI 12 3 ?_
  refine done_ (by kernel_rfl) ?_
  go_wp2
  go_ret
  exact ⟨by simp, HB.out⟩
set_option maxRecDepth 100000 in
set_option maxHeartbeats 1000000 in
theorem twice_rate (X : S26) (B : Nat) (i k o : Int) (W : World) (hc : W.heap[B]? = some (.cells #[.int .i64 i, .int .i64 k, .int .i64 o] 143 (0, 0))) :
  Calls Tryz.prog 119 #[.agg #[.int .i64 X.f0, .int .i64 X.f1, .int .i64 X.f2, .string X.f3, .int .i64 X.f4.f0, .int .i64 X.f4.f1, .int .i64 X.f5, .int .i64 X.f6, .int .i64 X.f7], .pointer (some ⟨B, 0, none⟩)] W fun e W' => e = .returned (.bool (X.f7 == o)) ∧ Below W.heap.size W W' := by
 have hB : W.cell? ⟨B, 2, none⟩ = some (.int .i64 o) := (bC_ hc 2).trans rfl
 clear hc
 have hfd0 : ∀ (a b c : Int) (V : World), (Instr.field 143 (.agg #[.int .i64 a, .int .i64 b, .int .i64 c]) 0).run Tryz.prog V = .ok (.int .i64 a) V := fun _ _ _ _ => by rfl
 have hfd1 : ∀ (a b c : Int) (V : World), (Instr.field 143 (.agg #[.int .i64 a, .int .i64 b, .int .i64 c]) 1).run Tryz.prog V = .ok (.int .i64 b) V := fun _ _ _ _ => by rfl
 have hfd2 : ∀ (a b c : Int) (V : World), (Instr.field 143 (.agg #[.int .i64 a, .int .i64 b, .int .i64 c]) 2).run Tryz.prog V = .ok (.int .i64 c) V := fun _ _ _ _ => by rfl
 go_enter Tryz.func119, Tryz.ntmps119
 go_wp2
 go_region_held3 (fun V => V.cell? ⟨W.heap.size, 0, none⟩ = some (.int .i64 X.f0) ∧ V.cell? ⟨W.heap.size, 1, none⟩ = some (.int .i64 X.f1) ∧ V.cell? ⟨W.heap.size, 2, none⟩ = some (.int .i64 X.f2) ∧ V.cell? ⟨W.heap.size, 3, none⟩ = some (.string X.f3) ∧ V.cell? ⟨W.heap.size, 4, none⟩ = some (.int .i64 X.f4.f0) ∧ V.cell? ⟨W.heap.size, 5, none⟩ = some (.int .i64 X.f4.f1) ∧ V.cell? ⟨W.heap.size, 6, none⟩ = some (.int .i64 X.f5) ∧ V.cell? ⟨W.heap.size, 7, none⟩ = some (.int .i64 X.f6) ∧ V.cell? ⟨W.heap.size, 8, none⟩ = some (.int .i64 X.f7) ∧ V.cell? ⟨B, 2, none⟩ = some (.int .i64 o)) (((repeat' apply And.intro) <;> (first | (go_keep; done) | exact pC_ (by repeat (first | exact Below.refl _ _ | apply bA_ | apply pN_ | apply bE_)) hB | exact pC_ (by repeat (first | exact Below.refl _ _ | apply bA_ | apply pN_ | apply bE_)) hk0 | exact pC_ (by repeat (first | exact Below.refl _ _ | apply bA_ | apply pN_ | apply bE_)) hk1 | exact pC_ (by repeat (first | exact Below.refl _ _ | apply bA_ | apply pN_ | apply bE_)) hk2 | exact pC_ (by repeat (first | exact Below.refl _ _ | apply bA_ | apply pN_ | apply bE_)) hk3 | exact pC_ (by repeat (first | exact Below.refl _ _ | apply bA_ | apply pN_ | apply bE_)) hk4 | exact pC_ (by repeat (first | exact Below.refl _ _ | apply bA_ | apply pN_ | apply bE_)) hk5 | exact pC_ (by repeat (first | exact Below.refl _ _ | apply bA_ | apply pN_ | apply bE_)) hk6 | exact pC_ (by repeat (first | exact Below.refl _ _ | apply bA_ | apply pN_ | apply bE_)) hk7 | exact pC_ (by repeat (first | exact Below.refl _ _ | apply bA_ | apply pN_ | apply bE_)) hk8))) (first | (go_at_call 115; refine (head_rate X _).mono ?_; rintro e w' ⟨rfl, rfl⟩))
 all_goals
  go_wp2
  go_ret
  exact ⟨rfl, by repeat (first | exact Below.refl _ _ | apply bA_ | apply pN_ | apply bE_)⟩
set_option maxRecDepth 100000 in
set_option maxHeartbeats 1000000 in
theorem same_sale (X : S39) (B : Nat) (i k o : Int) (W : World) (hc : W.heap[B]? = some (.cells #[.int .i64 i, .int .i64 k, .int .i64 o] 143 (0, 0))) :
  Calls Tryz.prog 153 #[.agg #[.int .i64 X.f0, .int .i64 X.f1, .int .i64 X.f2, .int .i64 X.f3, .int .i64 X.f4, .int .i64 X.f5, .int .i64 X.f6, .int .i64 X.f7, .int .i64 X.f8], .pointer (some ⟨B, 0, none⟩)] W fun e W' => e = .returned (.bool (X.f0 == i)) ∧ Below W.heap.size W W' := by
 have hB : W.cell? ⟨B, 0, none⟩ = some (.int .i64 i) := (bC_ hc 0).trans rfl
 clear hc
 have hfd0 : ∀ (a b c : Int) (V : World), (Instr.field 143 (.agg #[.int .i64 a, .int .i64 b, .int .i64 c]) 0).run Tryz.prog V = .ok (.int .i64 a) V := fun _ _ _ _ => by rfl
 have hfd1 : ∀ (a b c : Int) (V : World), (Instr.field 143 (.agg #[.int .i64 a, .int .i64 b, .int .i64 c]) 1).run Tryz.prog V = .ok (.int .i64 b) V := fun _ _ _ _ => by rfl
 have hfd2 : ∀ (a b c : Int) (V : World), (Instr.field 143 (.agg #[.int .i64 a, .int .i64 b, .int .i64 c]) 2).run Tryz.prog V = .ok (.int .i64 c) V := fun _ _ _ _ => by rfl
 go_enter Tryz.func153, Tryz.ntmps153
 go_wp2
 go_region_held3 (fun V => V.cell? ⟨W.heap.size, 0, none⟩ = some (.int .i64 X.f0) ∧ V.cell? ⟨W.heap.size, 1, none⟩ = some (.int .i64 X.f1) ∧ V.cell? ⟨W.heap.size, 2, none⟩ = some (.int .i64 X.f2) ∧ V.cell? ⟨W.heap.size, 3, none⟩ = some (.int .i64 X.f3) ∧ V.cell? ⟨W.heap.size, 4, none⟩ = some (.int .i64 X.f4) ∧ V.cell? ⟨W.heap.size, 5, none⟩ = some (.int .i64 X.f5) ∧ V.cell? ⟨W.heap.size, 6, none⟩ = some (.int .i64 X.f6) ∧ V.cell? ⟨W.heap.size, 7, none⟩ = some (.int .i64 X.f7) ∧ V.cell? ⟨W.heap.size, 8, none⟩ = some (.int .i64 X.f8) ∧ V.cell? ⟨B, 0, none⟩ = some (.int .i64 i)) (((repeat' apply And.intro) <;> (first | (go_keep; done) | exact pC_ (by repeat (first | exact Below.refl _ _ | apply bA_ | apply pN_ | apply bE_)) hB | exact pC_ (by repeat (first | exact Below.refl _ _ | apply bA_ | apply pN_ | apply bE_)) hk0 | exact pC_ (by repeat (first | exact Below.refl _ _ | apply bA_ | apply pN_ | apply bE_)) hk1 | exact pC_ (by repeat (first | exact Below.refl _ _ | apply bA_ | apply pN_ | apply bE_)) hk2 | exact pC_ (by repeat (first | exact Below.refl _ _ | apply bA_ | apply pN_ | apply bE_)) hk3 | exact pC_ (by repeat (first | exact Below.refl _ _ | apply bA_ | apply pN_ | apply bE_)) hk4 | exact pC_ (by repeat (first | exact Below.refl _ _ | apply bA_ | apply pN_ | apply bE_)) hk5 | exact pC_ (by repeat (first | exact Below.refl _ _ | apply bA_ | apply pN_ | apply bE_)) hk6 | exact pC_ (by repeat (first | exact Below.refl _ _ | apply bA_ | apply pN_ | apply bE_)) hk7 | exact pC_ (by repeat (first | exact Below.refl _ _ | apply bA_ | apply pN_ | apply bE_)) hk8))) (first | (go_at_call 128; refine (head_sale X _).mono ?_; rintro e w' ⟨rfl, rfl⟩))
 all_goals
  go_wp2
  go_ret
  exact ⟨rfl, by repeat (first | exact Below.refl _ _ | apply bA_ | apply pN_ | apply bE_)⟩
set_option maxRecDepth 100000 in
set_option maxHeartbeats 1000000 in
theorem named_sale (X : S39) (B : Nat) (i k o : Int) (W : World) (hc : W.heap[B]? = some (.cells #[.int .i64 i, .int .i64 k, .int .i64 o] 143 (0, 0))) :
  Calls Tryz.prog 154 #[.agg #[.int .i64 X.f0, .int .i64 X.f1, .int .i64 X.f2, .int .i64 X.f3, .int .i64 X.f4, .int .i64 X.f5, .int .i64 X.f6, .int .i64 X.f7, .int .i64 X.f8], .pointer (some ⟨B, 0, none⟩)] W fun e W' => e = .returned (.bool (X.f0 == o && X.f8 == 0)) ∧ Below W.heap.size W W' := by
 have hB : W.cell? ⟨B, 2, none⟩ = some (.int .i64 o) := (bC_ hc 2).trans rfl
 clear hc
 have hfd0 : ∀ (a b c : Int) (V : World), (Instr.field 143 (.agg #[.int .i64 a, .int .i64 b, .int .i64 c]) 0).run Tryz.prog V = .ok (.int .i64 a) V := fun _ _ _ _ => by rfl
 have hfd1 : ∀ (a b c : Int) (V : World), (Instr.field 143 (.agg #[.int .i64 a, .int .i64 b, .int .i64 c]) 1).run Tryz.prog V = .ok (.int .i64 b) V := fun _ _ _ _ => by rfl
 have hfd2 : ∀ (a b c : Int) (V : World), (Instr.field 143 (.agg #[.int .i64 a, .int .i64 b, .int .i64 c]) 2).run Tryz.prog V = .ok (.int .i64 c) V := fun _ _ _ _ => by rfl
 cases hq : (X.f0 == o) with
 | true =>
  go_enter Tryz.func154, Tryz.ntmps154
  go_wp2
  refine stT 13 (fun w' => w'.cell? ⟨W.heap.size, 0, none⟩ = some (.int .i64 X.f0) ∧ w'.cell? ⟨W.heap.size, 1, none⟩ = some (.int .i64 X.f1) ∧ w'.cell? ⟨W.heap.size, 2, none⟩ = some (.int .i64 X.f2) ∧ w'.cell? ⟨W.heap.size, 3, none⟩ = some (.int .i64 X.f3) ∧ w'.cell? ⟨W.heap.size, 4, none⟩ = some (.int .i64 X.f4) ∧ w'.cell? ⟨W.heap.size, 5, none⟩ = some (.int .i64 X.f5) ∧ w'.cell? ⟨W.heap.size, 6, none⟩ = some (.int .i64 X.f6) ∧ w'.cell? ⟨W.heap.size, 7, none⟩ = some (.int .i64 X.f7) ∧ w'.cell? ⟨W.heap.size, 8, none⟩ = some (.int .i64 X.f8) ∧ w'.cell? ⟨B, 2, none⟩ = some (.int .i64 o)) ⟨(bC_ (bD_ (heap_alloc_new W _)) 0).trans rfl, (bC_ (bD_ (heap_alloc_new W _)) 1).trans rfl, (bC_ (bD_ (heap_alloc_new W _)) 2).trans rfl, (bC_ (bD_ (heap_alloc_new W _)) 3).trans rfl, (bC_ (bD_ (heap_alloc_new W _)) 4).trans rfl, (bC_ (bD_ (heap_alloc_new W _)) 5).trans rfl, (bC_ (bD_ (heap_alloc_new W _)) 6).trans rfl, (bC_ (bD_ (heap_alloc_new W _)) 7).trans rfl, (bC_ (bD_ (heap_alloc_new W _)) 8).trans rfl, pC_ (by exact bE_ (bA_ (Below.refl _ _) _)) hB⟩ (fun hHeld => ?_)
  have HB := Aq.mk (bE_ (bA_ (Below.refl W.heap.size W) (.cells #[.int .i64 X.f0, .int .i64 X.f1, .int .i64 X.f2, .int .i64 X.f3, .int .i64 X.f4, .int .i64 X.f5, .int .i64 X.f6, .int .i64 X.f7, .int .i64 X.f8] 39)))
  generalize (W.alloc (.cells #[.int .i64 X.f0, .int .i64 X.f1, .int .i64 X.f2, .int .i64 X.f3, .int .i64 X.f4, .int .i64 X.f5, .int .i64 X.f6, .int .i64 X.f7, .int .i64 X.f8] 39)).drew = w1 at HB hHeld ⊢
  refine pI 3 7 ?_
  refine tI 0 4 hHeld ?_
  refine tI 4 8 hHeld ?_
  refine one_ (i := 1) (N := some 5) #[true, true, false, true, true, false, false, false, false, false, false, false, false] rfl rfl (by kernel_rfl) (by decide) (fun K hK => ?_)
  refine goes_ Tryz.func128 (by kernel_rfl) rfl #[.agg #[.int .i64 X.f0, .int .i64 X.f1, .int .i64 X.f2, .int .i64 X.f3, .int .i64 X.f4, .int .i64 X.f5, .int .i64 X.f6, .int .i64 X.f7, .int .i64 X.f8]] (by rfl) rfl rfl (by simp only [List.map_toArray, List.map_cons, List.map_nil]; rfl) ?_
  with_reducible refine (headB_sale X _).mono ?_
  rintro e w' ⟨rfl, hb⟩
  refine ⟨_, rfl, ?_⟩
  have HB3 := Aq.mk (bS_ HB.out hb)
  clear HB
  have HB := HB3
  clear HB3
  refine hK.out _ _ (hh hb hHeld) (fun hHeld => ?_)
  clear hK K
  refine nM 5 ?_
  refine pI 2 6 ?_
  refine pI 5 9 ?_
  refine pI 6 10 ?_
  refine tI 7 11 hHeld ?_
  refine one_ (i := 8) (N := some 12) #[true, true, true, true, true, true, true, true, true, false, false, false, false] rfl rfl (by kernel_rfl) (by decide) (fun K hK => ?_)
  refine goes_ Tryz.func128 (by kernel_rfl) rfl #[.agg #[.int .i64 X.f0, .int .i64 X.f1, .int .i64 X.f2, .int .i64 X.f3, .int .i64 X.f4, .int .i64 X.f5, .int .i64 X.f6, .int .i64 X.f7, .int .i64 X.f8]] (by rfl) rfl rfl (by simp only [List.map_toArray, List.map_cons, List.map_nil]; rfl) ?_
  with_reducible refine (headB_sale X _).mono ?_
  rintro e w' ⟨rfl, hb⟩
  refine ⟨_, rfl, ?_⟩
  have HB3 := Aq.mk (bS_ HB.out hb)
  clear HB
  have HB := HB3
  clear HB3
  refine hK.out _ _ (hh hb hHeld) (fun hHeld => ?_)
  clear hK K
  refine nM 12 ?_
  refine pI 9 13 ?_
  refine pI 10 14 ?_
  refine pI 11 15 ?_
  refine pI 12 3 ?_
  refine done_ (by kernel_rfl) ?_
  go_wp2
  go_ret
  exact ⟨by simp, HB.out⟩
 | false =>
  go_enter Tryz.func154, Tryz.ntmps154
  go_wp2
  refine stT 13 (fun w' => w'.cell? ⟨W.heap.size, 0, none⟩ = some (.int .i64 X.f0) ∧ w'.cell? ⟨W.heap.size, 1, none⟩ = some (.int .i64 X.f1) ∧ w'.cell? ⟨W.heap.size, 2, none⟩ = some (.int .i64 X.f2) ∧ w'.cell? ⟨W.heap.size, 3, none⟩ = some (.int .i64 X.f3) ∧ w'.cell? ⟨W.heap.size, 4, none⟩ = some (.int .i64 X.f4) ∧ w'.cell? ⟨W.heap.size, 5, none⟩ = some (.int .i64 X.f5) ∧ w'.cell? ⟨W.heap.size, 6, none⟩ = some (.int .i64 X.f6) ∧ w'.cell? ⟨W.heap.size, 7, none⟩ = some (.int .i64 X.f7) ∧ w'.cell? ⟨W.heap.size, 8, none⟩ = some (.int .i64 X.f8) ∧ w'.cell? ⟨B, 2, none⟩ = some (.int .i64 o)) ⟨(bC_ (bD_ (heap_alloc_new W _)) 0).trans rfl, (bC_ (bD_ (heap_alloc_new W _)) 1).trans rfl, (bC_ (bD_ (heap_alloc_new W _)) 2).trans rfl, (bC_ (bD_ (heap_alloc_new W _)) 3).trans rfl, (bC_ (bD_ (heap_alloc_new W _)) 4).trans rfl, (bC_ (bD_ (heap_alloc_new W _)) 5).trans rfl, (bC_ (bD_ (heap_alloc_new W _)) 6).trans rfl, (bC_ (bD_ (heap_alloc_new W _)) 7).trans rfl, (bC_ (bD_ (heap_alloc_new W _)) 8).trans rfl, pC_ (by exact bE_ (bA_ (Below.refl _ _) _)) hB⟩ (fun hHeld => ?_)
  have HB := Aq.mk (bE_ (bA_ (Below.refl W.heap.size W) (.cells #[.int .i64 X.f0, .int .i64 X.f1, .int .i64 X.f2, .int .i64 X.f3, .int .i64 X.f4, .int .i64 X.f5, .int .i64 X.f6, .int .i64 X.f7, .int .i64 X.f8] 39)))
  generalize (W.alloc (.cells #[.int .i64 X.f0, .int .i64 X.f1, .int .i64 X.f2, .int .i64 X.f3, .int .i64 X.f4, .int .i64 X.f5, .int .i64 X.f6, .int .i64 X.f7, .int .i64 X.f8] 39)).drew = w1 at HB hHeld ⊢
  refine pI 3 7 ?_
  refine tI 0 4 hHeld ?_
  refine tI 4 8 hHeld ?_
  refine one_ (i := 1) (N := some 5) #[true, true, false, true, true, false, false, false, false, false, false, false, false] rfl rfl (by kernel_rfl) (by decide) (fun K hK => ?_)
  refine goes_ Tryz.func128 (by kernel_rfl) rfl #[.agg #[.int .i64 X.f0, .int .i64 X.f1, .int .i64 X.f2, .int .i64 X.f3, .int .i64 X.f4, .int .i64 X.f5, .int .i64 X.f6, .int .i64 X.f7, .int .i64 X.f8]] (by rfl) rfl rfl (by simp only [List.map_toArray, List.map_cons, List.map_nil]; rfl) ?_
  with_reducible refine (headB_sale X _).mono ?_
  rintro e w' ⟨rfl, hb⟩
  refine ⟨_, rfl, ?_⟩
  have HB3 := Aq.mk (bS_ HB.out hb)
  clear HB
  have HB := HB3
  clear HB3
  refine hK.out _ _ (hh hb hHeld) (fun hHeld => ?_)
  clear hK K
  refine nM 5 ?_
  refine pI 2 6 ?_
  refine pI 5 9 ?_
  refine pI 6 10 ?_
  refine pO 7 11 ?_
  refine pO 8 12 ?_
  refine pO 9 13 ?_
  refine pO 10 14 ?_
  refine pI 11 15 ?_
  refine pI 12 3 ?_
  refine done_ (by kernel_rfl) ?_
  go_wp2
  go_ret
  exact ⟨by simp, HB.out⟩
set_option maxRecDepth 100000 in
set_option maxHeartbeats 1000000 in
theorem twice_sale (X : S39) (B : Nat) (i k o : Int) (W : World) (hc : W.heap[B]? = some (.cells #[.int .i64 i, .int .i64 k, .int .i64 o] 143 (0, 0))) :
  Calls Tryz.prog 155 #[.agg #[.int .i64 X.f0, .int .i64 X.f1, .int .i64 X.f2, .int .i64 X.f3, .int .i64 X.f4, .int .i64 X.f5, .int .i64 X.f6, .int .i64 X.f7, .int .i64 X.f8], .pointer (some ⟨B, 0, none⟩)] W fun e W' => e = .returned (.bool (X.f8 == o)) ∧ Below W.heap.size W W' := by
 have hB : W.cell? ⟨B, 2, none⟩ = some (.int .i64 o) := (bC_ hc 2).trans rfl
 clear hc
 have hfd0 : ∀ (a b c : Int) (V : World), (Instr.field 143 (.agg #[.int .i64 a, .int .i64 b, .int .i64 c]) 0).run Tryz.prog V = .ok (.int .i64 a) V := fun _ _ _ _ => by rfl
 have hfd1 : ∀ (a b c : Int) (V : World), (Instr.field 143 (.agg #[.int .i64 a, .int .i64 b, .int .i64 c]) 1).run Tryz.prog V = .ok (.int .i64 b) V := fun _ _ _ _ => by rfl
 have hfd2 : ∀ (a b c : Int) (V : World), (Instr.field 143 (.agg #[.int .i64 a, .int .i64 b, .int .i64 c]) 2).run Tryz.prog V = .ok (.int .i64 c) V := fun _ _ _ _ => by rfl
 go_enter Tryz.func155, Tryz.ntmps155
 go_wp2
 go_region_held3 (fun V => V.cell? ⟨W.heap.size, 0, none⟩ = some (.int .i64 X.f0) ∧ V.cell? ⟨W.heap.size, 1, none⟩ = some (.int .i64 X.f1) ∧ V.cell? ⟨W.heap.size, 2, none⟩ = some (.int .i64 X.f2) ∧ V.cell? ⟨W.heap.size, 3, none⟩ = some (.int .i64 X.f3) ∧ V.cell? ⟨W.heap.size, 4, none⟩ = some (.int .i64 X.f4) ∧ V.cell? ⟨W.heap.size, 5, none⟩ = some (.int .i64 X.f5) ∧ V.cell? ⟨W.heap.size, 6, none⟩ = some (.int .i64 X.f6) ∧ V.cell? ⟨W.heap.size, 7, none⟩ = some (.int .i64 X.f7) ∧ V.cell? ⟨W.heap.size, 8, none⟩ = some (.int .i64 X.f8) ∧ V.cell? ⟨B, 2, none⟩ = some (.int .i64 o)) (((repeat' apply And.intro) <;> (first | (go_keep; done) | exact pC_ (by repeat (first | exact Below.refl _ _ | apply bA_ | apply pN_ | apply bE_)) hB | exact pC_ (by repeat (first | exact Below.refl _ _ | apply bA_ | apply pN_ | apply bE_)) hk0 | exact pC_ (by repeat (first | exact Below.refl _ _ | apply bA_ | apply pN_ | apply bE_)) hk1 | exact pC_ (by repeat (first | exact Below.refl _ _ | apply bA_ | apply pN_ | apply bE_)) hk2 | exact pC_ (by repeat (first | exact Below.refl _ _ | apply bA_ | apply pN_ | apply bE_)) hk3 | exact pC_ (by repeat (first | exact Below.refl _ _ | apply bA_ | apply pN_ | apply bE_)) hk4 | exact pC_ (by repeat (first | exact Below.refl _ _ | apply bA_ | apply pN_ | apply bE_)) hk5 | exact pC_ (by repeat (first | exact Below.refl _ _ | apply bA_ | apply pN_ | apply bE_)) hk6 | exact pC_ (by repeat (first | exact Below.refl _ _ | apply bA_ | apply pN_ | apply bE_)) hk7 | exact pC_ (by repeat (first | exact Below.refl _ _ | apply bA_ | apply pN_ | apply bE_)) hk8))) (first | (go_at_call 128; refine (head_sale X _).mono ?_; rintro e w' ⟨rfl, rfl⟩))
 all_goals
  go_wp2
  go_ret
  exact ⟨rfl, by repeat (first | exact Below.refl _ _ | apply bA_ | apply pN_ | apply bE_)⟩
end
section
open Go.Shelf
set_option maxRecDepth 100000 in
set_option maxHeartbeats 1000000 in
theorem void_rate (X : S26) (B B2 : Nat) (i k o kn : Int) (W : World) (hc : W.heap[B]? = some (.cells #[.int .i64 i, .int .i64 k, .int .i64 o] 143 (0, 0))) (hc2 : W.heap[B2]? = some (.cells #[.int .i64 kn] 3 (0, 0))) :
  Calls Tryz.prog 134 #[.agg #[.int .i64 X.f0, .int .i64 X.f1, .int .i64 X.f2, .string X.f3, .int .i64 X.f4.f0, .int .i64 X.f4.f1, .int .i64 X.f5, .int .i64 X.f6, .int .i64 X.f7], .pointer (some ⟨B, 0, none⟩), .pointer (some ⟨B2, 0, none⟩)] W fun e W' => e = .returned (.bool (X.f7 == i && decide (X.f1 ≤ kn))) ∧ Below W.heap.size W W' := by
 have hB : W.cell? ⟨B, 0, none⟩ = some (.int .i64 i) := (bC_ hc 0).trans rfl
 have hB2 : W.cell? ⟨B2, 0, none⟩ = some (.int .i64 kn) := (bC_ hc2 0).trans rfl
 clear hc hc2
 have hfd0 : ∀ (a b c : Int) (V : World), (Instr.field 143 (.agg #[.int .i64 a, .int .i64 b, .int .i64 c]) 0).run Tryz.prog V = .ok (.int .i64 a) V := fun _ _ _ _ => by rfl
 have hfd1 : ∀ (a b c : Int) (V : World), (Instr.field 143 (.agg #[.int .i64 a, .int .i64 b, .int .i64 c]) 1).run Tryz.prog V = .ok (.int .i64 b) V := fun _ _ _ _ => by rfl
 have hfd2 : ∀ (a b c : Int) (V : World), (Instr.field 143 (.agg #[.int .i64 a, .int .i64 b, .int .i64 c]) 2).run Tryz.prog V = .ok (.int .i64 c) V := fun _ _ _ _ => by rfl
 cases hq : (X.f7 == i) with
 | true =>
  go_enter Tryz.func134, Tryz.ntmps134
  go_wp2
  refine stT 14 (fun w' => w'.cell? ⟨W.heap.size, 0, none⟩ = some (.int .i64 X.f0) ∧ w'.cell? ⟨W.heap.size, 1, none⟩ = some (.int .i64 X.f1) ∧ w'.cell? ⟨W.heap.size, 2, none⟩ = some (.int .i64 X.f2) ∧ w'.cell? ⟨W.heap.size, 3, none⟩ = some (.string X.f3) ∧ w'.cell? ⟨W.heap.size, 4, none⟩ = some (.int .i64 X.f4.f0) ∧ w'.cell? ⟨W.heap.size, 5, none⟩ = some (.int .i64 X.f4.f1) ∧ w'.cell? ⟨W.heap.size, 6, none⟩ = some (.int .i64 X.f5) ∧ w'.cell? ⟨W.heap.size, 7, none⟩ = some (.int .i64 X.f6) ∧ w'.cell? ⟨W.heap.size, 8, none⟩ = some (.int .i64 X.f7) ∧ w'.cell? ⟨B, 0, none⟩ = some (.int .i64 i) ∧ w'.cell? ⟨B2, 0, none⟩ = some (.int .i64 kn)) ⟨(bC_ (bD_ (heap_alloc_new W _)) 0).trans rfl, (bC_ (bD_ (heap_alloc_new W _)) 1).trans rfl, (bC_ (bD_ (heap_alloc_new W _)) 2).trans rfl, (bC_ (bD_ (heap_alloc_new W _)) 3).trans rfl, (bC_ (bD_ (heap_alloc_new W _)) 4).trans rfl, (bC_ (bD_ (heap_alloc_new W _)) 5).trans rfl, (bC_ (bD_ (heap_alloc_new W _)) 6).trans rfl, (bC_ (bD_ (heap_alloc_new W _)) 7).trans rfl, (bC_ (bD_ (heap_alloc_new W _)) 8).trans rfl, pC_ (by exact bE_ (bA_ (Below.refl _ _) _)) hB, pC_ (by exact bE_ (bA_ (Below.refl _ _) _)) hB2⟩ (fun hHeld => ?_)
  have HB := Aq.mk (bE_ (bA_ (Below.refl W.heap.size W) (.cells #[.int .i64 X.f0, .int .i64 X.f1, .int .i64 X.f2, .string X.f3, .int .i64 X.f4.f0, .int .i64 X.f4.f1, .int .i64 X.f5, .int .i64 X.f6, .int .i64 X.f7] 26)))
  generalize (W.alloc (.cells #[.int .i64 X.f0, .int .i64 X.f1, .int .i64 X.f2, .string X.f3, .int .i64 X.f4.f0, .int .i64 X.f4.f1, .int .i64 X.f5, .int .i64 X.f6, .int .i64 X.f7] 26)).drew = w1 at HB hHeld ⊢
  refine pI 3 8 ?_
  refine tI 0 5 hHeld ?_
  refine tI 4 9 hHeld ?_
  refine one_ (i := 1) (N := some 6) #[true, true, false, true, true, false, false, false, false, false, false, false, false, false] rfl rfl (by kernel_rfl) (by decide) (fun K hK => ?_)
  refine goes_ Tryz.func115 (by kernel_rfl) rfl #[.agg #[.int .i64 X.f0, .int .i64 X.f1, .int .i64 X.f2, .string X.f3, .int .i64 X.f4.f0, .int .i64 X.f4.f1, .int .i64 X.f5, .int .i64 X.f6, .int .i64 X.f7]] (by rfl) rfl rfl (by simp only [List.map_toArray, List.map_cons, List.map_nil]; rfl) ?_
  with_reducible refine (headB_rate X _).mono ?_
  rintro e w' ⟨rfl, hb⟩
  refine ⟨_, rfl, ?_⟩
  have HB3 := Aq.mk (bS_ HB.out hb)
  clear HB
  have HB := HB3
  clear HB3
  refine hK.out _ _ (hh hb hHeld) (fun hHeld => ?_)
  clear hK K
  refine nM 6 ?_
  refine pI 2 7 ?_
  refine pI 5 10 ?_
  refine pI 6 11 ?_
  refine tI 7 12 hHeld ?_
  refine tI 10 15 hHeld ?_
  refine one_ (i := 8) (N := some 13) #[true, true, true, true, true, true, true, true, true, false, true, false, false, false] rfl rfl (by kernel_rfl) (by decide) (fun K hK => ?_)
  refine goes_ Tryz.func115 (by kernel_rfl) rfl #[.agg #[.int .i64 X.f0, .int .i64 X.f1, .int .i64 X.f2, .string X.f3, .int .i64 X.f4.f0, .int .i64 X.f4.f1, .int .i64 X.f5, .int .i64 X.f6, .int .i64 X.f7]] (by rfl) rfl rfl (by simp only [List.map_toArray, List.map_cons, List.map_nil]; rfl) ?_
  with_reducible refine (headB_rate X _).mono ?_
  rintro e w' ⟨rfl, hb⟩
  refine ⟨_, rfl, ?_⟩
  have HB3 := Aq.mk (bS_ HB.out hb)
  clear HB
  have HB := HB3
  clear HB3
  refine hK.out _ _ (hh hb hHeld) (fun hHeld => ?_)
  clear hK K
  refine nM 13 ?_
  refine pI 9 14 ?_
  refine pI 11 16 ?_
  refine pI 12 17 ?_
  refine pI 13 4 ?_
  refine done_ (by kernel_rfl) ?_
  go_wp2
  go_ret
  exact ⟨by simp, HB.out⟩
 | false =>
  go_enter Tryz.func134, Tryz.ntmps134
  go_wp2
  refine stT 14 (fun w' => w'.cell? ⟨W.heap.size, 0, none⟩ = some (.int .i64 X.f0) ∧ w'.cell? ⟨W.heap.size, 1, none⟩ = some (.int .i64 X.f1) ∧ w'.cell? ⟨W.heap.size, 2, none⟩ = some (.int .i64 X.f2) ∧ w'.cell? ⟨W.heap.size, 3, none⟩ = some (.string X.f3) ∧ w'.cell? ⟨W.heap.size, 4, none⟩ = some (.int .i64 X.f4.f0) ∧ w'.cell? ⟨W.heap.size, 5, none⟩ = some (.int .i64 X.f4.f1) ∧ w'.cell? ⟨W.heap.size, 6, none⟩ = some (.int .i64 X.f5) ∧ w'.cell? ⟨W.heap.size, 7, none⟩ = some (.int .i64 X.f6) ∧ w'.cell? ⟨W.heap.size, 8, none⟩ = some (.int .i64 X.f7) ∧ w'.cell? ⟨B, 0, none⟩ = some (.int .i64 i) ∧ w'.cell? ⟨B2, 0, none⟩ = some (.int .i64 kn)) ⟨(bC_ (bD_ (heap_alloc_new W _)) 0).trans rfl, (bC_ (bD_ (heap_alloc_new W _)) 1).trans rfl, (bC_ (bD_ (heap_alloc_new W _)) 2).trans rfl, (bC_ (bD_ (heap_alloc_new W _)) 3).trans rfl, (bC_ (bD_ (heap_alloc_new W _)) 4).trans rfl, (bC_ (bD_ (heap_alloc_new W _)) 5).trans rfl, (bC_ (bD_ (heap_alloc_new W _)) 6).trans rfl, (bC_ (bD_ (heap_alloc_new W _)) 7).trans rfl, (bC_ (bD_ (heap_alloc_new W _)) 8).trans rfl, pC_ (by exact bE_ (bA_ (Below.refl _ _) _)) hB, pC_ (by exact bE_ (bA_ (Below.refl _ _) _)) hB2⟩ (fun hHeld => ?_)
  have HB := Aq.mk (bE_ (bA_ (Below.refl W.heap.size W) (.cells #[.int .i64 X.f0, .int .i64 X.f1, .int .i64 X.f2, .string X.f3, .int .i64 X.f4.f0, .int .i64 X.f4.f1, .int .i64 X.f5, .int .i64 X.f6, .int .i64 X.f7] 26)))
  generalize (W.alloc (.cells #[.int .i64 X.f0, .int .i64 X.f1, .int .i64 X.f2, .string X.f3, .int .i64 X.f4.f0, .int .i64 X.f4.f1, .int .i64 X.f5, .int .i64 X.f6, .int .i64 X.f7] 26)).drew = w1 at HB hHeld ⊢
  refine pI 3 8 ?_
  refine tI 0 5 hHeld ?_
  refine tI 4 9 hHeld ?_
  refine one_ (i := 1) (N := some 6) #[true, true, false, true, true, false, false, false, false, false, false, false, false, false] rfl rfl (by kernel_rfl) (by decide) (fun K hK => ?_)
  refine goes_ Tryz.func115 (by kernel_rfl) rfl #[.agg #[.int .i64 X.f0, .int .i64 X.f1, .int .i64 X.f2, .string X.f3, .int .i64 X.f4.f0, .int .i64 X.f4.f1, .int .i64 X.f5, .int .i64 X.f6, .int .i64 X.f7]] (by rfl) rfl rfl (by simp only [List.map_toArray, List.map_cons, List.map_nil]; rfl) ?_
  with_reducible refine (headB_rate X _).mono ?_
  rintro e w' ⟨rfl, hb⟩
  refine ⟨_, rfl, ?_⟩
  have HB3 := Aq.mk (bS_ HB.out hb)
  clear HB
  have HB := HB3
  clear HB3
  refine hK.out _ _ (hh hb hHeld) (fun hHeld => ?_)
  clear hK K
  refine nM 6 ?_
  refine pI 2 7 ?_
  refine pI 5 10 ?_
  refine pI 6 11 ?_
  refine pO 7 12 ?_
  refine pO 8 13 ?_
  refine pO 9 14 ?_
  refine pO 10 15 ?_
  refine pO 11 16 ?_
  refine pI 12 17 ?_
  refine pI 13 4 ?_
  refine done_ (by kernel_rfl) ?_
  go_wp2
  go_ret
  exact ⟨by simp, HB.out⟩
set_option maxRecDepth 100000 in
set_option maxHeartbeats 1000000 in
theorem void_sale (X : S39) (B B2 : Nat) (i k o kn : Int) (W : World) (hc : W.heap[B]? = some (.cells #[.int .i64 i, .int .i64 k, .int .i64 o] 143 (0, 0))) (hc2 : W.heap[B2]? = some (.cells #[.int .i64 kn] 3 (0, 0))) :
  Calls Tryz.prog 130 #[.agg #[.int .i64 X.f0, .int .i64 X.f1, .int .i64 X.f2, .int .i64 X.f3, .int .i64 X.f4, .int .i64 X.f5, .int .i64 X.f6, .int .i64 X.f7, .int .i64 X.f8], .pointer (some ⟨B, 0, none⟩), .pointer (some ⟨B2, 0, none⟩)] W fun e W' => e = .returned (.bool (X.f8 == i && decide (X.f1 ≤ kn))) ∧ Below W.heap.size W W' := by
 have hB : W.cell? ⟨B, 0, none⟩ = some (.int .i64 i) := (bC_ hc 0).trans rfl
 have hB2 : W.cell? ⟨B2, 0, none⟩ = some (.int .i64 kn) := (bC_ hc2 0).trans rfl
 clear hc hc2
 have hfd0 : ∀ (a b c : Int) (V : World), (Instr.field 143 (.agg #[.int .i64 a, .int .i64 b, .int .i64 c]) 0).run Tryz.prog V = .ok (.int .i64 a) V := fun _ _ _ _ => by rfl
 have hfd1 : ∀ (a b c : Int) (V : World), (Instr.field 143 (.agg #[.int .i64 a, .int .i64 b, .int .i64 c]) 1).run Tryz.prog V = .ok (.int .i64 b) V := fun _ _ _ _ => by rfl
 have hfd2 : ∀ (a b c : Int) (V : World), (Instr.field 143 (.agg #[.int .i64 a, .int .i64 b, .int .i64 c]) 2).run Tryz.prog V = .ok (.int .i64 c) V := fun _ _ _ _ => by rfl
 cases hq : (X.f8 == i) with
 | true =>
  go_enter Tryz.func130, Tryz.ntmps130
  go_wp2
  refine stT 14 (fun w' => w'.cell? ⟨W.heap.size, 0, none⟩ = some (.int .i64 X.f0) ∧ w'.cell? ⟨W.heap.size, 1, none⟩ = some (.int .i64 X.f1) ∧ w'.cell? ⟨W.heap.size, 2, none⟩ = some (.int .i64 X.f2) ∧ w'.cell? ⟨W.heap.size, 3, none⟩ = some (.int .i64 X.f3) ∧ w'.cell? ⟨W.heap.size, 4, none⟩ = some (.int .i64 X.f4) ∧ w'.cell? ⟨W.heap.size, 5, none⟩ = some (.int .i64 X.f5) ∧ w'.cell? ⟨W.heap.size, 6, none⟩ = some (.int .i64 X.f6) ∧ w'.cell? ⟨W.heap.size, 7, none⟩ = some (.int .i64 X.f7) ∧ w'.cell? ⟨W.heap.size, 8, none⟩ = some (.int .i64 X.f8) ∧ w'.cell? ⟨B, 0, none⟩ = some (.int .i64 i) ∧ w'.cell? ⟨B2, 0, none⟩ = some (.int .i64 kn)) ⟨(bC_ (bD_ (heap_alloc_new W _)) 0).trans rfl, (bC_ (bD_ (heap_alloc_new W _)) 1).trans rfl, (bC_ (bD_ (heap_alloc_new W _)) 2).trans rfl, (bC_ (bD_ (heap_alloc_new W _)) 3).trans rfl, (bC_ (bD_ (heap_alloc_new W _)) 4).trans rfl, (bC_ (bD_ (heap_alloc_new W _)) 5).trans rfl, (bC_ (bD_ (heap_alloc_new W _)) 6).trans rfl, (bC_ (bD_ (heap_alloc_new W _)) 7).trans rfl, (bC_ (bD_ (heap_alloc_new W _)) 8).trans rfl, pC_ (by exact bE_ (bA_ (Below.refl _ _) _)) hB, pC_ (by exact bE_ (bA_ (Below.refl _ _) _)) hB2⟩ (fun hHeld => ?_)
  have HB := Aq.mk (bE_ (bA_ (Below.refl W.heap.size W) (.cells #[.int .i64 X.f0, .int .i64 X.f1, .int .i64 X.f2, .int .i64 X.f3, .int .i64 X.f4, .int .i64 X.f5, .int .i64 X.f6, .int .i64 X.f7, .int .i64 X.f8] 39)))
  generalize (W.alloc (.cells #[.int .i64 X.f0, .int .i64 X.f1, .int .i64 X.f2, .int .i64 X.f3, .int .i64 X.f4, .int .i64 X.f5, .int .i64 X.f6, .int .i64 X.f7, .int .i64 X.f8] 39)).drew = w1 at HB hHeld ⊢
  refine pI 3 8 ?_
  refine tI 0 5 hHeld ?_
  refine tI 4 9 hHeld ?_
  refine one_ (i := 1) (N := some 6) #[true, true, false, true, true, false, false, false, false, false, false, false, false, false] rfl rfl (by kernel_rfl) (by decide) (fun K hK => ?_)
  refine goes_ Tryz.func128 (by kernel_rfl) rfl #[.agg #[.int .i64 X.f0, .int .i64 X.f1, .int .i64 X.f2, .int .i64 X.f3, .int .i64 X.f4, .int .i64 X.f5, .int .i64 X.f6, .int .i64 X.f7, .int .i64 X.f8]] (by rfl) rfl rfl (by simp only [List.map_toArray, List.map_cons, List.map_nil]; rfl) ?_
  with_reducible refine (headB_sale X _).mono ?_
  rintro e w' ⟨rfl, hb⟩
  refine ⟨_, rfl, ?_⟩
  have HB3 := Aq.mk (bS_ HB.out hb)
  clear HB
  have HB := HB3
  clear HB3
  refine hK.out _ _ (hh hb hHeld) (fun hHeld => ?_)
  clear hK K
  refine nM 6 ?_
  refine pI 2 7 ?_
  refine pI 5 10 ?_
  refine pI 6 11 ?_
  refine tI 7 12 hHeld ?_
  refine tI 10 15 hHeld ?_
  refine one_ (i := 8) (N := some 13) #[true, true, true, true, true, true, true, true, true, false, true, false, false, false] rfl rfl (by kernel_rfl) (by decide) (fun K hK => ?_)
  refine goes_ Tryz.func128 (by kernel_rfl) rfl #[.agg #[.int .i64 X.f0, .int .i64 X.f1, .int .i64 X.f2, .int .i64 X.f3, .int .i64 X.f4, .int .i64 X.f5, .int .i64 X.f6, .int .i64 X.f7, .int .i64 X.f8]] (by rfl) rfl rfl (by simp only [List.map_toArray, List.map_cons, List.map_nil]; rfl) ?_
  with_reducible refine (headB_sale X _).mono ?_
  rintro e w' ⟨rfl, hb⟩
  refine ⟨_, rfl, ?_⟩
  have HB3 := Aq.mk (bS_ HB.out hb)
  clear HB
  have HB := HB3
  clear HB3
  refine hK.out _ _ (hh hb hHeld) (fun hHeld => ?_)
  clear hK K
  refine nM 13 ?_
  refine pI 9 14 ?_
  refine pI 11 16 ?_
  refine pI 12 17 ?_
  refine pI 13 4 ?_
  refine done_ (by kernel_rfl) ?_
  go_wp2
  go_ret
  exact ⟨by simp, HB.out⟩
 | false =>
  go_enter Tryz.func130, Tryz.ntmps130
  go_wp2
  refine stT 14 (fun w' => w'.cell? ⟨W.heap.size, 0, none⟩ = some (.int .i64 X.f0) ∧ w'.cell? ⟨W.heap.size, 1, none⟩ = some (.int .i64 X.f1) ∧ w'.cell? ⟨W.heap.size, 2, none⟩ = some (.int .i64 X.f2) ∧ w'.cell? ⟨W.heap.size, 3, none⟩ = some (.int .i64 X.f3) ∧ w'.cell? ⟨W.heap.size, 4, none⟩ = some (.int .i64 X.f4) ∧ w'.cell? ⟨W.heap.size, 5, none⟩ = some (.int .i64 X.f5) ∧ w'.cell? ⟨W.heap.size, 6, none⟩ = some (.int .i64 X.f6) ∧ w'.cell? ⟨W.heap.size, 7, none⟩ = some (.int .i64 X.f7) ∧ w'.cell? ⟨W.heap.size, 8, none⟩ = some (.int .i64 X.f8) ∧ w'.cell? ⟨B, 0, none⟩ = some (.int .i64 i) ∧ w'.cell? ⟨B2, 0, none⟩ = some (.int .i64 kn)) ⟨(bC_ (bD_ (heap_alloc_new W _)) 0).trans rfl, (bC_ (bD_ (heap_alloc_new W _)) 1).trans rfl, (bC_ (bD_ (heap_alloc_new W _)) 2).trans rfl, (bC_ (bD_ (heap_alloc_new W _)) 3).trans rfl, (bC_ (bD_ (heap_alloc_new W _)) 4).trans rfl, (bC_ (bD_ (heap_alloc_new W _)) 5).trans rfl, (bC_ (bD_ (heap_alloc_new W _)) 6).trans rfl, (bC_ (bD_ (heap_alloc_new W _)) 7).trans rfl, (bC_ (bD_ (heap_alloc_new W _)) 8).trans rfl, pC_ (by exact bE_ (bA_ (Below.refl _ _) _)) hB, pC_ (by exact bE_ (bA_ (Below.refl _ _) _)) hB2⟩ (fun hHeld => ?_)
  have HB := Aq.mk (bE_ (bA_ (Below.refl W.heap.size W) (.cells #[.int .i64 X.f0, .int .i64 X.f1, .int .i64 X.f2, .int .i64 X.f3, .int .i64 X.f4, .int .i64 X.f5, .int .i64 X.f6, .int .i64 X.f7, .int .i64 X.f8] 39)))
  generalize (W.alloc (.cells #[.int .i64 X.f0, .int .i64 X.f1, .int .i64 X.f2, .int .i64 X.f3, .int .i64 X.f4, .int .i64 X.f5, .int .i64 X.f6, .int .i64 X.f7, .int .i64 X.f8] 39)).drew = w1 at HB hHeld ⊢
  refine pI 3 8 ?_
  refine tI 0 5 hHeld ?_
  refine tI 4 9 hHeld ?_
  refine one_ (i := 1) (N := some 6) #[true, true, false, true, true, false, false, false, false, false, false, false, false, false] rfl rfl (by kernel_rfl) (by decide) (fun K hK => ?_)
  refine goes_ Tryz.func128 (by kernel_rfl) rfl #[.agg #[.int .i64 X.f0, .int .i64 X.f1, .int .i64 X.f2, .int .i64 X.f3, .int .i64 X.f4, .int .i64 X.f5, .int .i64 X.f6, .int .i64 X.f7, .int .i64 X.f8]] (by rfl) rfl rfl (by simp only [List.map_toArray, List.map_cons, List.map_nil]; rfl) ?_
  with_reducible refine (headB_sale X _).mono ?_
  rintro e w' ⟨rfl, hb⟩
  refine ⟨_, rfl, ?_⟩
  have HB3 := Aq.mk (bS_ HB.out hb)
  clear HB
  have HB := HB3
  clear HB3
  refine hK.out _ _ (hh hb hHeld) (fun hHeld => ?_)
  clear hK K
  refine nM 6 ?_
  refine pI 2 7 ?_
  refine pI 5 10 ?_
  refine pI 6 11 ?_
  refine pO 7 12 ?_
  refine pO 8 13 ?_
  refine pO 9 14 ?_
  refine pO 10 15 ?_
  refine pO 11 16 ?_
  refine pI 12 17 ?_
  refine pI 13 4 ?_
  refine done_ (by kernel_rfl) ?_
  go_wp2
  go_ret
  exact ⟨by simp, HB.out⟩
end
section
open Go.Shelf
set_option maxRecDepth 100000 in
set_option maxHeartbeats 2000000 in
theorem index_Rate (g : Nat) (lb : Array Value) (p : S26 → Bool) (A : Option Addr) (c : Nat) (l : List S26) (w : World)
  (eg : ∀ args w, (callFunc g args).run Tryz.prog w = .ok (.enter g args) w)
  (hp : ∀ (W : World) (x : S26), x ∈ l → Below w.heap.size w W → Calls Tryz.prog g (#[.agg #[.int .i64 x.f0, .int .i64 x.f1, .int .i64 x.f2, .string x.f3, .int .i64 x.f4.f0, .int .i64 x.f4.f1, .int .i64 x.f5, .int .i64 x.f6, .int .i64 x.f7]] ++ lb) W fun e W' => e = .returned (.bool (p x)) ∧ Below w.heap.size w W')
  (hr : Kd.C k26 w A l.length l) :
  Calls Tryz.prog 152 #[.slice A l.length c, .func (.func g) #[] lb] w fun e w' => e = .returned (.int .i64 (idxOf p l)) ∧ Below w.heap.size w w' := by
 have hm : l.length ≤ 9223372036854775807 := hr.2.1
 have HR := Aq.mk hr
 have HP := Aq.mk hp
 clear hr hp
 go_enter Tryz.func152, Tryz.ntmps152
 go_wp2
 go_loopg [5, 8] l.length (fun gg _ s8 wr => ∃ kk : Nat, kk ≤ l.length ∧ l.length - kk ≤ gg ∧ s8 = .int .i64 kk ∧ Aq (Below w.heap.size w wr) ∧ Aq (idxOf p l = shifted kk (idxOf p (l.drop kk))))
 case atStart => exact ⟨0, Nat.zero_le _, by omega, rfl, ⟨Below.refl _ w⟩, ⟨shifted_start p l⟩⟩
 case round =>
  obtain ⟨kk, hkk, hg, rfl, BW, A0⟩ := hrel
  by_cases hlt : kk < l.length
  ·have hltz : (kk : Int) < (l.length : Int) := by omega
   have h0 : (0 : Int) ≤ (kk : Int) := by omega
   obtain ⟨ad, e_, hx0, hx1, hx2, hx3, hx4, hx5, hx6, hx7, hx8⟩ := at_T26 HR.out (kk : Int) h0 hltz
   cases e_
   obtain ⟨HX, HD⟩ := rdT26_drop l kk hlt
   generalize rd_T26 l (kk : Int) = X at hx0 hx1 hx2 hx3 hx4 hx5 hx6 hx7 hx8 HX HD
   replace hx0 := (BW.out.cell (World.block_lt_of_cell? w _ hx0)).trans hx0
   replace hx1 := (BW.out.cell (World.block_lt_of_cell? w _ hx1)).trans hx1
   replace hx2 := (BW.out.cell (World.block_lt_of_cell? w _ hx2)).trans hx2
   replace hx3 := (BW.out.cell (World.block_lt_of_cell? w _ hx3)).trans hx3
   replace hx4 := (BW.out.cell (World.block_lt_of_cell? w _ hx4)).trans hx4
   replace hx5 := (BW.out.cell (World.block_lt_of_cell? w _ hx5)).trans hx5
   replace hx6 := (BW.out.cell (World.block_lt_of_cell? w _ hx6)).trans hx6
   replace hx7 := (BW.out.cell (World.block_lt_of_cell? w _ hx7)).trans hx7
   replace hx8 := (BW.out.cell (World.block_lt_of_cell? w _ hx8)).trans hx8
   simp only [Int.toNat_natCast] at hx0 hx1 hx2 hx3 hx4 hx5 hx6 hx7 hx8
   have hcall := HP.out wr X (by exact HX) BW.out
   have hd : l.drop kk = X :: l.drop (kk + 1) := HD
   cases hq : p X with
   | true =>
    rw [hq] at hcall
    have HF : Aq (idxOf p l = kk) := ⟨by rw [A0.out, hd, idxOf_yes hq]; simp [shifted]⟩
    clear hd A0 HX HD
    go_wp2_with (go_at_fn g; refine hcall.mono ?_; rintro e w' ⟨rfl, hb'⟩)
    go_ret
    exact ⟨by rw [HF.out]; rfl, hb'⟩
   | false =>
    rw [hq] at hcall
    have HF : Aq (idxOf p l = shifted (kk + 1) (idxOf p (l.drop (kk + 1)))) := ⟨by rw [A0.out, hd, idxOf_no hq, shifted_shifted]⟩
    clear hd A0 HX HD
    go_wp2_with (go_at_fn g; refine hcall.mono ?_; rintro e w' ⟨rfl, hb'⟩)
    go_roundg (l.length - (kk + 1))
    case measure => omega
    case rel => exact ⟨kk + 1, by omega, by omega, by go_num, ⟨hb'⟩, HF⟩
  ·have hltz : ¬ (kk : Int) < (l.length : Int) := by omega
   have HF : Aq (idxOf p l = -1) := ⟨by rw [A0.out, List.drop_eq_nil_of_le (by omega)]; rfl⟩
   clear A0
   go_wp2
   go_ret
   exact ⟨by rw [HF.out]; rfl, BW.out⟩
theorem contains_Rate (g : Nat) (lb : Array Value) (p : S26 → Bool) (A : Option Addr) (c : Nat) (l : List S26) (w : World)
  (eg : ∀ args w, (callFunc g args).run Tryz.prog w = .ok (.enter g args) w)
  (hp : ∀ (W : World) (x : S26), x ∈ l → Below w.heap.size w W → Calls Tryz.prog g (#[.agg #[.int .i64 x.f0, .int .i64 x.f1, .int .i64 x.f2, .string x.f3, .int .i64 x.f4.f0, .int .i64 x.f4.f1, .int .i64 x.f5, .int .i64 x.f6, .int .i64 x.f7]] ++ lb) W fun e W' => e = .returned (.bool (p x)) ∧ Below w.heap.size w W')
  (hr : Kd.C k26 w A l.length l) :
  Calls Tryz.prog 116 #[.slice A l.length c, .func (.func g) #[] lb] w fun e w' => e = .returned (.bool (l.any p)) ∧ Below w.heap.size w w' := by
 have HI := Aq.mk (index_Rate g lb p A c l w eg hp hr)
 have HA := Aq.mk (idxOf_any p l)
 clear hp hr eg
 generalize idxOf p l = n at HI HA
 generalize l.any p = b at HA
 go_enter Tryz.func116, Tryz.ntmps116
 go_wp2_with (go_at_call 152; refine HI.out.mono ?_; rintro e w' ⟨rfl, hb'⟩)
 go_ret
 exact ⟨by rw [HA.out]; rfl, hb'⟩
end
section
open Go.Shelf
set_option maxRecDepth 100000 in
set_option maxHeartbeats 2000000 in
theorem index_Sale (g : Nat) (lb : Array Value) (p : S39 → Bool) (A : Option Addr) (c : Nat) (l : List S39) (w : World)
  (eg : ∀ args w, (callFunc g args).run Tryz.prog w = .ok (.enter g args) w)
  (hp : ∀ (W : World) (x : S39), x ∈ l → Below w.heap.size w W → Calls Tryz.prog g (#[.agg #[.int .i64 x.f0, .int .i64 x.f1, .int .i64 x.f2, .int .i64 x.f3, .int .i64 x.f4, .int .i64 x.f5, .int .i64 x.f6, .int .i64 x.f7, .int .i64 x.f8]] ++ lb) W fun e W' => e = .returned (.bool (p x)) ∧ Below w.heap.size w W')
  (hr : Kd.C k39 w A l.length l) :
  Calls Tryz.prog 159 #[.slice A l.length c, .func (.func g) #[] lb] w fun e w' => e = .returned (.int .i64 (idxOf p l)) ∧ Below w.heap.size w w' := by
 have hm : l.length ≤ 9223372036854775807 := hr.2.1
 have HR := Aq.mk hr
 have HP := Aq.mk hp
 clear hr hp
 go_enter Tryz.func159, Tryz.ntmps159
 go_wp2
 go_loopg [5, 8] l.length (fun gg _ s8 wr => ∃ kk : Nat, kk ≤ l.length ∧ l.length - kk ≤ gg ∧ s8 = .int .i64 kk ∧ Aq (Below w.heap.size w wr) ∧ Aq (idxOf p l = shifted kk (idxOf p (l.drop kk))))
 case atStart => exact ⟨0, Nat.zero_le _, by omega, rfl, ⟨Below.refl _ w⟩, ⟨shifted_start p l⟩⟩
 case round =>
  obtain ⟨kk, hkk, hg, rfl, BW, A0⟩ := hrel
  by_cases hlt : kk < l.length
  ·have hltz : (kk : Int) < (l.length : Int) := by omega
   have h0 : (0 : Int) ≤ (kk : Int) := by omega
   obtain ⟨ad, e_, hx0, hx1, hx2, hx3, hx4, hx5, hx6, hx7, hx8⟩ := at_T39 HR.out (kk : Int) h0 hltz
   cases e_
   obtain ⟨HX, HD⟩ := rdT39_drop l kk hlt
   generalize rd_T39 l (kk : Int) = X at hx0 hx1 hx2 hx3 hx4 hx5 hx6 hx7 hx8 HX HD
   replace hx0 := (BW.out.cell (World.block_lt_of_cell? w _ hx0)).trans hx0
   replace hx1 := (BW.out.cell (World.block_lt_of_cell? w _ hx1)).trans hx1
   replace hx2 := (BW.out.cell (World.block_lt_of_cell? w _ hx2)).trans hx2
   replace hx3 := (BW.out.cell (World.block_lt_of_cell? w _ hx3)).trans hx3
   replace hx4 := (BW.out.cell (World.block_lt_of_cell? w _ hx4)).trans hx4
   replace hx5 := (BW.out.cell (World.block_lt_of_cell? w _ hx5)).trans hx5
   replace hx6 := (BW.out.cell (World.block_lt_of_cell? w _ hx6)).trans hx6
   replace hx7 := (BW.out.cell (World.block_lt_of_cell? w _ hx7)).trans hx7
   replace hx8 := (BW.out.cell (World.block_lt_of_cell? w _ hx8)).trans hx8
   simp only [Int.toNat_natCast] at hx0 hx1 hx2 hx3 hx4 hx5 hx6 hx7 hx8
   have hcall := HP.out wr X (by exact HX) BW.out
   have hd : l.drop kk = X :: l.drop (kk + 1) := HD
   cases hq : p X with
   | true =>
    rw [hq] at hcall
    have HF : Aq (idxOf p l = kk) := ⟨by rw [A0.out, hd, idxOf_yes hq]; simp [shifted]⟩
    clear hd A0 HX HD
    go_wp2_with (go_at_fn g; refine hcall.mono ?_; rintro e w' ⟨rfl, hb'⟩)
    go_ret
    exact ⟨by rw [HF.out]; rfl, hb'⟩
   | false =>
    rw [hq] at hcall
    have HF : Aq (idxOf p l = shifted (kk + 1) (idxOf p (l.drop (kk + 1)))) := ⟨by rw [A0.out, hd, idxOf_no hq, shifted_shifted]⟩
    clear hd A0 HX HD
    go_wp2_with (go_at_fn g; refine hcall.mono ?_; rintro e w' ⟨rfl, hb'⟩)
    go_roundg (l.length - (kk + 1))
    case measure => omega
    case rel => exact ⟨kk + 1, by omega, by omega, by go_num, ⟨hb'⟩, HF⟩
  ·have hltz : ¬ (kk : Int) < (l.length : Int) := by omega
   have HF : Aq (idxOf p l = -1) := ⟨by rw [A0.out, List.drop_eq_nil_of_le (by omega)]; rfl⟩
   clear A0
   go_wp2
   go_ret
   exact ⟨by rw [HF.out]; rfl, BW.out⟩
theorem contains_Sale (g : Nat) (lb : Array Value) (p : S39 → Bool) (A : Option Addr) (c : Nat) (l : List S39) (w : World)
  (eg : ∀ args w, (callFunc g args).run Tryz.prog w = .ok (.enter g args) w)
  (hp : ∀ (W : World) (x : S39), x ∈ l → Below w.heap.size w W → Calls Tryz.prog g (#[.agg #[.int .i64 x.f0, .int .i64 x.f1, .int .i64 x.f2, .int .i64 x.f3, .int .i64 x.f4, .int .i64 x.f5, .int .i64 x.f6, .int .i64 x.f7, .int .i64 x.f8]] ++ lb) W fun e W' => e = .returned (.bool (p x)) ∧ Below w.heap.size w W')
  (hr : Kd.C k39 w A l.length l) :
  Calls Tryz.prog 129 #[.slice A l.length c, .func (.func g) #[] lb] w fun e w' => e = .returned (.bool (l.any p)) ∧ Below w.heap.size w w' := by
 have HI := Aq.mk (index_Sale g lb p A c l w eg hp hr)
 have HA := Aq.mk (idxOf_any p l)
 clear hp hr eg
 generalize idxOf p l = n at HI HA
 generalize l.any p = b at HA
 go_enter Tryz.func129, Tryz.ntmps129
 go_wp2_with (go_at_call 159; refine HI.out.mono ?_; rintro e w' ⟨rfl, hb'⟩)
 go_ret
 exact ⟨by rw [HA.out]; rfl, hb'⟩
end
section
open Go.Shelf
def KpB (n b1 b2 : Nat) (A B : World) : Prop := Below n A B ∧ B.heap[b1]? = A.heap[b1]? ∧ B.heap[b2]? = A.heap[b2]?
theorem grown_of_below {W W' : World} (h : Below W.heap.size W W') : W.grownBy W' none := ⟨h.os, h.tape, h.output, h.size, fun k hk _ => h.block k hk⟩
def countsR (l : List S26) (k : Int) (x : S26) : Bool := x.f7 == 0 && decide (x.f1 ≤ k) && !(l.any fun v => v.f7 == x.f0 && decide (v.f1 ≤ k))
def encR (x : S26) : Array Value := #[.agg #[.int .i64 x.f0, .int .i64 x.f1, .int .i64 x.f2, .string x.f3, .int .i64 x.f4.f0, .int .i64 x.f4.f1, .int .i64 x.f5, .int .i64 x.f6, .int .i64 x.f7]]
theorem make_rate (A : Option Addr) (n c : Nat) (k : Int) (w : World) : Calls Tryz.prog 91 #[.slice A n c, .int .i64 k] w fun e w' => e = .returned (.func (.func 133) #[] #[.pointer (some ⟨w.heap.size, 0, none⟩), .pointer (some ⟨w.heap.size + 1, 0, none⟩)]) ∧ w' = (w.alloc (.cells #[.slice A n c] 22)).alloc (.cells #[.int .i64 k] 3) := by
 have hmf : ∀ (fn : Fn) (first cap : Array Value) (w : World), (Instr.makeFunc fn first cap).run Tryz.prog w = .ok (.func fn first cap) w := fun _ _ _ _ => rfl
 go_enter Tryz.func91, Tryz.ntmps91
 go_wp2
 go_ret
 exact ⟨rfl, rfl⟩
attribute [local go_sem] Oper.semAt_some in
set_option maxRecDepth 100000 in
set_option maxHeartbeats 4000000 in
theorem counting_rate (n l b1 b2 : Nat) (w0 : World) (A : Option Addr) (c : Nat) (xs : List S26) (k : Int) (hr : Kd.C k26 w0 A xs.length xs) (J Jx : List S26 → World → Prop) (W : World) (hJ : AbidesFrom W.heap.size J)
  (hY : ∀ pre x W1, J pre W1 → pre.length < (xs.filter (countsR xs k)).length → YieldAt Fence.wide (n - 1) Tryz.prog l (encR x) W1 fun e W' => (e = .returned (.bool true) ∧ J (pre ++ [x]) W' ∧ KpB w0.heap.size b1 b2 W1 W') ∨ (e = .returned (.bool false) ∧ Jx (pre ++ [x]) W'))
  (hW : Below w0.heap.size w0 W) (hb1 : W.heap[b1]? = some (.cells #[.slice A xs.length c] 22 (0, 0))) (hb2 : W.heap[b2]? = some (.cells #[.int .i64 k] 3 (0, 0))) (h0 : J [] W) :
  CallsIn Fence.wide n Tryz.prog 133 #[.func (.yield l) #[] #[], .pointer (some ⟨b1, 0, none⟩), .pointer (some ⟨b2, 0, none⟩)] W fun e W' => (∃ v, e = .returned v) ∧ ((∃ ys, ys = xs.filter (countsR xs k) ∧ J ys W') ∨ (∃ pre, pre <+: xs.filter (countsR xs k) ∧ Jx pre W')) := by
 have hm : xs.length ≤ 9223372036854775807 := hr.2.1
 have hmf : ∀ (fn : Fn) (first cap : Array Value) (w : World), (Instr.makeFunc fn first cap).run Tryz.prog w = .ok (.func fn first cap) w := fun _ _ _ _ => rfl
 have eg1 : Aq (∀ args w, (callFunc 134 args).run Tryz.prog w = .ok (.enter 134 args) w) := ⟨enters_of Tryz.func134 (by kernel_rfl) rfl⟩
 have HR := Aq.mk hr
 have HY := Aq.mk hY
 have HJ := Aq.mk hJ
 clear hr hY hJ
 have h1 : W.cell? ⟨b1, 0, none⟩ = some (.slice A xs.length c) := (bC_ hb1 0).trans rfl
 have B1 := Aq.mk hb1
 have B2 := Aq.mk hb2
 have HB := Aq.mk hW
 clear hb1 hb2 hW
 refine callsIn_of_wp Tryz.func133 rfl trivial ?_ rfl
 simp only [Tryz.ntmps133, List.size_toArray, List.length_cons, List.length_nil, Nat.reduceAdd, Nat.reduceSub, Array.replicate_succ, Array.replicate_zero, List.push_toArray, List.append_toArray, List.nil_append, List.cons_append]
 gi_wp2
 clear h1
 gi_loopw [10] (fun s wr => ∃ kk : Nat, kk ≤ xs.length ∧ s = .int .i64 kk ∧ Aq (Below w0.heap.size w0 wr) ∧ Aq (wr.heap[b1]? = some (.cells #[.slice A xs.length c] 22 (0, 0))) ∧ Aq (wr.heap[b2]? = some (.cells #[.int .i64 k] 3 (0, 0))) ∧ Aq (J ((xs.take kk).filter (countsR xs k)) wr))
  (fun s _ => xs.length - (intOf s).toNat)
 case atStart => exact ⟨0, Nat.zero_le _, rfl, HB, B1, B2, ⟨h0⟩⟩
 case round =>
  clear HB B1 B2 h0
  obtain ⟨kk, hkk, rfl, HB, B1, B2, HJs⟩ := hrel
  by_cases hlt : kk < xs.length
  ·have hltz : (kk : Int) < (xs.length : Int) := by omega
   have h0 : (0 : Int) ≤ (kk : Int) := by omega
   obtain ⟨ad, e_, hx0, hx1, hx2, hx3, hx4, hx5, hx6, hx7, hx8⟩ := at_T26 HR.out (kk : Int) h0 hltz
   cases e_
   obtain ⟨_, HD⟩ := rdT26_drop xs kk hlt
   generalize rd_T26 xs (kk : Int) = X at hx0 hx1 hx2 hx3 hx4 hx5 hx6 hx7 hx8 HD
   replace hx0 := (HB.out.cell (World.block_lt_of_cell? w0 _ hx0)).trans hx0
   replace hx1 := (HB.out.cell (World.block_lt_of_cell? w0 _ hx1)).trans hx1
   replace hx2 := (HB.out.cell (World.block_lt_of_cell? w0 _ hx2)).trans hx2
   replace hx3 := (HB.out.cell (World.block_lt_of_cell? w0 _ hx3)).trans hx3
   replace hx4 := (HB.out.cell (World.block_lt_of_cell? w0 _ hx4)).trans hx4
   replace hx5 := (HB.out.cell (World.block_lt_of_cell? w0 _ hx5)).trans hx5
   replace hx6 := (HB.out.cell (World.block_lt_of_cell? w0 _ hx6)).trans hx6
   replace hx7 := (HB.out.cell (World.block_lt_of_cell? w0 _ hx7)).trans hx7
   replace hx8 := (HB.out.cell (World.block_lt_of_cell? w0 _ hx8)).trans hx8
   simp only [Int.toNat_natCast] at hx0 hx1 hx2 hx3 hx4 hx5 hx6 hx7 hx8
   have hb1 : wr.cell? ⟨b1, 0, none⟩ = some (.slice (some ad) xs.length c) := (bC_ B1.out 0).trans rfl
   obtain ⟨hb1lt, _⟩ := Array.getElem?_eq_some_iff.1 B1.out
   obtain ⟨hb2lt, _⟩ := Array.getElem?_eq_some_iff.1 B2.out
   have HT : Aq (xs.take (kk + 1) = xs.take kk ++ [X]) := ⟨take_snoc_drop HD⟩
   have HF := Aq.mk HD
   clear HD
   rcases hz : (X.f7 == 0) with _ | _
   ·have HC : Aq (countsR xs k X = false) := ⟨by unfold countsR; rw [hz]; rfl⟩
    obtain ⟨v, HV⟩ : ∃ v, Aq ((xs.any fun v => v.f7 == X.f0 && decide (v.f1 ≤ k)) = v) := ⟨_, ⟨rfl⟩⟩
    gi_wp2_with (first | (refine ⟨trivial, (fun h => absurd h (by decide)), ?_⟩; gi_at_call 115; go_must (refine (callsIn_wide.2 (headB_rate X _)).mono ?_; rintro e w1 ⟨rfl, hb⟩; have hs1 : wr.heap.size < w1.heap.size := Nat.lt_of_lt_of_le (by simp) hb.size; have HW := Aq.mk (bS_ (bA_ (Below.refl wr.heap.size wr) _) hb); have HX := Aq.mk (bB_ (heap_alloc_new wr _) hb); have hb1' : w1.cell? ⟨b1, 0, none⟩ = some (.slice (some ad) xs.length c) := (HW.out.cell (p := ⟨b1, 0, none⟩) hb1lt).trans hb1; have hl1 : b1 < w1.heap.size := Nat.lt_trans hb1lt hs1; have BB2 := Aq.mk ((HW.out.block b2 hb2lt).trans B2.out); have HB1 := Aq.mk (HB.out.trans (HW.out.mono (bZ_ HB.out))); clear hb hb1 hx0 hx1 hx2 hx3 hx4 hx5 hx6 hx7 hx8)) | (refine ⟨trivial, (fun h => absurd h (by decide)), ?_⟩; gi_at_call 116; go_must (refine (callsIn_wide.2 (contains_Rate 134 #[.pointer (some ⟨w1.heap.size, 0, none⟩), .pointer (some ⟨b2, 0, none⟩)] (fun v => v.f7 == X.f0 && decide (v.f1 ≤ k)) _ c xs _ eg1.out ?hp ?hr)).mono ?_; (case hp => exact fun W2 y _ hb2 => (void_rate y w1.heap.size b2 X.f0 X.f1 X.f7 k W2 (bB_ (heap_alloc_new w1 _) hb2) (bB_ (bL_ BB2.out _) hb2)).mono fun e W3 ⟨he, hw⟩ => ⟨he, bS_ hb2 hw⟩); (case hr => exact Kd.C_below HR.out (bA_ HB1.out _)); rintro e w2 ⟨he, hb⟩; rw [HV.out] at he; subst he; have n0_ := Aq.mk (bS_ (bA_ HW.out _) hb); have n1_ := Aq.mk (bB_ (bL_ HX.out _) hb); have HE := Aq.mk (bB_ (heap_alloc_new w1 _) hb); clear HX HW HB1 hb; have HW := n0_; have HX := n1_; clear n0_ n1_; have hy0 : w2.cell? ⟨wr.heap.size, 0, none⟩ = some (.int .i64 X.f0) := (bC_ HX.out 0).trans rfl; have hy1 : w2.cell? ⟨wr.heap.size, 1, none⟩ = some (.int .i64 X.f1) := (bC_ HX.out 1).trans rfl; have hy2 : w2.cell? ⟨wr.heap.size, 2, none⟩ = some (.int .i64 X.f2) := (bC_ HX.out 2).trans rfl; have hy3 : w2.cell? ⟨wr.heap.size, 3, none⟩ = some (.string X.f3) := (bC_ HX.out 3).trans rfl; have hy4 : w2.cell? ⟨wr.heap.size, 4, none⟩ = some (.int .i64 X.f4.f0) := (bC_ HX.out 4).trans rfl; have hy5 : w2.cell? ⟨wr.heap.size, 5, none⟩ = some (.int .i64 X.f4.f1) := (bC_ HX.out 5).trans rfl; have hy6 : w2.cell? ⟨wr.heap.size, 6, none⟩ = some (.int .i64 X.f5) := (bC_ HX.out 6).trans rfl; have hy7 : w2.cell? ⟨wr.heap.size, 7, none⟩ = some (.int .i64 X.f6) := (bC_ HX.out 7).trans rfl; have hy8 : w2.cell? ⟨wr.heap.size, 8, none⟩ = some (.int .i64 X.f7) := (bC_ HX.out 8).trans rfl; have he0 : w2.cell? ⟨w1.heap.size, 0, none⟩ = some (.int .i64 X.f0) := (bC_ HE.out 0).trans rfl; have he1 : w2.cell? ⟨w1.heap.size, 1, none⟩ = some (.int .i64 X.f1) := (bC_ HE.out 1).trans rfl; have he2 : w2.cell? ⟨w1.heap.size, 2, none⟩ = some (.int .i64 X.f7) := (bC_ HE.out 2).trans rfl; have hk2 : w2.cell? ⟨b2, 0, none⟩ = some (.int .i64 k) := (HW.out.cell (p := ⟨b2, 0, none⟩) hb2lt).trans ((bC_ B2.out 0).trans rfl))))
    refine ⟨fun _ h => (by cases h), ?_⟩
    gi_wp2
    go_roundw
    case rel => exact ⟨kk + 1, by omega, by go_num, ⟨HB.out.trans (HW.out.mono (bZ_ HB.out))⟩, ⟨(HW.out.block b1 hb1lt).trans B1.out⟩, ⟨(HW.out.block b2 hb2lt).trans B2.out⟩, ⟨by rw [HT.out, List.filter_append, List.filter_cons_of_neg (by rw [HC.out]; decide), List.filter_nil, List.append_nil]; exact HJ.out _ _ _ none HJs.out (grown_of_below HW.out) (fun _ h => (by cases h))⟩⟩
    case measure => simp [intOf]; omega
   rcases hl : decide (X.f1 ≤ k) with _ | _
   ·have HC : Aq (countsR xs k X = false) := ⟨by unfold countsR; rw [hz, hl]; rfl⟩
    obtain ⟨v, HV⟩ : ∃ v, Aq ((xs.any fun v => v.f7 == X.f0 && decide (v.f1 ≤ k)) = v) := ⟨_, ⟨rfl⟩⟩
    gi_wp2_with (first | (refine ⟨trivial, (fun h => absurd h (by decide)), ?_⟩; gi_at_call 115; go_must (refine (callsIn_wide.2 (headB_rate X _)).mono ?_; rintro e w1 ⟨rfl, hb⟩; have hs1 : wr.heap.size < w1.heap.size := Nat.lt_of_lt_of_le (by simp) hb.size; have HW := Aq.mk (bS_ (bA_ (Below.refl wr.heap.size wr) _) hb); have HX := Aq.mk (bB_ (heap_alloc_new wr _) hb); have hb1' : w1.cell? ⟨b1, 0, none⟩ = some (.slice (some ad) xs.length c) := (HW.out.cell (p := ⟨b1, 0, none⟩) hb1lt).trans hb1; have hl1 : b1 < w1.heap.size := Nat.lt_trans hb1lt hs1; have BB2 := Aq.mk ((HW.out.block b2 hb2lt).trans B2.out); have HB1 := Aq.mk (HB.out.trans (HW.out.mono (bZ_ HB.out))); clear hb hb1 hx0 hx1 hx2 hx3 hx4 hx5 hx6 hx7 hx8)) | (refine ⟨trivial, (fun h => absurd h (by decide)), ?_⟩; gi_at_call 116; go_must (refine (callsIn_wide.2 (contains_Rate 134 #[.pointer (some ⟨w1.heap.size, 0, none⟩), .pointer (some ⟨b2, 0, none⟩)] (fun v => v.f7 == X.f0 && decide (v.f1 ≤ k)) _ c xs _ eg1.out ?hp ?hr)).mono ?_; (case hp => exact fun W2 y _ hb2 => (void_rate y w1.heap.size b2 X.f0 X.f1 X.f7 k W2 (bB_ (heap_alloc_new w1 _) hb2) (bB_ (bL_ BB2.out _) hb2)).mono fun e W3 ⟨he, hw⟩ => ⟨he, bS_ hb2 hw⟩); (case hr => exact Kd.C_below HR.out (bA_ HB1.out _)); rintro e w2 ⟨he, hb⟩; rw [HV.out] at he; subst he; have n0_ := Aq.mk (bS_ (bA_ HW.out _) hb); have n1_ := Aq.mk (bB_ (bL_ HX.out _) hb); have HE := Aq.mk (bB_ (heap_alloc_new w1 _) hb); clear HX HW HB1 hb; have HW := n0_; have HX := n1_; clear n0_ n1_; have hy0 : w2.cell? ⟨wr.heap.size, 0, none⟩ = some (.int .i64 X.f0) := (bC_ HX.out 0).trans rfl; have hy1 : w2.cell? ⟨wr.heap.size, 1, none⟩ = some (.int .i64 X.f1) := (bC_ HX.out 1).trans rfl; have hy2 : w2.cell? ⟨wr.heap.size, 2, none⟩ = some (.int .i64 X.f2) := (bC_ HX.out 2).trans rfl; have hy3 : w2.cell? ⟨wr.heap.size, 3, none⟩ = some (.string X.f3) := (bC_ HX.out 3).trans rfl; have hy4 : w2.cell? ⟨wr.heap.size, 4, none⟩ = some (.int .i64 X.f4.f0) := (bC_ HX.out 4).trans rfl; have hy5 : w2.cell? ⟨wr.heap.size, 5, none⟩ = some (.int .i64 X.f4.f1) := (bC_ HX.out 5).trans rfl; have hy6 : w2.cell? ⟨wr.heap.size, 6, none⟩ = some (.int .i64 X.f5) := (bC_ HX.out 6).trans rfl; have hy7 : w2.cell? ⟨wr.heap.size, 7, none⟩ = some (.int .i64 X.f6) := (bC_ HX.out 7).trans rfl; have hy8 : w2.cell? ⟨wr.heap.size, 8, none⟩ = some (.int .i64 X.f7) := (bC_ HX.out 8).trans rfl; have he0 : w2.cell? ⟨w1.heap.size, 0, none⟩ = some (.int .i64 X.f0) := (bC_ HE.out 0).trans rfl; have he1 : w2.cell? ⟨w1.heap.size, 1, none⟩ = some (.int .i64 X.f1) := (bC_ HE.out 1).trans rfl; have he2 : w2.cell? ⟨w1.heap.size, 2, none⟩ = some (.int .i64 X.f7) := (bC_ HE.out 2).trans rfl; have hk2 : w2.cell? ⟨b2, 0, none⟩ = some (.int .i64 k) := (HW.out.cell (p := ⟨b2, 0, none⟩) hb2lt).trans ((bC_ B2.out 0).trans rfl))))
    refine ⟨fun _ h => (by cases h), ?_⟩
    gi_wp2
    go_roundw
    case rel => exact ⟨kk + 1, by omega, by go_num, ⟨HB.out.trans (HW.out.mono (bZ_ HB.out))⟩, ⟨(HW.out.block b1 hb1lt).trans B1.out⟩, ⟨(HW.out.block b2 hb2lt).trans B2.out⟩, ⟨by rw [HT.out, List.filter_append, List.filter_cons_of_neg (by rw [HC.out]; decide), List.filter_nil, List.append_nil]; exact HJ.out _ _ _ none HJs.out (grown_of_below HW.out) (fun _ h => (by cases h))⟩⟩
    case measure => simp [intOf]; omega
   rcases HV : (xs.any fun v => v.f7 == X.f0 && decide (v.f1 ≤ k)) with _ | _
   ·have HC : Aq (countsR xs k X = true) := ⟨by unfold countsR; rw [hz, hl, HV]; rfl⟩
    have HV : Aq ((xs.any fun v => v.f7 == X.f0 && decide (v.f1 ≤ k)) = false) := ⟨HV⟩
    have HS : Aq ((xs.take (kk + 1)).filter (countsR xs k) = (xs.take kk).filter (countsR xs k) ++ [X]) := ⟨by rw [HT.out, List.filter_append, List.filter_cons_of_pos HC.out, List.filter_nil]⟩
    have HP : Aq ((xs.take (kk + 1)).filter (countsR xs k) <+: xs.filter (countsR xs k)) := ⟨(List.take_prefix _ _).filter _⟩
    have HL : Aq (((xs.take kk).filter (countsR xs k)).length < (xs.filter (countsR xs k)).length) := ⟨by have h1 := HP.out.length_le; rw [HS.out, List.length_append] at h1; exact h1⟩
    gi_wp2_with (first | (refine ⟨trivial, (fun h => absurd h (by decide)), ?_⟩; gi_at_call 115; go_must (refine (callsIn_wide.2 (headB_rate X _)).mono ?_; rintro e w1 ⟨rfl, hb⟩; have hs1 : wr.heap.size < w1.heap.size := Nat.lt_of_lt_of_le (by simp) hb.size; have HW := Aq.mk (bS_ (bA_ (Below.refl wr.heap.size wr) _) hb); have HX := Aq.mk (bB_ (heap_alloc_new wr _) hb); have hb1' : w1.cell? ⟨b1, 0, none⟩ = some (.slice (some ad) xs.length c) := (HW.out.cell (p := ⟨b1, 0, none⟩) hb1lt).trans hb1; have hl1 : b1 < w1.heap.size := Nat.lt_trans hb1lt hs1; have BB2 := Aq.mk ((HW.out.block b2 hb2lt).trans B2.out); have HB1 := Aq.mk (HB.out.trans (HW.out.mono (bZ_ HB.out))); clear hb hb1 hx0 hx1 hx2 hx3 hx4 hx5 hx6 hx7 hx8)) | (refine ⟨trivial, (fun h => absurd h (by decide)), ?_⟩; gi_at_call 116; go_must (refine (callsIn_wide.2 (contains_Rate 134 #[.pointer (some ⟨w1.heap.size, 0, none⟩), .pointer (some ⟨b2, 0, none⟩)] (fun v => v.f7 == X.f0 && decide (v.f1 ≤ k)) _ c xs _ eg1.out ?hp ?hr)).mono ?_; (case hp => exact fun W2 y _ hb2 => (void_rate y w1.heap.size b2 X.f0 X.f1 X.f7 k W2 (bB_ (heap_alloc_new w1 _) hb2) (bB_ (bL_ BB2.out _) hb2)).mono fun e W3 ⟨he, hw⟩ => ⟨he, bS_ hb2 hw⟩); (case hr => exact Kd.C_below HR.out (bA_ HB1.out _)); rintro e w2 ⟨he, hb⟩; rw [HV.out] at he; subst he; have n0_ := Aq.mk (bS_ (bA_ HW.out _) hb); have n1_ := Aq.mk (bB_ (bL_ HX.out _) hb); have HE := Aq.mk (bB_ (heap_alloc_new w1 _) hb); clear HX HW HB1 hb; have HW := n0_; have HX := n1_; clear n0_ n1_; have hy0 : w2.cell? ⟨wr.heap.size, 0, none⟩ = some (.int .i64 X.f0) := (bC_ HX.out 0).trans rfl; have hy1 : w2.cell? ⟨wr.heap.size, 1, none⟩ = some (.int .i64 X.f1) := (bC_ HX.out 1).trans rfl; have hy2 : w2.cell? ⟨wr.heap.size, 2, none⟩ = some (.int .i64 X.f2) := (bC_ HX.out 2).trans rfl; have hy3 : w2.cell? ⟨wr.heap.size, 3, none⟩ = some (.string X.f3) := (bC_ HX.out 3).trans rfl; have hy4 : w2.cell? ⟨wr.heap.size, 4, none⟩ = some (.int .i64 X.f4.f0) := (bC_ HX.out 4).trans rfl; have hy5 : w2.cell? ⟨wr.heap.size, 5, none⟩ = some (.int .i64 X.f4.f1) := (bC_ HX.out 5).trans rfl; have hy6 : w2.cell? ⟨wr.heap.size, 6, none⟩ = some (.int .i64 X.f5) := (bC_ HX.out 6).trans rfl; have hy7 : w2.cell? ⟨wr.heap.size, 7, none⟩ = some (.int .i64 X.f6) := (bC_ HX.out 7).trans rfl; have hy8 : w2.cell? ⟨wr.heap.size, 8, none⟩ = some (.int .i64 X.f7) := (bC_ HX.out 8).trans rfl; have he0 : w2.cell? ⟨w1.heap.size, 0, none⟩ = some (.int .i64 X.f0) := (bC_ HE.out 0).trans rfl; have he1 : w2.cell? ⟨w1.heap.size, 1, none⟩ = some (.int .i64 X.f1) := (bC_ HE.out 1).trans rfl; have he2 : w2.cell? ⟨w1.heap.size, 2, none⟩ = some (.int .i64 X.f7) := (bC_ HE.out 2).trans rfl; have hk2 : w2.cell? ⟨b2, 0, none⟩ = some (.int .i64 k) := (HW.out.cell (p := ⟨b2, 0, none⟩) hb2lt).trans ((bC_ B2.out 0).trans rfl); obtain ⟨fn, tmps, assign, body, hy, hR⟩ := HY.out _ X w2 (HJ.out _ _ _ none HJs.out (grown_of_below HW.out) (fun _ h => (by cases h))) HL.out; have hRR := hR; clear hR; dsimp only [encR] at hy)))
    refine ⟨(fun h => absurd h (by decide)), hRR.mono ?_⟩
    rintro e w3 (⟨rfl, hJ3, hkp⟩ | ⟨rfl, hJx3⟩)
    ·have KP := Aq.mk hkp
     have J3 := Aq.mk hJ3
     clear hkp hJ3
     gi_wp2
     go_roundw
     case rel => exact ⟨kk + 1, by omega, by go_num, ⟨(HB.out.trans (HW.out.mono (bZ_ HB.out))).trans KP.out.1⟩, ⟨KP.out.2.1.trans ((HW.out.block b1 hb1lt).trans B1.out)⟩, ⟨KP.out.2.2.trans ((HW.out.block b2 hb2lt).trans B2.out)⟩, ⟨by rw [HS.out]; exact J3.out⟩⟩
     case measure => simp [intOf]; omega
    ·have J3 := Aq.mk hJx3
     clear hJx3
     gi_wp2
     refine bodyPost_ret (results_none rfl _ _ _) rfl ?_
     exact ⟨⟨_, rfl⟩, .inr ⟨_, HP.out, by rw [HS.out]; exact J3.out⟩⟩
   ·have HC : Aq (countsR xs k X = false) := ⟨by unfold countsR; rw [hz, hl, HV]; rfl⟩
    have HV : Aq ((xs.any fun v => v.f7 == X.f0 && decide (v.f1 ≤ k)) = true) := ⟨HV⟩
    gi_wp2_with (first | (refine ⟨trivial, (fun h => absurd h (by decide)), ?_⟩; gi_at_call 115; go_must (refine (callsIn_wide.2 (headB_rate X _)).mono ?_; rintro e w1 ⟨rfl, hb⟩; have hs1 : wr.heap.size < w1.heap.size := Nat.lt_of_lt_of_le (by simp) hb.size; have HW := Aq.mk (bS_ (bA_ (Below.refl wr.heap.size wr) _) hb); have HX := Aq.mk (bB_ (heap_alloc_new wr _) hb); have hb1' : w1.cell? ⟨b1, 0, none⟩ = some (.slice (some ad) xs.length c) := (HW.out.cell (p := ⟨b1, 0, none⟩) hb1lt).trans hb1; have hl1 : b1 < w1.heap.size := Nat.lt_trans hb1lt hs1; have BB2 := Aq.mk ((HW.out.block b2 hb2lt).trans B2.out); have HB1 := Aq.mk (HB.out.trans (HW.out.mono (bZ_ HB.out))); clear hb hb1 hx0 hx1 hx2 hx3 hx4 hx5 hx6 hx7 hx8)) | (refine ⟨trivial, (fun h => absurd h (by decide)), ?_⟩; gi_at_call 116; go_must (refine (callsIn_wide.2 (contains_Rate 134 #[.pointer (some ⟨w1.heap.size, 0, none⟩), .pointer (some ⟨b2, 0, none⟩)] (fun v => v.f7 == X.f0 && decide (v.f1 ≤ k)) _ c xs _ eg1.out ?hp ?hr)).mono ?_; (case hp => exact fun W2 y _ hb2 => (void_rate y w1.heap.size b2 X.f0 X.f1 X.f7 k W2 (bB_ (heap_alloc_new w1 _) hb2) (bB_ (bL_ BB2.out _) hb2)).mono fun e W3 ⟨he, hw⟩ => ⟨he, bS_ hb2 hw⟩); (case hr => exact Kd.C_below HR.out (bA_ HB1.out _)); rintro e w2 ⟨he, hb⟩; rw [HV.out] at he; subst he; have n0_ := Aq.mk (bS_ (bA_ HW.out _) hb); have n1_ := Aq.mk (bB_ (bL_ HX.out _) hb); have HE := Aq.mk (bB_ (heap_alloc_new w1 _) hb); clear HX HW HB1 hb; have HW := n0_; have HX := n1_; clear n0_ n1_; have hy0 : w2.cell? ⟨wr.heap.size, 0, none⟩ = some (.int .i64 X.f0) := (bC_ HX.out 0).trans rfl; have hy1 : w2.cell? ⟨wr.heap.size, 1, none⟩ = some (.int .i64 X.f1) := (bC_ HX.out 1).trans rfl; have hy2 : w2.cell? ⟨wr.heap.size, 2, none⟩ = some (.int .i64 X.f2) := (bC_ HX.out 2).trans rfl; have hy3 : w2.cell? ⟨wr.heap.size, 3, none⟩ = some (.string X.f3) := (bC_ HX.out 3).trans rfl; have hy4 : w2.cell? ⟨wr.heap.size, 4, none⟩ = some (.int .i64 X.f4.f0) := (bC_ HX.out 4).trans rfl; have hy5 : w2.cell? ⟨wr.heap.size, 5, none⟩ = some (.int .i64 X.f4.f1) := (bC_ HX.out 5).trans rfl; have hy6 : w2.cell? ⟨wr.heap.size, 6, none⟩ = some (.int .i64 X.f5) := (bC_ HX.out 6).trans rfl; have hy7 : w2.cell? ⟨wr.heap.size, 7, none⟩ = some (.int .i64 X.f6) := (bC_ HX.out 7).trans rfl; have hy8 : w2.cell? ⟨wr.heap.size, 8, none⟩ = some (.int .i64 X.f7) := (bC_ HX.out 8).trans rfl; have he0 : w2.cell? ⟨w1.heap.size, 0, none⟩ = some (.int .i64 X.f0) := (bC_ HE.out 0).trans rfl; have he1 : w2.cell? ⟨w1.heap.size, 1, none⟩ = some (.int .i64 X.f1) := (bC_ HE.out 1).trans rfl; have he2 : w2.cell? ⟨w1.heap.size, 2, none⟩ = some (.int .i64 X.f7) := (bC_ HE.out 2).trans rfl; have hk2 : w2.cell? ⟨b2, 0, none⟩ = some (.int .i64 k) := (HW.out.cell (p := ⟨b2, 0, none⟩) hb2lt).trans ((bC_ B2.out 0).trans rfl))))
    refine ⟨fun _ h => (by cases h), ?_⟩
    gi_wp2
    go_roundw
    case rel => exact ⟨kk + 1, by omega, by go_num, ⟨HB.out.trans (HW.out.mono (bZ_ HB.out))⟩, ⟨(HW.out.block b1 hb1lt).trans B1.out⟩, ⟨(HW.out.block b2 hb2lt).trans B2.out⟩, ⟨by rw [HT.out, List.filter_append, List.filter_cons_of_neg (by rw [HC.out]; decide), List.filter_nil, List.append_nil]; exact HJ.out _ _ _ none HJs.out (grown_of_below HW.out) (fun _ h => (by cases h))⟩⟩
    case measure => simp [intOf]; omega
  ·have HA : Aq ((xs.take kk).filter (countsR xs k) = xs.filter (countsR xs k)) := ⟨by rw [List.take_of_length_le (by omega)]⟩
   have hge : ¬ (kk : Int) < (xs.length : Int) := by omega
   gi_wp2
   go_end0
   have z := HJs.out
   rw [HA.out] at z
   exact ⟨⟨_, rfl⟩, .inl z⟩
def countsS (l : List S39) (k : Int) (x : S39) : Bool := x.f8 == 0 && decide (x.f1 ≤ k) && !(l.any fun v => v.f8 == x.f0 && decide (v.f1 ≤ k))
def encS (x : S39) : Array Value := #[.agg #[.int .i64 x.f0, .int .i64 x.f1, .int .i64 x.f2, .int .i64 x.f3, .int .i64 x.f4, .int .i64 x.f5, .int .i64 x.f6, .int .i64 x.f7, .int .i64 x.f8]]
theorem make_sale (A : Option Addr) (n c : Nat) (k : Int) (w : World) : Calls Tryz.prog 89 #[.slice A n c, .int .i64 k] w fun e w' => e = .returned (.func (.func 127) #[] #[.pointer (some ⟨w.heap.size, 0, none⟩), .pointer (some ⟨w.heap.size + 1, 0, none⟩)]) ∧ w' = (w.alloc (.cells #[.slice A n c] 54)).alloc (.cells #[.int .i64 k] 3) := by
 have hmf : ∀ (fn : Fn) (first cap : Array Value) (w : World), (Instr.makeFunc fn first cap).run Tryz.prog w = .ok (.func fn first cap) w := fun _ _ _ _ => rfl
 go_enter Tryz.func89, Tryz.ntmps89
 go_wp2
 go_ret
 exact ⟨rfl, rfl⟩
attribute [local go_sem] Oper.semAt_some in
set_option maxRecDepth 100000 in
set_option maxHeartbeats 4000000 in
theorem counting_sale (n l b1 b2 : Nat) (w0 : World) (A : Option Addr) (c : Nat) (xs : List S39) (k : Int) (hr : Kd.C k39 w0 A xs.length xs) (J Jx : List S39 → World → Prop) (W : World) (hJ : AbidesFrom W.heap.size J)
  (hY : ∀ pre x W1, J pre W1 → pre.length < (xs.filter (countsS xs k)).length → YieldAt Fence.wide (n - 1) Tryz.prog l (encS x) W1 fun e W' => (e = .returned (.bool true) ∧ J (pre ++ [x]) W' ∧ KpB w0.heap.size b1 b2 W1 W') ∨ (e = .returned (.bool false) ∧ Jx (pre ++ [x]) W'))
  (hW : Below w0.heap.size w0 W) (hb1 : W.heap[b1]? = some (.cells #[.slice A xs.length c] 54 (0, 0))) (hb2 : W.heap[b2]? = some (.cells #[.int .i64 k] 3 (0, 0))) (h0 : J [] W) :
  CallsIn Fence.wide n Tryz.prog 127 #[.func (.yield l) #[] #[], .pointer (some ⟨b1, 0, none⟩), .pointer (some ⟨b2, 0, none⟩)] W fun e W' => (∃ v, e = .returned v) ∧ ((∃ ys, ys = xs.filter (countsS xs k) ∧ J ys W') ∨ (∃ pre, pre <+: xs.filter (countsS xs k) ∧ Jx pre W')) := by
 have hm : xs.length ≤ 9223372036854775807 := hr.2.1
 have hmf : ∀ (fn : Fn) (first cap : Array Value) (w : World), (Instr.makeFunc fn first cap).run Tryz.prog w = .ok (.func fn first cap) w := fun _ _ _ _ => rfl
 have eg1 : Aq (∀ args w, (callFunc 130 args).run Tryz.prog w = .ok (.enter 130 args) w) := ⟨enters_of Tryz.func130 (by kernel_rfl) rfl⟩
 have HR := Aq.mk hr
 have HY := Aq.mk hY
 have HJ := Aq.mk hJ
 clear hr hY hJ
 have h1 : W.cell? ⟨b1, 0, none⟩ = some (.slice A xs.length c) := (bC_ hb1 0).trans rfl
 have B1 := Aq.mk hb1
 have B2 := Aq.mk hb2
 have HB := Aq.mk hW
 clear hb1 hb2 hW
 refine callsIn_of_wp Tryz.func127 rfl trivial ?_ rfl
 simp only [Tryz.ntmps127, List.size_toArray, List.length_cons, List.length_nil, Nat.reduceAdd, Nat.reduceSub, Array.replicate_succ, Array.replicate_zero, List.push_toArray, List.append_toArray, List.nil_append, List.cons_append]
 gi_wp2
 clear h1
 gi_loopw [10] (fun s wr => ∃ kk : Nat, kk ≤ xs.length ∧ s = .int .i64 kk ∧ Aq (Below w0.heap.size w0 wr) ∧ Aq (wr.heap[b1]? = some (.cells #[.slice A xs.length c] 54 (0, 0))) ∧ Aq (wr.heap[b2]? = some (.cells #[.int .i64 k] 3 (0, 0))) ∧ Aq (J ((xs.take kk).filter (countsS xs k)) wr))
  (fun s _ => xs.length - (intOf s).toNat)
 case atStart => exact ⟨0, Nat.zero_le _, rfl, HB, B1, B2, ⟨h0⟩⟩
 case round =>
  clear HB B1 B2 h0
  obtain ⟨kk, hkk, rfl, HB, B1, B2, HJs⟩ := hrel
  by_cases hlt : kk < xs.length
  ·have hltz : (kk : Int) < (xs.length : Int) := by omega
   have h0 : (0 : Int) ≤ (kk : Int) := by omega
   obtain ⟨ad, e_, hx0, hx1, hx2, hx3, hx4, hx5, hx6, hx7, hx8⟩ := at_T39 HR.out (kk : Int) h0 hltz
   cases e_
   obtain ⟨_, HD⟩ := rdT39_drop xs kk hlt
   generalize rd_T39 xs (kk : Int) = X at hx0 hx1 hx2 hx3 hx4 hx5 hx6 hx7 hx8 HD
   replace hx0 := (HB.out.cell (World.block_lt_of_cell? w0 _ hx0)).trans hx0
   replace hx1 := (HB.out.cell (World.block_lt_of_cell? w0 _ hx1)).trans hx1
   replace hx2 := (HB.out.cell (World.block_lt_of_cell? w0 _ hx2)).trans hx2
   replace hx3 := (HB.out.cell (World.block_lt_of_cell? w0 _ hx3)).trans hx3
   replace hx4 := (HB.out.cell (World.block_lt_of_cell? w0 _ hx4)).trans hx4
   replace hx5 := (HB.out.cell (World.block_lt_of_cell? w0 _ hx5)).trans hx5
   replace hx6 := (HB.out.cell (World.block_lt_of_cell? w0 _ hx6)).trans hx6
   replace hx7 := (HB.out.cell (World.block_lt_of_cell? w0 _ hx7)).trans hx7
   replace hx8 := (HB.out.cell (World.block_lt_of_cell? w0 _ hx8)).trans hx8
   simp only [Int.toNat_natCast] at hx0 hx1 hx2 hx3 hx4 hx5 hx6 hx7 hx8
   have hb1 : wr.cell? ⟨b1, 0, none⟩ = some (.slice (some ad) xs.length c) := (bC_ B1.out 0).trans rfl
   obtain ⟨hb1lt, _⟩ := Array.getElem?_eq_some_iff.1 B1.out
   obtain ⟨hb2lt, _⟩ := Array.getElem?_eq_some_iff.1 B2.out
   have HT : Aq (xs.take (kk + 1) = xs.take kk ++ [X]) := ⟨take_snoc_drop HD⟩
   have HF := Aq.mk HD
   clear HD
   rcases hz : (X.f8 == 0) with _ | _
   ·have HC : Aq (countsS xs k X = false) := ⟨by unfold countsS; rw [hz]; rfl⟩
    obtain ⟨v, HV⟩ : ∃ v, Aq ((xs.any fun v => v.f8 == X.f0 && decide (v.f1 ≤ k)) = v) := ⟨_, ⟨rfl⟩⟩
    gi_wp2_with (first | (refine ⟨trivial, (fun h => absurd h (by decide)), ?_⟩; gi_at_call 128; go_must (refine (callsIn_wide.2 (headB_sale X _)).mono ?_; rintro e w1 ⟨rfl, hb⟩; have hs1 : wr.heap.size < w1.heap.size := Nat.lt_of_lt_of_le (by simp) hb.size; have HW := Aq.mk (bS_ (bA_ (Below.refl wr.heap.size wr) _) hb); have HX := Aq.mk (bB_ (heap_alloc_new wr _) hb); have hb1' : w1.cell? ⟨b1, 0, none⟩ = some (.slice (some ad) xs.length c) := (HW.out.cell (p := ⟨b1, 0, none⟩) hb1lt).trans hb1; have hl1 : b1 < w1.heap.size := Nat.lt_trans hb1lt hs1; have BB2 := Aq.mk ((HW.out.block b2 hb2lt).trans B2.out); have HB1 := Aq.mk (HB.out.trans (HW.out.mono (bZ_ HB.out))); clear hb hb1 hx0 hx1 hx2 hx3 hx4 hx5 hx6 hx7 hx8)) | (refine ⟨trivial, (fun h => absurd h (by decide)), ?_⟩; gi_at_call 129; go_must (refine (callsIn_wide.2 (contains_Sale 130 #[.pointer (some ⟨w1.heap.size, 0, none⟩), .pointer (some ⟨b2, 0, none⟩)] (fun v => v.f8 == X.f0 && decide (v.f1 ≤ k)) _ c xs _ eg1.out ?hp ?hr)).mono ?_; (case hp => exact fun W2 y _ hb2 => (void_sale y w1.heap.size b2 X.f0 X.f1 X.f8 k W2 (bB_ (heap_alloc_new w1 _) hb2) (bB_ (bL_ BB2.out _) hb2)).mono fun e W3 ⟨he, hw⟩ => ⟨he, bS_ hb2 hw⟩); (case hr => exact Kd.C_below HR.out (bA_ HB1.out _)); rintro e w2 ⟨he, hb⟩; rw [HV.out] at he; subst he; have n0_ := Aq.mk (bS_ (bA_ HW.out _) hb); have n1_ := Aq.mk (bB_ (bL_ HX.out _) hb); have HE := Aq.mk (bB_ (heap_alloc_new w1 _) hb); clear HX HW HB1 hb; have HW := n0_; have HX := n1_; clear n0_ n1_; have hy0 : w2.cell? ⟨wr.heap.size, 0, none⟩ = some (.int .i64 X.f0) := (bC_ HX.out 0).trans rfl; have hy1 : w2.cell? ⟨wr.heap.size, 1, none⟩ = some (.int .i64 X.f1) := (bC_ HX.out 1).trans rfl; have hy2 : w2.cell? ⟨wr.heap.size, 2, none⟩ = some (.int .i64 X.f2) := (bC_ HX.out 2).trans rfl; have hy3 : w2.cell? ⟨wr.heap.size, 3, none⟩ = some (.int .i64 X.f3) := (bC_ HX.out 3).trans rfl; have hy4 : w2.cell? ⟨wr.heap.size, 4, none⟩ = some (.int .i64 X.f4) := (bC_ HX.out 4).trans rfl; have hy5 : w2.cell? ⟨wr.heap.size, 5, none⟩ = some (.int .i64 X.f5) := (bC_ HX.out 5).trans rfl; have hy6 : w2.cell? ⟨wr.heap.size, 6, none⟩ = some (.int .i64 X.f6) := (bC_ HX.out 6).trans rfl; have hy7 : w2.cell? ⟨wr.heap.size, 7, none⟩ = some (.int .i64 X.f7) := (bC_ HX.out 7).trans rfl; have hy8 : w2.cell? ⟨wr.heap.size, 8, none⟩ = some (.int .i64 X.f8) := (bC_ HX.out 8).trans rfl; have he0 : w2.cell? ⟨w1.heap.size, 0, none⟩ = some (.int .i64 X.f0) := (bC_ HE.out 0).trans rfl; have he1 : w2.cell? ⟨w1.heap.size, 1, none⟩ = some (.int .i64 X.f1) := (bC_ HE.out 1).trans rfl; have he2 : w2.cell? ⟨w1.heap.size, 2, none⟩ = some (.int .i64 X.f8) := (bC_ HE.out 2).trans rfl; have hk2 : w2.cell? ⟨b2, 0, none⟩ = some (.int .i64 k) := (HW.out.cell (p := ⟨b2, 0, none⟩) hb2lt).trans ((bC_ B2.out 0).trans rfl))))
    refine ⟨fun _ h => (by cases h), ?_⟩
    gi_wp2
    go_roundw
    case rel => exact ⟨kk + 1, by omega, by go_num, ⟨HB.out.trans (HW.out.mono (bZ_ HB.out))⟩, ⟨(HW.out.block b1 hb1lt).trans B1.out⟩, ⟨(HW.out.block b2 hb2lt).trans B2.out⟩, ⟨by rw [HT.out, List.filter_append, List.filter_cons_of_neg (by rw [HC.out]; decide), List.filter_nil, List.append_nil]; exact HJ.out _ _ _ none HJs.out (grown_of_below HW.out) (fun _ h => (by cases h))⟩⟩
    case measure => simp [intOf]; omega
   rcases hl : decide (X.f1 ≤ k) with _ | _
   ·have HC : Aq (countsS xs k X = false) := ⟨by unfold countsS; rw [hz, hl]; rfl⟩
    obtain ⟨v, HV⟩ : ∃ v, Aq ((xs.any fun v => v.f8 == X.f0 && decide (v.f1 ≤ k)) = v) := ⟨_, ⟨rfl⟩⟩
    gi_wp2_with (first | (refine ⟨trivial, (fun h => absurd h (by decide)), ?_⟩; gi_at_call 128; go_must (refine (callsIn_wide.2 (headB_sale X _)).mono ?_; rintro e w1 ⟨rfl, hb⟩; have hs1 : wr.heap.size < w1.heap.size := Nat.lt_of_lt_of_le (by simp) hb.size; have HW := Aq.mk (bS_ (bA_ (Below.refl wr.heap.size wr) _) hb); have HX := Aq.mk (bB_ (heap_alloc_new wr _) hb); have hb1' : w1.cell? ⟨b1, 0, none⟩ = some (.slice (some ad) xs.length c) := (HW.out.cell (p := ⟨b1, 0, none⟩) hb1lt).trans hb1; have hl1 : b1 < w1.heap.size := Nat.lt_trans hb1lt hs1; have BB2 := Aq.mk ((HW.out.block b2 hb2lt).trans B2.out); have HB1 := Aq.mk (HB.out.trans (HW.out.mono (bZ_ HB.out))); clear hb hb1 hx0 hx1 hx2 hx3 hx4 hx5 hx6 hx7 hx8)) | (refine ⟨trivial, (fun h => absurd h (by decide)), ?_⟩; gi_at_call 129; go_must (refine (callsIn_wide.2 (contains_Sale 130 #[.pointer (some ⟨w1.heap.size, 0, none⟩), .pointer (some ⟨b2, 0, none⟩)] (fun v => v.f8 == X.f0 && decide (v.f1 ≤ k)) _ c xs _ eg1.out ?hp ?hr)).mono ?_; (case hp => exact fun W2 y _ hb2 => (void_sale y w1.heap.size b2 X.f0 X.f1 X.f8 k W2 (bB_ (heap_alloc_new w1 _) hb2) (bB_ (bL_ BB2.out _) hb2)).mono fun e W3 ⟨he, hw⟩ => ⟨he, bS_ hb2 hw⟩); (case hr => exact Kd.C_below HR.out (bA_ HB1.out _)); rintro e w2 ⟨he, hb⟩; rw [HV.out] at he; subst he; have n0_ := Aq.mk (bS_ (bA_ HW.out _) hb); have n1_ := Aq.mk (bB_ (bL_ HX.out _) hb); have HE := Aq.mk (bB_ (heap_alloc_new w1 _) hb); clear HX HW HB1 hb; have HW := n0_; have HX := n1_; clear n0_ n1_; have hy0 : w2.cell? ⟨wr.heap.size, 0, none⟩ = some (.int .i64 X.f0) := (bC_ HX.out 0).trans rfl; have hy1 : w2.cell? ⟨wr.heap.size, 1, none⟩ = some (.int .i64 X.f1) := (bC_ HX.out 1).trans rfl; have hy2 : w2.cell? ⟨wr.heap.size, 2, none⟩ = some (.int .i64 X.f2) := (bC_ HX.out 2).trans rfl; have hy3 : w2.cell? ⟨wr.heap.size, 3, none⟩ = some (.int .i64 X.f3) := (bC_ HX.out 3).trans rfl; have hy4 : w2.cell? ⟨wr.heap.size, 4, none⟩ = some (.int .i64 X.f4) := (bC_ HX.out 4).trans rfl; have hy5 : w2.cell? ⟨wr.heap.size, 5, none⟩ = some (.int .i64 X.f5) := (bC_ HX.out 5).trans rfl; have hy6 : w2.cell? ⟨wr.heap.size, 6, none⟩ = some (.int .i64 X.f6) := (bC_ HX.out 6).trans rfl; have hy7 : w2.cell? ⟨wr.heap.size, 7, none⟩ = some (.int .i64 X.f7) := (bC_ HX.out 7).trans rfl; have hy8 : w2.cell? ⟨wr.heap.size, 8, none⟩ = some (.int .i64 X.f8) := (bC_ HX.out 8).trans rfl; have he0 : w2.cell? ⟨w1.heap.size, 0, none⟩ = some (.int .i64 X.f0) := (bC_ HE.out 0).trans rfl; have he1 : w2.cell? ⟨w1.heap.size, 1, none⟩ = some (.int .i64 X.f1) := (bC_ HE.out 1).trans rfl; have he2 : w2.cell? ⟨w1.heap.size, 2, none⟩ = some (.int .i64 X.f8) := (bC_ HE.out 2).trans rfl; have hk2 : w2.cell? ⟨b2, 0, none⟩ = some (.int .i64 k) := (HW.out.cell (p := ⟨b2, 0, none⟩) hb2lt).trans ((bC_ B2.out 0).trans rfl))))
    refine ⟨fun _ h => (by cases h), ?_⟩
    gi_wp2
    go_roundw
    case rel => exact ⟨kk + 1, by omega, by go_num, ⟨HB.out.trans (HW.out.mono (bZ_ HB.out))⟩, ⟨(HW.out.block b1 hb1lt).trans B1.out⟩, ⟨(HW.out.block b2 hb2lt).trans B2.out⟩, ⟨by rw [HT.out, List.filter_append, List.filter_cons_of_neg (by rw [HC.out]; decide), List.filter_nil, List.append_nil]; exact HJ.out _ _ _ none HJs.out (grown_of_below HW.out) (fun _ h => (by cases h))⟩⟩
    case measure => simp [intOf]; omega
   rcases HV : (xs.any fun v => v.f8 == X.f0 && decide (v.f1 ≤ k)) with _ | _
   ·have HC : Aq (countsS xs k X = true) := ⟨by unfold countsS; rw [hz, hl, HV]; rfl⟩
    have HV : Aq ((xs.any fun v => v.f8 == X.f0 && decide (v.f1 ≤ k)) = false) := ⟨HV⟩
    have HS : Aq ((xs.take (kk + 1)).filter (countsS xs k) = (xs.take kk).filter (countsS xs k) ++ [X]) := ⟨by rw [HT.out, List.filter_append, List.filter_cons_of_pos HC.out, List.filter_nil]⟩
    have HP : Aq ((xs.take (kk + 1)).filter (countsS xs k) <+: xs.filter (countsS xs k)) := ⟨(List.take_prefix _ _).filter _⟩
    have HL : Aq (((xs.take kk).filter (countsS xs k)).length < (xs.filter (countsS xs k)).length) := ⟨by have h1 := HP.out.length_le; rw [HS.out, List.length_append] at h1; exact h1⟩
    gi_wp2_with (first | (refine ⟨trivial, (fun h => absurd h (by decide)), ?_⟩; gi_at_call 128; go_must (refine (callsIn_wide.2 (headB_sale X _)).mono ?_; rintro e w1 ⟨rfl, hb⟩; have hs1 : wr.heap.size < w1.heap.size := Nat.lt_of_lt_of_le (by simp) hb.size; have HW := Aq.mk (bS_ (bA_ (Below.refl wr.heap.size wr) _) hb); have HX := Aq.mk (bB_ (heap_alloc_new wr _) hb); have hb1' : w1.cell? ⟨b1, 0, none⟩ = some (.slice (some ad) xs.length c) := (HW.out.cell (p := ⟨b1, 0, none⟩) hb1lt).trans hb1; have hl1 : b1 < w1.heap.size := Nat.lt_trans hb1lt hs1; have BB2 := Aq.mk ((HW.out.block b2 hb2lt).trans B2.out); have HB1 := Aq.mk (HB.out.trans (HW.out.mono (bZ_ HB.out))); clear hb hb1 hx0 hx1 hx2 hx3 hx4 hx5 hx6 hx7 hx8)) | (refine ⟨trivial, (fun h => absurd h (by decide)), ?_⟩; gi_at_call 129; go_must (refine (callsIn_wide.2 (contains_Sale 130 #[.pointer (some ⟨w1.heap.size, 0, none⟩), .pointer (some ⟨b2, 0, none⟩)] (fun v => v.f8 == X.f0 && decide (v.f1 ≤ k)) _ c xs _ eg1.out ?hp ?hr)).mono ?_; (case hp => exact fun W2 y _ hb2 => (void_sale y w1.heap.size b2 X.f0 X.f1 X.f8 k W2 (bB_ (heap_alloc_new w1 _) hb2) (bB_ (bL_ BB2.out _) hb2)).mono fun e W3 ⟨he, hw⟩ => ⟨he, bS_ hb2 hw⟩); (case hr => exact Kd.C_below HR.out (bA_ HB1.out _)); rintro e w2 ⟨he, hb⟩; rw [HV.out] at he; subst he; have n0_ := Aq.mk (bS_ (bA_ HW.out _) hb); have n1_ := Aq.mk (bB_ (bL_ HX.out _) hb); have HE := Aq.mk (bB_ (heap_alloc_new w1 _) hb); clear HX HW HB1 hb; have HW := n0_; have HX := n1_; clear n0_ n1_; have hy0 : w2.cell? ⟨wr.heap.size, 0, none⟩ = some (.int .i64 X.f0) := (bC_ HX.out 0).trans rfl; have hy1 : w2.cell? ⟨wr.heap.size, 1, none⟩ = some (.int .i64 X.f1) := (bC_ HX.out 1).trans rfl; have hy2 : w2.cell? ⟨wr.heap.size, 2, none⟩ = some (.int .i64 X.f2) := (bC_ HX.out 2).trans rfl; have hy3 : w2.cell? ⟨wr.heap.size, 3, none⟩ = some (.int .i64 X.f3) := (bC_ HX.out 3).trans rfl; have hy4 : w2.cell? ⟨wr.heap.size, 4, none⟩ = some (.int .i64 X.f4) := (bC_ HX.out 4).trans rfl; have hy5 : w2.cell? ⟨wr.heap.size, 5, none⟩ = some (.int .i64 X.f5) := (bC_ HX.out 5).trans rfl; have hy6 : w2.cell? ⟨wr.heap.size, 6, none⟩ = some (.int .i64 X.f6) := (bC_ HX.out 6).trans rfl; have hy7 : w2.cell? ⟨wr.heap.size, 7, none⟩ = some (.int .i64 X.f7) := (bC_ HX.out 7).trans rfl; have hy8 : w2.cell? ⟨wr.heap.size, 8, none⟩ = some (.int .i64 X.f8) := (bC_ HX.out 8).trans rfl; have he0 : w2.cell? ⟨w1.heap.size, 0, none⟩ = some (.int .i64 X.f0) := (bC_ HE.out 0).trans rfl; have he1 : w2.cell? ⟨w1.heap.size, 1, none⟩ = some (.int .i64 X.f1) := (bC_ HE.out 1).trans rfl; have he2 : w2.cell? ⟨w1.heap.size, 2, none⟩ = some (.int .i64 X.f8) := (bC_ HE.out 2).trans rfl; have hk2 : w2.cell? ⟨b2, 0, none⟩ = some (.int .i64 k) := (HW.out.cell (p := ⟨b2, 0, none⟩) hb2lt).trans ((bC_ B2.out 0).trans rfl); obtain ⟨fn, tmps, assign, body, hy, hR⟩ := HY.out _ X w2 (HJ.out _ _ _ none HJs.out (grown_of_below HW.out) (fun _ h => (by cases h))) HL.out; have hRR := hR; clear hR; dsimp only [encS] at hy)))
    refine ⟨(fun h => absurd h (by decide)), hRR.mono ?_⟩
    rintro e w3 (⟨rfl, hJ3, hkp⟩ | ⟨rfl, hJx3⟩)
    ·have KP := Aq.mk hkp
     have J3 := Aq.mk hJ3
     clear hkp hJ3
     gi_wp2
     go_roundw
     case rel => exact ⟨kk + 1, by omega, by go_num, ⟨(HB.out.trans (HW.out.mono (bZ_ HB.out))).trans KP.out.1⟩, ⟨KP.out.2.1.trans ((HW.out.block b1 hb1lt).trans B1.out)⟩, ⟨KP.out.2.2.trans ((HW.out.block b2 hb2lt).trans B2.out)⟩, ⟨by rw [HS.out]; exact J3.out⟩⟩
     case measure => simp [intOf]; omega
    ·have J3 := Aq.mk hJx3
     clear hJx3
     gi_wp2
     refine bodyPost_ret (results_none rfl _ _ _) rfl ?_
     exact ⟨⟨_, rfl⟩, .inr ⟨_, HP.out, by rw [HS.out]; exact J3.out⟩⟩
   ·have HC : Aq (countsS xs k X = false) := ⟨by unfold countsS; rw [hz, hl, HV]; rfl⟩
    have HV : Aq ((xs.any fun v => v.f8 == X.f0 && decide (v.f1 ≤ k)) = true) := ⟨HV⟩
    gi_wp2_with (first | (refine ⟨trivial, (fun h => absurd h (by decide)), ?_⟩; gi_at_call 128; go_must (refine (callsIn_wide.2 (headB_sale X _)).mono ?_; rintro e w1 ⟨rfl, hb⟩; have hs1 : wr.heap.size < w1.heap.size := Nat.lt_of_lt_of_le (by simp) hb.size; have HW := Aq.mk (bS_ (bA_ (Below.refl wr.heap.size wr) _) hb); have HX := Aq.mk (bB_ (heap_alloc_new wr _) hb); have hb1' : w1.cell? ⟨b1, 0, none⟩ = some (.slice (some ad) xs.length c) := (HW.out.cell (p := ⟨b1, 0, none⟩) hb1lt).trans hb1; have hl1 : b1 < w1.heap.size := Nat.lt_trans hb1lt hs1; have BB2 := Aq.mk ((HW.out.block b2 hb2lt).trans B2.out); have HB1 := Aq.mk (HB.out.trans (HW.out.mono (bZ_ HB.out))); clear hb hb1 hx0 hx1 hx2 hx3 hx4 hx5 hx6 hx7 hx8)) | (refine ⟨trivial, (fun h => absurd h (by decide)), ?_⟩; gi_at_call 129; go_must (refine (callsIn_wide.2 (contains_Sale 130 #[.pointer (some ⟨w1.heap.size, 0, none⟩), .pointer (some ⟨b2, 0, none⟩)] (fun v => v.f8 == X.f0 && decide (v.f1 ≤ k)) _ c xs _ eg1.out ?hp ?hr)).mono ?_; (case hp => exact fun W2 y _ hb2 => (void_sale y w1.heap.size b2 X.f0 X.f1 X.f8 k W2 (bB_ (heap_alloc_new w1 _) hb2) (bB_ (bL_ BB2.out _) hb2)).mono fun e W3 ⟨he, hw⟩ => ⟨he, bS_ hb2 hw⟩); (case hr => exact Kd.C_below HR.out (bA_ HB1.out _)); rintro e w2 ⟨he, hb⟩; rw [HV.out] at he; subst he; have n0_ := Aq.mk (bS_ (bA_ HW.out _) hb); have n1_ := Aq.mk (bB_ (bL_ HX.out _) hb); have HE := Aq.mk (bB_ (heap_alloc_new w1 _) hb); clear HX HW HB1 hb; have HW := n0_; have HX := n1_; clear n0_ n1_; have hy0 : w2.cell? ⟨wr.heap.size, 0, none⟩ = some (.int .i64 X.f0) := (bC_ HX.out 0).trans rfl; have hy1 : w2.cell? ⟨wr.heap.size, 1, none⟩ = some (.int .i64 X.f1) := (bC_ HX.out 1).trans rfl; have hy2 : w2.cell? ⟨wr.heap.size, 2, none⟩ = some (.int .i64 X.f2) := (bC_ HX.out 2).trans rfl; have hy3 : w2.cell? ⟨wr.heap.size, 3, none⟩ = some (.int .i64 X.f3) := (bC_ HX.out 3).trans rfl; have hy4 : w2.cell? ⟨wr.heap.size, 4, none⟩ = some (.int .i64 X.f4) := (bC_ HX.out 4).trans rfl; have hy5 : w2.cell? ⟨wr.heap.size, 5, none⟩ = some (.int .i64 X.f5) := (bC_ HX.out 5).trans rfl; have hy6 : w2.cell? ⟨wr.heap.size, 6, none⟩ = some (.int .i64 X.f6) := (bC_ HX.out 6).trans rfl; have hy7 : w2.cell? ⟨wr.heap.size, 7, none⟩ = some (.int .i64 X.f7) := (bC_ HX.out 7).trans rfl; have hy8 : w2.cell? ⟨wr.heap.size, 8, none⟩ = some (.int .i64 X.f8) := (bC_ HX.out 8).trans rfl; have he0 : w2.cell? ⟨w1.heap.size, 0, none⟩ = some (.int .i64 X.f0) := (bC_ HE.out 0).trans rfl; have he1 : w2.cell? ⟨w1.heap.size, 1, none⟩ = some (.int .i64 X.f1) := (bC_ HE.out 1).trans rfl; have he2 : w2.cell? ⟨w1.heap.size, 2, none⟩ = some (.int .i64 X.f8) := (bC_ HE.out 2).trans rfl; have hk2 : w2.cell? ⟨b2, 0, none⟩ = some (.int .i64 k) := (HW.out.cell (p := ⟨b2, 0, none⟩) hb2lt).trans ((bC_ B2.out 0).trans rfl))))
    refine ⟨fun _ h => (by cases h), ?_⟩
    gi_wp2
    go_roundw
    case rel => exact ⟨kk + 1, by omega, by go_num, ⟨HB.out.trans (HW.out.mono (bZ_ HB.out))⟩, ⟨(HW.out.block b1 hb1lt).trans B1.out⟩, ⟨(HW.out.block b2 hb2lt).trans B2.out⟩, ⟨by rw [HT.out, List.filter_append, List.filter_cons_of_neg (by rw [HC.out]; decide), List.filter_nil, List.append_nil]; exact HJ.out _ _ _ none HJs.out (grown_of_below HW.out) (fun _ h => (by cases h))⟩⟩
    case measure => simp [intOf]; omega
  ·have HA : Aq ((xs.take kk).filter (countsS xs k) = xs.filter (countsS xs k)) := ⟨by rw [List.take_of_length_le (by omega)]⟩
   have hge : ¬ (kk : Int) < (xs.length : Int) := by omega
   gi_wp2
   go_end0
   have z := HJs.out
   rw [HA.out] at z
   exact ⟨⟨_, rfl⟩, .inl z⟩
end
section
open Go.Shelf
theorem stops_rate (n b1 b2 : Nat) (w0 : World) (A : Option Addr) (c : Nat) (xs : List S26) (k : Int) (hr : Kd.C k26 w0 A xs.length xs) (W0 : World) (hW : Below w0.heap.size w0 W0)
  (hb1 : W0.heap[b1]? = some (.cells #[.slice A xs.length c] 22 (0, 0))) (hb2 : W0.heap[b2]? = some (.cells #[.int .i64 k] 3 (0, 0))) :
  SeqStopsK Fence.wide n Tryz.prog 133 #[.pointer (some ⟨b1, 0, none⟩), .pointer (some ⟨b2, 0, none⟩)] encR (KpB w0.heap.size b1 b2) (fun ys => ys = xs.filter (countsR xs k)) (fun pre => pre <+: xs.filter (countsR xs k)) (xs.filter (countsR xs k)).length W0 :=
 fun l J Jx W hW' hJ _ hY h0 => counting_rate n l b1 b2 w0 A c xs k hr J Jx W hJ hY (hW.trans (hW'.mono hW.size)) ((hW'.block b1 (Array.getElem?_eq_some_iff.1 hb1).1).trans hb1) ((hW'.block b2 (Array.getElem?_eq_some_iff.1 hb2).1).trans hb2) h0
theorem stops_sale (n b1 b2 : Nat) (w0 : World) (A : Option Addr) (c : Nat) (xs : List S39) (k : Int) (hr : Kd.C k39 w0 A xs.length xs) (W0 : World) (hW : Below w0.heap.size w0 W0)
  (hb1 : W0.heap[b1]? = some (.cells #[.slice A xs.length c] 54 (0, 0))) (hb2 : W0.heap[b2]? = some (.cells #[.int .i64 k] 3 (0, 0))) :
  SeqStopsK Fence.wide n Tryz.prog 127 #[.pointer (some ⟨b1, 0, none⟩), .pointer (some ⟨b2, 0, none⟩)] encS (KpB w0.heap.size b1 b2) (fun ys => ys = xs.filter (countsS xs k)) (fun pre => pre <+: xs.filter (countsS xs k)) (xs.filter (countsS xs k)).length W0 :=
 fun l J Jx W hW' hJ _ hY h0 => counting_sale n l b1 b2 w0 A c xs k hr J Jx W hJ hY (hW.trans (hW'.mono hW.size)) ((hW'.block b1 (Array.getElem?_eq_some_iff.1 hb1).1).trans hb1) ((hW'.block b2 (Array.getElem?_eq_some_iff.1 hb2).1).trans hb2) h0
theorem blk_kept {W W' : World} {row : Option Nat} {b : Nat} {o : Obj} (h : W.heap[b]? = some o) (ho : o.isCells = true) (hg : W.grownBy W' row) (hr : ∀ r, row = some r → ∃ o : Obj, W.heap[r]? = some o ∧ o.isCells = false) : W'.heap[b]? = some o :=
 (grownBy_keeps_cells hg hr h ho).trans h
theorem own_blk {β : Type} (B b : Nat) (o : β → Obj) (ho : ∀ s, (o s).isCells = true) : OwnFrom B (fun (s : β) W => W.heap[b]? = some (o s)) :=
 fun s _ _ _ hs hg hr => blk_kept hs (ho s) hg (fun r e => (hr r e).2)
theorem own_size {β : Type} (B n : Nat) : OwnFrom B (fun (_ : β) W => n ≤ W.heap.size) := fun _ _ _ _ hs hg _ => Nat.le_trans hs hg.size
theorem own_pure {β : Type} (B : Nat) (p : β → Prop) : OwnFrom B (fun (s : β) (_ : World) => p s) := fun _ _ _ _ hs _ _ => hs
theorem own_ex {β σ : Type} {B : Nat} {I : σ → β → World → Prop} (h : ∀ x, OwnFrom B (I x)) : OwnFrom B (fun s W => ∃ x, I x s W) := fun s W W' row ⟨x, hs⟩ hg hr => ⟨x, h x s W W' row hs hg hr⟩
theorem kpb_t {n b1 b2 : Nat} {A B C : World} (h : KpB n b1 b2 A B) (k : KpB n b1 b2 B C) : KpB n b1 b2 A C := ⟨h.1.trans k.1, k.2.1.trans h.2.1, k.2.2.trans h.2.2⟩
theorem kpb_b {n b1 b2 B : Nat} (hn : n ≤ B) (h1 : b1 < B) (h2 : b2 < B) (W : World) (l : Nat) (o o' : Obj) (hl : B ≤ l) (_ : W.heap[l]? = some o) (_ : o.isCells = false) (_ : o.isWalk = false) : KpB n b1 b2 W (W.putObj l o') :=
 ⟨⟨rfl, rfl, rfl, by simp, fun k hk => World.putObj_heap_other (by omega)⟩, World.putObj_heap_other (by omega), World.putObj_heap_other (by omega)⟩
theorem kpb_below {n b1 b2 : Nat} {W W' : World} (h : Below W.heap.size W W') (hn : n ≤ W.heap.size) (h1 : b1 < W.heap.size) (h2 : b2 < W.heap.size) : KpB n b1 b2 W W' := ⟨h.mono hn, h.block b1 h1, h.block b2 h2⟩
theorem kpb_set {n b1 b2 b o : Nat} {A W : World} (v : Value) (h : KpB n b1 b2 A W) (hn : n ≤ b) (h1 : b1 ≠ b) (h2 : b2 ≠ b) : KpB n b1 b2 A (W.setCell ⟨b, o, none⟩ v) :=
 ⟨h.1.setCell hn _, (Below.heap_setCell W ⟨b, o, none⟩ v b1 h1).trans h.2.1, (Below.heap_setCell W ⟨b, o, none⟩ v b2 h2).trans h.2.2⟩
theorem blk_at (W : World) (o : Obj) (n : Nat) (hn : n = W.heap.size) : (W.alloc o).heap[n]? = some o := by subst hn; exact heap_alloc_new W o
end
section
open Go.Shelf
open Go.Proofs
def badF (x : S24) : Bool := !inB x.f1 1 1000000 || !inB x.f0 (-1000000000000) 1000000000000 || (Int.gcd x.f0 x.f1 : Int) != 1
set_option maxHeartbeats 1000000 in
theorem bad_any (X : S24) (W : World) : Calls Tryz.prog 141 #[.agg #[.int .i64 X.f0, .int .i64 X.f1]] W fun e W' => e = .returned (.bool (badF X)) ∧ Below W.heap.size W W' := by
 have h0 := fun w => within_any X.f1 1 1000000 w
 have h1 := fun w => within_any X.f0 (-1000000000000) 1000000000000 w
 unfold badF
 cases hi : inB X.f1 1 1000000 with
 | false =>
  simp only [hi] at h0
  clear h1
  go_enter Tryz.func141, Tryz.ntmps141
  go_wp2_with (first | (go_at_call 102; with_reducible refine (h0 _).mono ?_; rintro e w' ⟨rfl, rfl⟩))
  go_ret
  exact ⟨by simp, bA_ (Below.refl _ _) _⟩
 | true =>
  cases hj : inB X.f0 (-1000000000000) 1000000000000 with
  | false =>
   simp only [hi] at h0
   simp only [hj] at h1
   go_enter Tryz.func141, Tryz.ntmps141
   go_wp2_with (first | (go_at_call 102; with_reducible refine (h0 _).mono ?_; rintro e w' ⟨rfl, rfl⟩) | (go_at_call 102; with_reducible refine (h1 _).mono ?_; rintro e w' ⟨rfl, rfl⟩))
   go_ret
   exact ⟨by simp, bA_ (Below.refl _ _) _⟩
  | true =>
   have hb0 := inB_iff.1 hi
   have hb1 := inB_iff.1 hj
   have hd := fun w => divisor_any X.f0 X.f1 w (by omega) (by omega)
   simp only [hi] at h0
   simp only [hj] at h1
   clear hi hj hb0 hb1
   generalize (Int.gcd X.f0 X.f1 : Int) = g at hd
   go_enter Tryz.func141, Tryz.ntmps141
   go_wp2_with (first | (go_at_call 102; with_reducible refine (h0 _).mono ?_; rintro e w' ⟨rfl, rfl⟩) | (go_at_call 102; with_reducible refine (h1 _).mono ?_; rintro e w' ⟨rfl, rfl⟩) | (go_at_call 142; with_reducible refine (hd _).mono ?_; rintro e w' ⟨rfl, hb⟩))
   go_ret
   exact ⟨by simp, bS_ (bA_ (Below.refl _ _) _) hb⟩
theorem valid_any (A0 : Option Addr) (c0 : Nat) (l0 : List S24) (w : World) (hr0 : Kd.C k24 w A0 l0.length l0) :
  Calls Tryz.prog 103 #[.slice A0 l0.length c0] w fun e w' => e = .returned (.bool (!(l0.any badF))) ∧ Below w.heap.size w w' := by
 have hC := Aq.mk (contains_Frac 141 #[] badF A0 c0 l0 w (enters_of Tryz.func141 (by kernel_rfl) rfl) (fun W2 x _ hb2 => (bad_any x W2).mono fun e W' ⟨he, hw⟩ => ⟨he, bS_ hb2 hw⟩) hr0)
 clear hr0
 generalize l0.any badF = q at hC
 go_enter Tryz.func103, Tryz.ntmps103
 go_wp2_with (first | (go_at_call 140; with_reducible refine hC.out.mono ?_; rintro e w' ⟨rfl, hb⟩))
 go_ret
 exact ⟨rfl, hb⟩
theorem mul_small {a b : Int} (ha : a.natAbs ≤ 1000000000000) (hb : b.natAbs ≤ 1000000) : (a * b).natAbs ≤ 1000000000000000000 := by
 rw [Int.natAbs_mul]
 exact Nat.mul_le_mul ha hb
def smallQ (q : Int × Int) : Prop := q.1.natAbs ≤ 1000000000000 ∧ 1 ≤ q.2 ∧ q.2 ≤ 1000000
def plusQ (a b : Int × Int) : Option (Int × Int) := normQ (a.1 * b.2 + b.1 * a.2) (a.2 * b.2)
def plusA (a b : Int × Int) (e : Ending) : Prop := match plusQ a b with
 | some q => e = .returned (.agg #[.int .i64 q.1, .int .i64 q.2])
 | none => e = .panicked [unrangedEntry]
theorem plus_facts {a b : Int × Int} (ha : smallQ a) (hb : smallQ b) : IntKind.i64.wrap (a.1 * b.2) = a.1 * b.2 ∧ IntKind.i64.wrap (b.1 * a.2) = b.1 * a.2 ∧ IntKind.i64.wrap (a.2 * b.2) = a.2 * b.2 ∧ IntKind.i64.wrap (a.1 * b.2 + b.1 * a.2) = a.1 * b.2 + b.1 * a.2 ∧ a.2 * b.2 ≠ 0 ∧ (a.1 * b.2 + b.1 * a.2).natAbs ≤ 9223372036854775807 ∧ (a.2 * b.2).natAbs ≤ 9223372036854775807 := by
 obtain ⟨h1, h2, h3⟩ := ha
 obtain ⟨h4, h5, h6⟩ := hb
 have m1 := mul_small h1 (show b.2.natAbs ≤ 1000000 by omega)
 have m2 := mul_small h4 (show a.2.natAbs ≤ 1000000 by omega)
 have m3 := mul_small (show a.2.natAbs ≤ 1000000000000 by omega) (show b.2.natAbs ≤ 1000000 by omega)
 refine ⟨IntWalk.i64_in _ (by omega), IntWalk.i64_in _ (by omega), IntWalk.i64_in _ (by omega), IntWalk.i64_in _ (by omega), ?_, by omega, by omega⟩
 exact Int.mul_ne_zero (by omega) (by omega)
set_option maxHeartbeats 2000000 in
theorem plus_ok (a b q : Int × Int) (W : World) (ha : smallQ a) (hb : smallQ b) (hq : plusQ a b = some q) :
  Calls Tryz.prog 145 #[.agg #[.int .i64 a.1, .int .i64 a.2], .agg #[.int .i64 b.1, .int .i64 b.2]] W fun e W' => e = .returned (.agg #[.int .i64 q.1, .int .i64 q.2]) ∧ Below W.heap.size W W' := by
 obtain ⟨w1, w2, w3, w4, h0, hn, hd⟩ := plus_facts ha hb
 have HN := Aq.mk (fun V => (norm_any (a.1 * b.2 + b.1 * a.2) (a.2 * b.2) V h0 hn hd).mono (R' := fun e w' => e = .returned (.agg #[.int .i64 q.1, .int .i64 q.2]) ∧ Below V.heap.size V w') fun e w' ⟨he, hB⟩ => by unfold NormEnd at he; unfold plusQ at hq; rw [hq] at he; exact ⟨he, hB⟩)
 clear ha hb hq h0 hn hd
 obtain ⟨a0, a1⟩ := a
 obtain ⟨b0, b1⟩ := b
 simp only at w1 w2 w3 w4 HN ⊢
 have HB := Aq.mk (bA_ (bA_ (bA_ (Below.refl W.heap.size W) (.cells #[.int .i64 a0, .int .i64 a1] 166)) (.cells #[.int .i64 b0, .int .i64 b1] 166)) (.cells #[.int .i64 0, .int .i64 0] 166))
 have HX := Aq.mk (blk_at ((W.alloc (.cells #[.int .i64 a0, .int .i64 a1] 166)).alloc (.cells #[.int .i64 b0, .int .i64 b1] 166)) (.cells #[.int .i64 0, .int .i64 0] 166) (W.heap.size + 1 + 1) (by simp))
 go_enter Tryz.func145, Tryz.ntmps145
 go_wp2_with (first | (go_at_call 173; go_must (with_reducible refine (HN.out _).mono ?_; rintro e w2 ⟨rfl, hB⟩; have X2 := bB_ HX.out hB; have k0 : w2.cell? ⟨W.heap.size + 1 + 1, 0, none⟩ = some (.int .i64 0) := (bC_ X2 0).trans rfl; have k1 : w2.cell? ⟨W.heap.size + 1 + 1, 1, none⟩ = some (.int .i64 0) := (bC_ X2 1).trans rfl; have f0 := bR_ X2 0; have f1 := bR_ X2 1; have HB2 := Aq.mk (bS_ HB.out hB); have HX2 := Aq.mk X2; clear hB X2)))
 have X3 : ((w2.setCell ⟨W.heap.size + 1 + 1, 0, none⟩ (.int .i64 q.1)).setCell ⟨W.heap.size + 1 + 1, 1, none⟩ (.int .i64 q.2)).heap[W.heap.size + 1 + 1]? = some (.cells #[.int .i64 q.1, .int .i64 q.2] 166 (0, 0)) := bP_ (bP_ HX2.out 0 _ rfl) 1 _ rfl
 have B3 : Below W.heap.size W ((w2.setCell ⟨W.heap.size + 1 + 1, 0, none⟩ (.int .i64 q.1)).setCell ⟨W.heap.size + 1 + 1, 1, none⟩ (.int .i64 q.2)) := bT_ (bT_ HB2.out (by omega)) (by omega)
 generalize (w2.setCell ⟨W.heap.size + 1 + 1, 0, none⟩ (.int .i64 q.1)).setCell ⟨W.heap.size + 1 + 1, 1, none⟩ (.int .i64 q.2) = V at X3 B3 ⊢
 have r0 : V.cell? ⟨W.heap.size + 1 + 1, 0, none⟩ = some (.int .i64 q.1) := (bC_ X3 0).trans rfl
 have r1 : V.cell? ⟨W.heap.size + 1 + 1, 1, none⟩ = some (.int .i64 q.2) := (bC_ X3 1).trans rfl
 exact bodyPost_ret (v := .agg #[.int .i64 q.1, .int .i64 q.2]) (by simp [results, Tryz.results145, go_sem, r0, r1]) rfl ⟨rfl, B3⟩
set_option maxHeartbeats 2000000 in
theorem plus_no (a b : Int × Int) (W : World) (ha : smallQ a) (hb : smallQ b) (hq : plusQ a b = none) :
  Calls Tryz.prog 145 #[.agg #[.int .i64 a.1, .int .i64 a.2], .agg #[.int .i64 b.1, .int .i64 b.2]] W fun e W' => e = .panicked [unrangedEntry] ∧ Below W.heap.size W W' := by
 obtain ⟨w1, w2, w3, w4, h0, hn, hd⟩ := plus_facts ha hb
 have HN := Aq.mk (fun V => (norm_any (a.1 * b.2 + b.1 * a.2) (a.2 * b.2) V h0 hn hd).mono (R' := fun e w' => e = .panicked [unrangedEntry] ∧ Below V.heap.size V w') fun e w' ⟨he, hB⟩ => by unfold NormEnd at he; unfold plusQ at hq; rw [hq] at he; exact ⟨he, hB⟩)
 clear ha hb hq h0 hn hd
 obtain ⟨a0, a1⟩ := a
 obtain ⟨b0, b1⟩ := b
 simp only at w1 w2 w3 w4 HN ⊢
 have HB := Aq.mk (bA_ (bA_ (bA_ (Below.refl W.heap.size W) (.cells #[.int .i64 a0, .int .i64 a1] 166)) (.cells #[.int .i64 b0, .int .i64 b1] 166)) (.cells #[.int .i64 0, .int .i64 0] 166))
 go_enter Tryz.func145, Tryz.ntmps145
 go_wp2_with (first | (go_at_call 173; go_must (with_reducible refine (HN.out _).mono ?_; rintro e w2 ⟨rfl, hB⟩; have HB2 := Aq.mk (bS_ HB.out hB); clear hB)))
 exact ⟨rfl, rfl, HB2.out⟩
def runQ : List S24 → Int × Int → (Int × Int) × Bool
 | [], acc => (acc, true)
 | x :: r, acc => match plusQ acc (x.f0, x.f1) with
  | some q => runQ r q
  | none => (acc, false)
theorem good_small {x : S24} (h : badF x = false) : smallQ (x.f0, x.f1) := by
 unfold badF at h
 rw [Bool.or_eq_false_iff, Bool.or_eq_false_iff] at h
 obtain ⟨⟨h1, h2⟩, _⟩ := h
 have i1 := inB_iff.1 (by simpa using h1 : inB x.f1 1 1000000 = true)
 have i2 := inB_iff.1 (by simpa using h2 : inB x.f0 (-1000000000000) 1000000000000 = true)
 exact ⟨by show x.f0.natAbs ≤ 1000000000000; omega, i1.1, i1.2⟩
theorem norm_small {num den a b : Int} (h0 : 0 < den) (h : normQ num den = some (a, b)) : smallQ (a, b) := by
 unfold normQ at h
 simp only at h
 rw [if_neg (by omega : ¬ den < 0)] at h
 have hg := gcd_pos num den (by omega)
 have hdv : (Int.gcd num den : Int) ∣ den := Int.gcd_dvd_right _ _
 obtain ⟨t, ht⟩ := hdv
 split at h
 ·rename_i hc
  rw [Bool.and_eq_true, decide_eq_true_eq] at hc
  have i1 := inB_iff.1 hc.1
  obtain ⟨rfl, rfl⟩ := Prod.mk.inj (Option.some.inj h)
  refine ⟨by show Int.natAbs _ ≤ 1000000000000; omega, ?_, hc.2⟩
  show 1 ≤ den.tdiv _
  have e0 : ∀ d u g : Int, g ≠ 0 → d = g * u → d.tdiv g = u := fun d u g hg h => by subst h; exact Int.mul_tdiv_cancel_left _ hg
  have e := e0 den t (Int.gcd num den : Int) (by omega) ht
  rw [e]
  rcases Int.lt_or_le t 1 with hlt | hle
  ·exfalso
   have : (Int.gcd num den : Int) * t ≤ 0 := Int.mul_nonpos_of_nonneg_of_nonpos (by omega) (by omega)
   omega
  ·exact hle
 ·exact absurd h (by simp)
theorem plus_small {a b q : Int × Int} (ha : smallQ a) (hb : smallQ b) (h : plusQ a b = some q) : smallQ q := by
 obtain ⟨_, h2, _⟩ := ha
 obtain ⟨_, h5, _⟩ := hb
 obtain ⟨q0, q1⟩ := q
 exact norm_small (Int.mul_pos (by omega) (by omega)) h
theorem grown_row {W W1 : World} (h : Below W.heap.size W W1) (B : Nat) : W.grownBy W1 (some B) := below_grown h _
set_option maxRecDepth 100000 in
set_option maxHeartbeats 4000000 in
theorem sum1_ok (w0 W : World) (A : Option Addr) (c : Nat) (l : List S24) (hr : Kd.C k24 w0 A l.length l) (hl : ∀ x ∈ l, badF x = false) (hW : Below w0.heap.size w0 W) (b1 B : Nat) (hB0 : w0.heap.size ≤ B) (acc q : Int × Int) (hs : smallQ acc)
  (h1 : W.heap[b1]? = some (.cells #[.slice A l.length c] 97 (0, 0))) (h2 : W.heap[B]? = some (.cells #[.int .i64 acc.1, .int .i64 acc.2] 166 (0, 0))) (hq : runQ l acc = (q, true)) :
  Calls Tryz.prog 144 #[.pointer (some ⟨b1, 0, none⟩), .pointer (some ⟨B, 0, none⟩)] W fun e W1 => e = .returned (.tuple #[]) ∧ W.grownBy W1 (some B) ∧ W1.heap[B]? = some (.cells #[.int .i64 q.1, .int .i64 q.2] 166 (0, 0)) := by
 have hm : l.length ≤ 9223372036854775807 := hr.2.1
 have HR := Aq.mk hr
 have HLq := Aq.mk hl
 have HA0 : Aq (runQ (l.drop 0) acc = (q, true)) := ⟨hq⟩
 have HS0 := Aq.mk hs
 have HX0 := Aq.mk h2
 have HBL0 := Aq.mk hW
 have k0 : W.cell? ⟨b1, 0, none⟩ = some (.slice A l.length c) := (bC_ h1 0).trans rfl
 clear hr hl hq hs h2 hW h1
 obtain ⟨a0, a1⟩ := acc
 go_enter Tryz.func144, Tryz.ntmps144
 go_wp2
 clear k0
 go_loopg [6] l.length (fun gg s6 wr => ∃ (kk : Nat) (a0 a1 : Int), kk ≤ l.length ∧ l.length - kk ≤ gg ∧ s6 = .int .i64 kk ∧ Aq (runQ (l.drop kk) (a0, a1) = (q, true)) ∧ Aq (smallQ (a0, a1)) ∧ Aq (W.grownBy wr (some B)) ∧ Aq (wr.heap[B]? = some (.cells #[.int .i64 a0, .int .i64 a1] 166 (0, 0))) ∧ Aq (Below w0.heap.size w0 wr))
 case atStart => exact ⟨0, a0, a1, Nat.zero_le _, by omega, rfl, HA0, HS0, ⟨below_grown (Below.refl _ _) _⟩, HX0, HBL0⟩
 case round =>
  clear HA0 HS0 HX0 HBL0
  obtain ⟨kk, a0, a1, hkk, hg, rfl, HA, HS, HG, HX, HBL⟩ := hrel
  by_cases hlt : kk < l.length
  ·have hltz : (kk : Int) < (l.length : Int) := by omega
   have h0 : (0 : Int) ≤ (kk : Int) := by omega
   obtain ⟨ad, e_, hx0, hx1⟩ := at_T24 HR.out (kk : Int) h0 hltz
   cases e_
   obtain ⟨hmem, hD⟩ := rdT24_drop l kk hlt
   generalize rd_T24 l (kk : Int) = X at hx0 hx1 hD hmem
   replace hx0 := (HBL.out.cell (World.block_lt_of_cell? w0 _ hx0)).trans hx0
   replace hx1 := (HBL.out.cell (World.block_lt_of_cell? w0 _ hx1)).trans hx1
   simp only [Int.toNat_natCast] at hx0 hx1
   have HXS : Aq (smallQ (X.f0, X.f1)) := ⟨good_small (HLq.out X hmem)⟩
   have HD := Aq.mk hD
   clear hD hmem
   obtain ⟨c0, c1⟩ := cz2 HX.out
   have hBlt : B < wr.heap.size := (Array.getElem?_eq_some_iff.1 HX.out).1
   cases hq : plusQ (a0, a1) (X.f0, X.f1) with
   | some q' =>
    have HPL := Aq.mk (fun V => plus_ok (a0, a1) (X.f0, X.f1) q' V HS.out HXS.out hq)
    have HA2 : Aq (runQ (l.drop (kk + 1)) q' = (q, true)) := ⟨by have z := HA.out; rw [HD.out] at z; simp only [runQ, hq] at z; exact z⟩
    have HS2 : Aq (smallQ q') := ⟨plus_small HS.out HXS.out hq⟩
    clear hq HA
    obtain ⟨p0, p1⟩ := q'
    go_wp2_with (first | (go_at_call 145; go_must (with_reducible refine (HPL.out _).mono ?_; rintro e w2 ⟨rfl, hB⟩; have X2 := bB_ (bL_ HX.out (.cells #[.int .i64 X.f0, .int .i64 X.f1] 24)) hB; have k0 : w2.cell? ⟨B, 0, none⟩ = some (.int .i64 a0) := (bC_ X2 0).trans rfl; have k1 : w2.cell? ⟨B, 1, none⟩ = some (.int .i64 a1) := (bC_ X2 1).trans rfl; have f0 := bR_ X2 0; have f1 := bR_ X2 1; have HX2 := Aq.mk X2; have HG2 := Aq.mk ((HG.out.trans (World.grownBy_alloc _ _ _)).trans (grown_row hB B)); have HB2 := Aq.mk (HBL.out.trans ((bS_ (bA_ (Below.refl wr.heap.size wr) _) hB).mono (bZ_ HBL.out))); clear hB X2 c0 c1)))
    go_roundg (l.length - (kk + 1))
    case measure => omega
    case rel => exact ⟨kk + 1, p0, p1, by omega, by omega, by go_num, HA2, HS2, ⟨grown_set (grown_set HG2.out 0 _) 1 _⟩, ⟨bP_ (bP_ HX2.out 0 _ rfl) 1 _ rfl⟩, ⟨(HB2.out.setCell (p := ⟨B, 0, none⟩) hB0 _).setCell (p := ⟨B, 1, none⟩) hB0 _⟩⟩
   | none =>
    have z := HA.out
    rw [HD.out] at z
    simp only [runQ, hq] at z
    exact absurd (congrArg Prod.snd z) (by simp)
  ·have hltz : ¬ (kk : Int) < (l.length : Int) := by omega
   have HA2 : Aq ((a0, a1) = q) := ⟨by have z := HA.out; rw [List.drop_eq_nil_of_le (by omega)] at z; exact congrArg Prod.fst z⟩
   clear HA
   go_wp2
   go_end0
   exact ⟨rfl, HG.out, by rw [← HA2.out]; exact HX.out⟩
set_option maxRecDepth 100000 in
set_option maxHeartbeats 4000000 in
theorem sum1_no (w0 W : World) (A : Option Addr) (c : Nat) (l : List S24) (hr : Kd.C k24 w0 A l.length l) (hl : ∀ x ∈ l, badF x = false) (hW : Below w0.heap.size w0 W) (b1 B : Nat) (hB0 : w0.heap.size ≤ B) (acc q : Int × Int) (hs : smallQ acc)
  (h1 : W.heap[b1]? = some (.cells #[.slice A l.length c] 97 (0, 0))) (h2 : W.heap[B]? = some (.cells #[.int .i64 acc.1, .int .i64 acc.2] 166 (0, 0))) (hq : runQ l acc = (q, false)) :
  Calls Tryz.prog 144 #[.pointer (some ⟨b1, 0, none⟩), .pointer (some ⟨B, 0, none⟩)] W fun e W1 => e = .panicked [unrangedEntry] ∧ W.grownBy W1 (some B) ∧ W1.heap[B]? = some (.cells #[.int .i64 q.1, .int .i64 q.2] 166 (0, 0)) := by
 have hm : l.length ≤ 9223372036854775807 := hr.2.1
 have HR := Aq.mk hr
 have HLq := Aq.mk hl
 have HA0 : Aq (runQ (l.drop 0) acc = (q, false)) := ⟨hq⟩
 have HS0 := Aq.mk hs
 have HX0 := Aq.mk h2
 have HBL0 := Aq.mk hW
 have k0 : W.cell? ⟨b1, 0, none⟩ = some (.slice A l.length c) := (bC_ h1 0).trans rfl
 clear hr hl hq hs h2 hW h1
 obtain ⟨a0, a1⟩ := acc
 go_enter Tryz.func144, Tryz.ntmps144
 go_wp2
 clear k0
 go_loopg [6] l.length (fun gg s6 wr => ∃ (kk : Nat) (a0 a1 : Int), kk ≤ l.length ∧ l.length - kk ≤ gg ∧ s6 = .int .i64 kk ∧ Aq (runQ (l.drop kk) (a0, a1) = (q, false)) ∧ Aq (smallQ (a0, a1)) ∧ Aq (W.grownBy wr (some B)) ∧ Aq (wr.heap[B]? = some (.cells #[.int .i64 a0, .int .i64 a1] 166 (0, 0))) ∧ Aq (Below w0.heap.size w0 wr))
 case atStart => exact ⟨0, a0, a1, Nat.zero_le _, by omega, rfl, HA0, HS0, ⟨below_grown (Below.refl _ _) _⟩, HX0, HBL0⟩
 case round =>
  clear HA0 HS0 HX0 HBL0
  obtain ⟨kk, a0, a1, hkk, hg, rfl, HA, HS, HG, HX, HBL⟩ := hrel
  by_cases hlt : kk < l.length
  ·have hltz : (kk : Int) < (l.length : Int) := by omega
   have h0 : (0 : Int) ≤ (kk : Int) := by omega
   obtain ⟨ad, e_, hx0, hx1⟩ := at_T24 HR.out (kk : Int) h0 hltz
   cases e_
   obtain ⟨hmem, hD⟩ := rdT24_drop l kk hlt
   generalize rd_T24 l (kk : Int) = X at hx0 hx1 hD hmem
   replace hx0 := (HBL.out.cell (World.block_lt_of_cell? w0 _ hx0)).trans hx0
   replace hx1 := (HBL.out.cell (World.block_lt_of_cell? w0 _ hx1)).trans hx1
   simp only [Int.toNat_natCast] at hx0 hx1
   have HXS : Aq (smallQ (X.f0, X.f1)) := ⟨good_small (HLq.out X hmem)⟩
   have HD := Aq.mk hD
   clear hD hmem
   obtain ⟨c0, c1⟩ := cz2 HX.out
   have hBlt : B < wr.heap.size := (Array.getElem?_eq_some_iff.1 HX.out).1
   cases hq : plusQ (a0, a1) (X.f0, X.f1) with
   | some q' =>
    have HPL := Aq.mk (fun V => plus_ok (a0, a1) (X.f0, X.f1) q' V HS.out HXS.out hq)
    have HA2 : Aq (runQ (l.drop (kk + 1)) q' = (q, false)) := ⟨by have z := HA.out; rw [HD.out] at z; simp only [runQ, hq] at z; exact z⟩
    have HS2 : Aq (smallQ q') := ⟨plus_small HS.out HXS.out hq⟩
    clear hq HA
    obtain ⟨p0, p1⟩ := q'
    go_wp2_with (first | (go_at_call 145; go_must (with_reducible refine (HPL.out _).mono ?_; rintro e w2 ⟨rfl, hB⟩; have X2 := bB_ (bL_ HX.out (.cells #[.int .i64 X.f0, .int .i64 X.f1] 24)) hB; have k0 : w2.cell? ⟨B, 0, none⟩ = some (.int .i64 a0) := (bC_ X2 0).trans rfl; have k1 : w2.cell? ⟨B, 1, none⟩ = some (.int .i64 a1) := (bC_ X2 1).trans rfl; have f0 := bR_ X2 0; have f1 := bR_ X2 1; have HX2 := Aq.mk X2; have HG2 := Aq.mk ((HG.out.trans (World.grownBy_alloc _ _ _)).trans (grown_row hB B)); have HB2 := Aq.mk (HBL.out.trans ((bS_ (bA_ (Below.refl wr.heap.size wr) _) hB).mono (bZ_ HBL.out))); clear hB X2 c0 c1)))
    go_roundg (l.length - (kk + 1))
    case measure => omega
    case rel => exact ⟨kk + 1, p0, p1, by omega, by omega, by go_num, HA2, HS2, ⟨grown_set (grown_set HG2.out 0 _) 1 _⟩, ⟨bP_ (bP_ HX2.out 0 _ rfl) 1 _ rfl⟩, ⟨(HB2.out.setCell (p := ⟨B, 0, none⟩) hB0 _).setCell (p := ⟨B, 1, none⟩) hB0 _⟩⟩
   | none =>
    have HPL := Aq.mk (fun V => plus_no (a0, a1) (X.f0, X.f1) V HS.out HXS.out hq)
    have HA2 : Aq ((a0, a1) = q) := ⟨by have z := HA.out; rw [HD.out] at z; simp only [runQ, hq] at z; exact congrArg Prod.fst z⟩
    clear hq HA
    go_wp2_with (first | (go_at_call 145; go_must (with_reducible refine (HPL.out _).mono ?_; rintro e w2 ⟨rfl, hB⟩; have HX2 := Aq.mk (bB_ (bL_ HX.out (.cells #[.int .i64 X.f0, .int .i64 X.f1] 24)) hB); have HG2 := Aq.mk ((HG.out.trans (World.grownBy_alloc _ _ _)).trans (grown_row hB B)); clear hB c0 c1)))
    exact ⟨rfl, rfl, HG2.out, by rw [← HA2.out]; exact HX2.out⟩
  ·have hltz : ¬ (kk : Int) < (l.length : Int) := by omega
   have z := HA.out
   rw [List.drop_eq_nil_of_le (by omega)] at z
   exact absurd (congrArg Prod.snd z) (by simp [runQ])
theorem below_turned0 {w W W1 : World} {b : Nat} (hB : Below w.heap.size w W) (hg : W.grownBy W1 (some b)) (hb : w.heap.size ≤ b) : Below w.heap.size w W1 :=
 hB.grown hg hB.size (fun k e => by cases e; exact hb)
def sumF (l : List S24) : (Int × Int) × Int := if 1000 < l.length then ((0, 0), 2) else if l.any badF then ((0, 0), 1) else match runQ l (0, 1) with
 | (q, true) => (q, 0)
 | (_, false) => ((0, 0), 2)
set_option maxRecDepth 100000 in
set_option maxHeartbeats 4000000 in
theorem sum_any (A : Option Addr) (c : Nat) (l : List S24) (w : World) (hr : Kd.C k24 w A l.length l) :
  Calls Tryz.prog 104 #[.slice A l.length c] w fun e w' => e = .returned (.tuple #[.agg #[.int .i64 (sumF l).1.1, .int .i64 (sumF l).1.2], .int .i64 (sumF l).2]) ∧ Below w.heap.size w w' := by
 have hm : l.length ≤ 9223372036854775807 := hr.2.1
 have hmf : ∀ (fn : Fn) (first cap : Array Value) (w : World), (Instr.makeFunc fn first cap).run Tryz.prog w = .ok (.func fn first cap) w := fun _ _ _ _ => rfl
 have HR := Aq.mk hr
 have HVal := Aq.mk (fun W (hb : Below w.heap.size w W) => valid_any A c l W (Kd.C_below hr hb))
 clear hr
 have hB2 : Below w.heap.size w ((w.alloc (.cells #[.slice A l.length c] 97)).alloc (.cells #[.int .i64 0, .int .i64 0] 24)) := bA_ (bA_ (Below.refl _ _) _) _
 have hX2 : ((w.alloc (.cells #[.slice A l.length c] 97)).alloc (.cells #[.int .i64 0, .int .i64 0] 24)).heap[w.heap.size]? = some (.cells #[.slice A l.length c] 97 (0, 0)) := bL_ (heap_alloc_new w _) _
 have hY2 : ((w.alloc (.cells #[.slice A l.length c] 97)).alloc (.cells #[.int .i64 0, .int .i64 0] 24)).heap[w.heap.size + 1]? = some (.cells #[.int .i64 0, .int .i64 0] 24 (0, 0)) := blk_at _ _ _ (by simp)
 by_cases h1 : 1000 < l.length
 ·have hz : (1000 : Int) < (l.length : Int) := by omega
  have HE : Aq (sumF l = ((0, 0), 2)) := ⟨by unfold sumF; rw [if_pos h1]⟩
  clear h1 HVal
  go_enter Tryz.func104, Tryz.ntmps104
  go_wp2
  exact bodyPost_ret (results_ct rfl _ _ (w.heap.size + 1) 24 #[.int .i64 0, .int .i64 0] (0, 0) _ rfl hY2 (Tryz.underlying24) rfl (by kernel_rfl)) rfl ⟨by rw [HE.out]; rfl, hB2⟩
 ·have hz : ¬ (1000 : Int) < (l.length : Int) := by omega
  cases hv : l.any badF with
  | true =>
   have HV : Aq ((!(l.any badF)) = false) := ⟨by rw [hv]; rfl⟩
   have HE : Aq (sumF l = ((0, 0), 1)) := ⟨by unfold sumF; rw [if_neg h1, if_pos hv]⟩
   clear h1 hv
   go_enter Tryz.func104, Tryz.ntmps104
   go_wp2_with (first | (go_at_call 103; go_must (with_reducible refine (HVal.out ((w.alloc (.cells #[.slice A l.length c] 97)).alloc (.cells #[.int .i64 0, .int .i64 0] 24)) hB2).mono ?_; rintro e w2 ⟨he, hb⟩; rw [HV.out] at he; subst he; have HB := Aq.mk (bS_ hB2 hb); have HX := Aq.mk (bB_ hX2 hb); have HY := Aq.mk (bB_ hY2 hb); have x0 : w2.cell? ⟨w.heap.size, 0, none⟩ = some (.slice A l.length c) := (bC_ HX.out 0).trans rfl; have y0 : w2.cell? ⟨w.heap.size + 1, 0, none⟩ = some (.int .i64 0) := (bC_ HY.out 0).trans rfl; have y1 : w2.cell? ⟨w.heap.size + 1, 1, none⟩ = some (.int .i64 0) := (bC_ HY.out 1).trans rfl; have yf0 := bR_ HY.out 0; have yf1 := bR_ HY.out 1; clear hb hX2 hY2)))
   have X3 : ((w2.setCell ⟨w.heap.size + 1, 0, none⟩ (.int .i64 0)).setCell ⟨w.heap.size + 1, 1, none⟩ (.int .i64 0)).heap[w.heap.size + 1]? = some (.cells #[.int .i64 0, .int .i64 0] 24 (0, 0)) := bP_ (bP_ HY.out 0 _ rfl) 1 _ rfl
   have B3 : Below w.heap.size w ((w2.setCell ⟨w.heap.size + 1, 0, none⟩ (.int .i64 0)).setCell ⟨w.heap.size + 1, 1, none⟩ (.int .i64 0)) := bT_ (bT_ HB.out (by omega)) (by omega)
   generalize ((w2.setCell ⟨w.heap.size + 1, 0, none⟩ (.int .i64 0)).setCell ⟨w.heap.size + 1, 1, none⟩ (.int .i64 0)) = V at X3 B3 ⊢
   exact bodyPost_ret (results_ct rfl _ _ (w.heap.size + 1) 24 #[.int .i64 0, .int .i64 0] (0, 0) _ rfl X3 (Tryz.underlying24) rfl (by kernel_rfl)) rfl ⟨by rw [HE.out]; rfl, B3⟩
  | false =>
   have HV : Aq ((!(l.any badF)) = true) := ⟨by rw [hv]; rfl⟩
   have HL : Aq (∀ x ∈ l, badF x = false) := ⟨fun x hx => by rw [List.any_eq_false] at hv; simpa using hv x hx⟩
   have HS : Aq (smallQ (0, 1)) := ⟨by unfold smallQ; decide⟩
   have eg1 : Aq (∀ args w, (callFunc 144 args).run Tryz.prog w = .ok (.enter 144 args) w) := ⟨enters_of Tryz.func144 (by kernel_rfl) rfl⟩
   rcases hq : runQ l (0, 1) with ⟨⟨q0, q1⟩, _ | _⟩
   ·have HQ := Aq.mk hq
    have HE : Aq (sumF l = ((0, 0), 2)) := ⟨by unfold sumF; rw [if_neg h1, if_neg (by simp [hv]), hq]⟩
    clear h1 hv hq
    go_enter Tryz.func104, Tryz.ntmps104
    go_wp2_with (first | (go_at_call 103; go_must (with_reducible refine (HVal.out ((w.alloc (.cells #[.slice A l.length c] 97)).alloc (.cells #[.int .i64 0, .int .i64 0] 24)) hB2).mono ?_; rintro e w2 ⟨he, hb⟩; rw [HV.out] at he; subst he; have HB := Aq.mk (bS_ hB2 hb); have HX := Aq.mk (bB_ hX2 hb); have HY := Aq.mk (bB_ hY2 hb); have x0 : w2.cell? ⟨w.heap.size, 0, none⟩ = some (.slice A l.length c) := (bC_ HX.out 0).trans rfl; have y0 : w2.cell? ⟨w.heap.size + 1, 0, none⟩ = some (.int .i64 0) := (bC_ HY.out 0).trans rfl; have y1 : w2.cell? ⟨w.heap.size + 1, 1, none⟩ = some (.int .i64 0) := (bC_ HY.out 1).trans rfl; have yf0 := bR_ HY.out 0; have yf1 := bR_ HY.out 1; have hlt2 : w.heap.size + 1 < w2.heap.size := (Array.getElem?_eq_some_iff.1 HY.out).1; clear hb hX2 hY2)) | (go_at_call 143; go_must (with_reducible refine (ranged_no 144 #[.pointer (some ⟨w.heap.size, 0, none⟩), .pointer (some ⟨w2.heap.size, 0, none⟩)] w2.heap.size (.cells #[.int .i64 q0, .int .i64 q1] 166) _ eg1.out (by simp) ?hdo).mono ?_; (case hdo => exact fun W hW => sum1_no w W A c l HR.out HL.out (bS_ (bA_ HB.out _) hW) w.heap.size w2.heap.size HB.out.size (0, 1) (q0, q1) HS.out (bB_ (bL_ HX.out _) hW) (bB_ (heap_alloc_new w2 _) hW) HQ.out); rintro e w3 ⟨rfl, hgr, hq3⟩; have HG3 := Aq.mk (below_turned0 (bA_ HB.out (.cells #[.int .i64 0, .int .i64 1] 166)) hgr HB.out.size); have hne : w.heap.size + 1 ≠ w2.heap.size := Nat.ne_of_lt hlt2; have HY3 := Aq.mk (grown_blk hgr hne (bL_ HY.out (.cells #[.int .i64 0, .int .i64 1] 166))); have z0 : w3.cell? ⟨w2.heap.size, 0, none⟩ = some (.int .i64 q0) := (bC_ hq3 0).trans rfl; have z1 : w3.cell? ⟨w2.heap.size, 1, none⟩ = some (.int .i64 q1) := (bC_ hq3 1).trans rfl; have yy0 : w3.cell? ⟨w.heap.size + 1, 0, none⟩ = some (.int .i64 0) := (bC_ HY3.out 0).trans rfl; have yy1 : w3.cell? ⟨w.heap.size + 1, 1, none⟩ = some (.int .i64 0) := (bC_ HY3.out 1).trans rfl; have yg0 := bR_ HY3.out 0; have yg1 := bR_ HY3.out 1; clear hgr hq3 x0 y0 y1 yf0 yf1)))
    have X3 : ((w3.setCell ⟨w.heap.size + 1, 0, none⟩ (.int .i64 0)).setCell ⟨w.heap.size + 1, 1, none⟩ (.int .i64 0)).heap[w.heap.size + 1]? = some (.cells #[.int .i64 0, .int .i64 0] 24 (0, 0)) := bP_ (bP_ HY3.out 0 _ rfl) 1 _ rfl
    have B3 : Below w.heap.size w ((w3.setCell ⟨w.heap.size + 1, 0, none⟩ (.int .i64 0)).setCell ⟨w.heap.size + 1, 1, none⟩ (.int .i64 0)) := bT_ (bT_ HG3.out (by omega)) (by omega)
    generalize ((w3.setCell ⟨w.heap.size + 1, 0, none⟩ (.int .i64 0)).setCell ⟨w.heap.size + 1, 1, none⟩ (.int .i64 0)) = V at X3 B3 ⊢
    exact bodyPost_ret (results_ct rfl _ _ (w.heap.size + 1) 24 #[.int .i64 0, .int .i64 0] (0, 0) _ rfl X3 (Tryz.underlying24) rfl (by kernel_rfl)) rfl ⟨by rw [HE.out]; rfl, B3⟩
   ·have HQ := Aq.mk hq
    have HE : Aq (sumF l = ((q0, q1), 0)) := ⟨by unfold sumF; rw [if_neg h1, if_neg (by simp [hv]), hq]⟩
    clear h1 hv hq
    go_enter Tryz.func104, Tryz.ntmps104
    go_wp2_with (first | (go_at_call 103; go_must (with_reducible refine (HVal.out ((w.alloc (.cells #[.slice A l.length c] 97)).alloc (.cells #[.int .i64 0, .int .i64 0] 24)) hB2).mono ?_; rintro e w2 ⟨he, hb⟩; rw [HV.out] at he; subst he; have HB := Aq.mk (bS_ hB2 hb); have HX := Aq.mk (bB_ hX2 hb); have HY := Aq.mk (bB_ hY2 hb); have x0 : w2.cell? ⟨w.heap.size, 0, none⟩ = some (.slice A l.length c) := (bC_ HX.out 0).trans rfl; have y0 : w2.cell? ⟨w.heap.size + 1, 0, none⟩ = some (.int .i64 0) := (bC_ HY.out 0).trans rfl; have y1 : w2.cell? ⟨w.heap.size + 1, 1, none⟩ = some (.int .i64 0) := (bC_ HY.out 1).trans rfl; have yf0 := bR_ HY.out 0; have yf1 := bR_ HY.out 1; have hlt2 : w.heap.size + 1 < w2.heap.size := (Array.getElem?_eq_some_iff.1 HY.out).1; clear hb hX2 hY2)) | (go_at_call 143; go_must (with_reducible refine (ranged_ok 144 #[.pointer (some ⟨w.heap.size, 0, none⟩), .pointer (some ⟨w2.heap.size, 0, none⟩)] w2.heap.size (.cells #[.int .i64 q0, .int .i64 q1] 166) _ eg1.out (by simp) ?hdo).mono ?_; (case hdo => exact fun W hW => sum1_ok w W A c l HR.out HL.out (bS_ (bA_ HB.out _) hW) w.heap.size w2.heap.size HB.out.size (0, 1) (q0, q1) HS.out (bB_ (bL_ HX.out _) hW) (bB_ (heap_alloc_new w2 _) hW) HQ.out); rintro e w3 ⟨rfl, hgr, hq3⟩; have HG3 := Aq.mk (below_turned0 (bA_ HB.out (.cells #[.int .i64 0, .int .i64 1] 166)) hgr HB.out.size); have hne : w.heap.size + 1 ≠ w2.heap.size := Nat.ne_of_lt hlt2; have HY3 := Aq.mk (grown_blk hgr hne (bL_ HY.out (.cells #[.int .i64 0, .int .i64 1] 166))); have z0 : w3.cell? ⟨w2.heap.size, 0, none⟩ = some (.int .i64 q0) := (bC_ hq3 0).trans rfl; have z1 : w3.cell? ⟨w2.heap.size, 1, none⟩ = some (.int .i64 q1) := (bC_ hq3 1).trans rfl; have yy0 : w3.cell? ⟨w.heap.size + 1, 0, none⟩ = some (.int .i64 0) := (bC_ HY3.out 0).trans rfl; have yy1 : w3.cell? ⟨w.heap.size + 1, 1, none⟩ = some (.int .i64 0) := (bC_ HY3.out 1).trans rfl; have yg0 := bR_ HY3.out 0; have yg1 := bR_ HY3.out 1; clear hgr hq3 x0 y0 y1 yf0 yf1)))
    have X3 : ((w3.setCell ⟨w.heap.size + 1, 0, none⟩ (.int .i64 q0)).setCell ⟨w.heap.size + 1, 1, none⟩ (.int .i64 q1)).heap[w.heap.size + 1]? = some (.cells #[.int .i64 q0, .int .i64 q1] 24 (0, 0)) := bP_ (bP_ HY3.out 0 _ rfl) 1 _ rfl
    have B3 : Below w.heap.size w ((w3.setCell ⟨w.heap.size + 1, 0, none⟩ (.int .i64 q0)).setCell ⟨w.heap.size + 1, 1, none⟩ (.int .i64 q1)) := bT_ (bT_ HG3.out (by omega)) (by omega)
    generalize ((w3.setCell ⟨w.heap.size + 1, 0, none⟩ (.int .i64 q0)).setCell ⟨w.heap.size + 1, 1, none⟩ (.int .i64 q1)) = V at X3 B3 ⊢
    exact bodyPost_ret (results_ct rfl _ _ (w.heap.size + 1) 24 #[.int .i64 q0, .int .i64 q1] (0, 0) _ rfl X3 (Tryz.underlying24) rfl (by kernel_rfl)) rfl ⟨by rw [HE.out]; rfl, B3⟩
end
section
open Go.Shelf
def feesB (R : S26) (S : S39) : Bool := rateB R && saleB S && (R.f7 == 0 && S.f8 == 0)
def cartF (R : S26) (S : S39) : Int := if S.f5 > 0 then R.f5 else 0
def storeF (R : S26) (S : S39) : Int := if S.f6 > 0 then R.f6 * ((S.f2 - S.f7 + 99) / 100) else 0
structure FeesOk (R : S26) (S : S39) : Prop where
 num0 : 0 ≤ R.f4.f0
 num1 : R.f4.f0 ≤ R.f4.f1
 den0 : 1 ≤ R.f4.f1
 den1 : R.f4.f1 ≤ 1000000
 cart0 : 0 ≤ R.f5
 cart1 : R.f5 ≤ 100000
 store0 : 0 ≤ R.f6
 store1 : R.f6 ≤ 100000
 price0 : 1 ≤ S.f4
 price1 : S.f4 ≤ 1000000000
 since0 : 0 ≤ S.f7
 since1 : S.f7 ≤ S.f2
 hour1 : S.f2 ≤ 1000000
 carter0 : 0 ≤ S.f5
 carter1 : S.f5 ≤ 40
 keeper0 : 0 ≤ S.f6
 keeper1 : S.f6 ≤ 40
theorem part_ok {a b : Int} (h : partB a b = true) : 0 ≤ a ∧ a ≤ b ∧ 1 ≤ b ∧ b ≤ 1000000 := by
 unfold partB claim_Norm.f at h
 by_cases hc : (decide (b = 0) || !inB a (-1000000000000000) 1000000000000000 || !inB b (-1000000000000000) 1000000000000000) = true
 ·rw [if_pos hc] at h
  simp at h
 ·rw [if_neg hc] at h
  simp only [Bool.or_eq_true, decide_eq_true_eq, not_or] at hc
  cases hn : normQ a b with
  | none => rw [hn] at h; simp at h
  | some q =>
   obtain ⟨x, y⟩ := q
   rw [hn] at h
   simp only [decide_true, Bool.true_and, Bool.and_eq_true, beq_iff_eq, inB_iff] at h
   obtain ⟨⟨rfl, rfl⟩, h0, h1⟩ := h
   have hs := norm_small (by omega) hn
   exact ⟨h0, h1, hs.2.1, hs.2.2⟩
theorem fees_ok {R : S26} {S : S39} (h : feesB R S = true) : FeesOk R S := by
 unfold feesB rateB saleB at h
 simp only [Bool.and_eq_true, beq_iff_eq] at h
 obtain ⟨⟨⟨⟨h1, h2⟩, h3⟩, ⟨⟨h4, h5⟩, h6⟩⟩, h7, h8⟩ := h
 rw [if_pos h7] at h3
 rw [if_pos h8] at h6
 simp only [Bool.and_eq_true, inB_iff] at h1 h2 h3 h4 h5 h6
 obtain ⟨⟨⟨⟨a1, a2⟩, a3⟩, a4⟩, a5⟩ := h3
 obtain ⟨⟨⟨⟨⟨⟨b1, b2⟩, b3⟩, b4⟩, b5⟩, b6⟩, b7⟩ := h6
 obtain ⟨p1, p2, p3, p4⟩ := part_ok a3
 exact ⟨p1, p2, p3, p4, a4.1, a4.2, a5.1, a5.2, b3.1, b3.2, b6.1, b6.2, by omega, b4.1, b4.2, b5.1, b5.2⟩
theorem storeF_bd {R : S26} {S : S39} (h : FeesOk R S) : 0 ≤ storeF R S ∧ storeF R S ≤ 100000 * 10001 := by
 unfold storeF
 have := h.store0; have := h.store1; have := h.since0; have := h.since1; have := h.hour1
 split
 ·have m1 : 0 ≤ R.f6 * ((S.f2 - S.f7 + 99) / 100) := Int.mul_nonneg h.store0 (by omega)
  have m2 : R.f6 * ((S.f2 - S.f7 + 99) / 100) ≤ 100000 * 10001 := Int.mul_le_mul h.store1 (by omega) (by omega) (by omega)
  exact ⟨m1, m2⟩
 ·omega
theorem cartF_bd {R : S26} {S : S39} (h : FeesOk R S) : 0 ≤ cartF R S ∧ cartF R S ≤ 100000 := by
 unfold cartF
 have := h.cart0; have := h.cart1
 split <;> omega
theorem store_w {R : S26} {S : S39} (h : FeesOk R S) : wrap64 (R.f6 * (wrap64 (Int.tdiv (wrap64 ((wrap64 ((wrap64 (S.f2 - S.f7)) + 100)) - 1)) 100))) = R.f6 * ((S.f2 - S.f7 + 99) / 100) := by
 have := h.store0; have := h.store1; have := h.since0; have := h.since1; have := h.hour1
 have e : ∀ x : Int, -9223372036854775808 ≤ x ∧ x ≤ 9223372036854775807 → wrap64 x = x := fun x hx => IntWalk.wrap64_in x hx
 rw [e (S.f2 - S.f7) (by omega), e (S.f2 - S.f7 + 100) (by omega), e (S.f2 - S.f7 + 100 - 1) (by omega), Int.tdiv_eq_ediv_of_nonneg (by omega), show S.f2 - S.f7 + 100 - 1 = S.f2 - S.f7 + 99 by omega, e ((S.f2 - S.f7 + 99) / 100) (by omega)]
 have m1 : 0 ≤ R.f6 * ((S.f2 - S.f7 + 99) / 100) := Int.mul_nonneg h.store0 (by omega)
 have m2 : R.f6 * ((S.f2 - S.f7 + 99) / 100) ≤ 100000 * 10001 := Int.mul_le_mul h.store1 (by omega) (by omega) (by omega)
 exact e _ (by omega)
theorem fees_f (R : S26) (S : S39) (k : Nat) : award_Fees.f (k + 1) R.f0 R.f1 R.f2 R.f3 R.f4.f0 R.f4.f1 R.f5 R.f6 R.f7 S.f0 S.f1 S.f2 S.f3 S.f4 S.f5 S.f6 S.f7 S.f8 = some (if feesB R S then (cartF R S, storeF R S, 0) else (0, 0, 1)) := by
 unfold award_Fees.f
 rw [checkRate_f, checkSale_f]
 simp only [Option.bind_some, award_Fees.j0]
 by_cases hf : feesB R S = true
 ·have ho := fees_ok hf
  rw [if_pos hf]
  have hs := hf
  unfold feesB at hs
  simp only [Bool.and_eq_true, beq_iff_eq] at hs
  obtain ⟨⟨h1, h2⟩, h3, h4⟩ := hs
  rw [store_w ho]
  unfold ckR ckS cartF storeF
  rw [h1, h2, h3, h4]
  simp
  by_cases hc : S.f5 > 0 <;> by_cases hk : S.f6 > 0 <;> simp [hc, hk]
 ·rw [if_neg hf]
  unfold ckR ckS
  by_cases h1 : rateB R = true
  ·by_cases h2 : saleB S = true
   ·simp only [h1, h2, if_true]
    have h3 : ¬ (R.f7 = 0 ∧ S.f8 = 0) := by
     rintro ⟨h3, h4⟩
     exact hf (by unfold feesB; simp [h1, h2, h3, h4])
    have h5 : 0 ≤ R.f7 := by
     unfold rateB at h1
     by_cases e : R.f7 = 0
     ·omega
     ·rw [if_neg e] at h1
      simp only [Bool.and_eq_true, inB_iff] at h1
      omega
    have h6 : 0 ≤ S.f8 := by
     unfold saleB at h2
     by_cases e : S.f8 = 0
     ·omega
     ·rw [if_neg e] at h2
      simp only [Bool.and_eq_true, inB_iff] at h2
      omega
    by_cases h7 : R.f7 > 0
    ·simp [h7]
    ·have h8 : S.f8 > 0 := by omega
     simp [h7, h8]
   ·simp [h1, h2]
  ·simp [h1]
def equalL (n : Int) (m : Nat) : List Int := (List.range m).map fun i : Nat => n / (m : Int) + (if (i : Int) < n % (m : Int) then 1 else 0)
theorem equal_len (n : Int) (m : Nat) : (equalL n m).length = m := by simp [equalL]
def partiesB (l : List Int) : Bool := inB l.length 1 40 && !(l.any fun p => !inB p 1 40)
theorem parties_len {l : List Int} (h : partiesB l = true) : 1 ≤ l.length ∧ l.length ≤ 40 := by
 unfold partiesB at h
 rw [Bool.and_eq_true, inB_iff] at h
 omega
theorem equal_l0 (n : Int) (l : List Int) (h0 : 0 ≤ n) (h1 : n ≤ 1000000000) (hl : 1 ≤ l.length) (hl2 : l.length ≤ 40) : ∀ (d j : Nat), l.length - j < d → j ≤ l.length →
  award_Equal.l0 d n l ((equalL n l.length).take j ++ List.replicate (l.length - j) 0) (l.length : Int) (j : Int) = some (equalL n l.length, 0)
 | 0, j, h, _ => by omega
 | d + 1, j, h, hj => by
  unfold award_Equal.l0
  by_cases hlt : j < l.length
  ·have hlz : ¬ (l.length : Int) = 0 := by omega
   have hlen : ((equalL n l.length).take j ++ List.replicate (l.length - j) (0 : Int)).length = l.length := by rw [List.length_append, List.length_take, equal_len, List.length_replicate]; omega
   have ht : Int.tdiv n (l.length : Int) = n / (l.length : Int) := Int.tdiv_eq_ediv_of_nonneg h0
   have hm : Int.tmod n (l.length : Int) = n % (l.length : Int) := Int.tmod_eq_emod_of_nonneg h0
   have q0 : 0 ≤ n / (l.length : Int) := Int.ediv_nonneg h0 (by omega)
   have q1 : n / (l.length : Int) ≤ n := Int.ediv_le_self _ h0
   have e : ∀ x : Int, -9223372036854775808 ≤ x ∧ x ≤ 9223372036854775807 → wrap64 x = x := fun x hx => IntWalk.wrap64_in x hx
   rw [if_pos (by omega), if_neg hlz, if_pos (by omega), if_pos (by rw [hlen]; omega)]
   simp only [Option.bind_some]
   rw [ht, hm, e _ (by omega), e ((j : Int) + 1) (by omega), Int.toNat_natCast]
   have hset : ∀ v : Int, ((equalL n l.length).take j ++ List.replicate (l.length - j) (0 : Int)).set j v = (equalL n l.length).take j ++ v :: List.replicate (l.length - (j + 1)) 0 := by
    intro v
    rw [List.set_append, if_neg (by rw [List.length_take, equal_len]; omega), List.length_take, equal_len, show l.length - j = (l.length - (j + 1)) + 1 by omega, List.replicate_succ, show j - min j l.length = 0 by omega]
    rfl
   have hrd : ∀ v : Int, rd ((equalL n l.length).take j ++ v :: List.replicate (l.length - (j + 1)) 0) (j : Int) = v := by
    intro v
    unfold rd
    rw [Int.toNat_natCast, List.getD_eq_getElem?_getD, List.getElem?_append_right (by rw [List.length_take, equal_len]; omega), List.length_take, equal_len, show j - min j l.length = 0 by omega]
    rfl
   have hset2 : ∀ v u : Int, ((equalL n l.length).take j ++ v :: List.replicate (l.length - (j + 1)) (0 : Int)).set j u = (equalL n l.length).take j ++ u :: List.replicate (l.length - (j + 1)) 0 := by
    intro v u
    rw [List.set_append, if_neg (by rw [List.length_take, equal_len]; omega), List.length_take, equal_len, show j - min j l.length = 0 by omega]
    rfl
   have hnext : ∀ v : Int, v = n / (l.length : Int) + (if (j : Int) < n % (l.length : Int) then 1 else 0) → (equalL n l.length).take j ++ v :: List.replicate (l.length - (j + 1)) 0 = (equalL n l.length).take (j + 1) ++ List.replicate (l.length - (j + 1)) 0 := by
    intro v hv
    have : (equalL n l.length)[j]? = some v := by
     unfold equalL
     rw [List.getElem?_map, List.getElem?_range hlt, hv]
     rfl
    rw [List.take_add_one, this]
    simp
   rw [hset]
   have ih := equal_l0 n l h0 h1 hl hl2 d (j + 1) (by omega) (by omega)
   by_cases hc : (j : Int) < n % (l.length : Int)
   ·rw [if_pos hc, hrd, e _ (by omega), hset2, hnext _ (by rw [if_pos hc])]
    exact ih
   ·rw [if_neg hc, hnext _ (by rw [if_neg hc]; omega)]
    exact ih
  ·obtain rfl : j = l.length := by omega
   rw [if_neg (by omega), Nat.sub_self, List.take_of_length_le (by rw [equal_len]; omega)]
   simp
theorem equal_f (n : Int) (l : List Int) (k : Nat) (hk : 50 ≤ k) : award_Equal.f k n l = some (if inB n 0 1000000000 && partiesB l then (equalL n l.length, 0) else ([], 1)) := by
 obtain ⟨k, rfl⟩ : ∃ d, k = d + 1 := ⟨k - 1, by omega⟩
 unfold award_Equal.f award_areParties.f
 rw [in_f]
 simp only [Option.bind_some, award_Equal.j0]
 cases hi : inB n 0 1000000000 with
 | false => simp
 | true =>
  have hb := inB_iff.1 hi
  have hpe : (inB (l.length : Int) 1 40 && !(l.any fun p => !inB p 1 40)) = partiesB l := rfl
  simp only [if_true, Bool.true_and, hpe]
  cases hp : partiesB l with
  | false => simp
  | true =>
   have hl := parties_len hp
   have z := equal_l0 n l hb.1 hb.2 hl.1 hl.2 k 0 (by omega) (by omega)
   simp only [List.take_zero, List.nil_append, Nat.sub_zero] at z
   simp only [Bool.not_true, Bool.false_eq_true, if_false, Bool.and_true, if_true, Int.toNat_natCast, List.length_replicate]
   rw [if_pos (by omega), if_pos (by omega)]
   exact z
end
section
open Go.Shelf
theorem rows_in {P : Program} {n lo : Nat} {row : String} {args : Array Value} {w : World} {R : Value → World → Prop} (h : Rows P row args w R) : RowsIn (Fence.wide.inRound lo) n P row args w R :=
 fun c cs _ => let ⟨v, w', r, s⟩ := h c cs; ⟨v, w', r, stepsIn_wide.2 s⟩
def noDefer (o : Oper) : Bool := match o.op with | .defer _ => false | _ => true
theorem noDefer_out {o : Oper} (h : noDefer o = true) : ∀ c, o.op ≠ .defer c := fun c e => by unfold noDefer at h; rw [e] at h; exact Bool.noConfusion h
theorem oper_in {P : Program} {n lo : Nat} {o : Oper} {a : Act} {w : World} {K K' : Act → World → Prop} {Q : Exit → Act → World → Prop} (hd : noDefer o = true) (hK : ∀ a w, K a w → K' a w)
  (h : o.wp P a w K Q) : o.wpIn (Fence.wide.inRound lo) n P a w K' Q := by
 refine ⟨fun _ _ => trivial, ?_⟩
 rw [Oper.semAt_eq _ _ _ (noDefer_out hd)]
 unfold Oper.wp at h
 generalize (execOp a.eval o).run P w = r at h ⊢
 rcases r with ⟨nx, w'⟩ | ⟨hl, w'⟩
 ·cases nx with
  | value v => exact hK _ _ h
  | skip => exact hK _ _ h
  | defer d => exact hK _ _ h
  | enter f args =>
   refine ⟨fun hh => absurd hh (by simp [Fence.wide]), ?_⟩
   refine (callsIn_wide.2 h).mono ?_
   intro e w'' hh
   cases e with
   | returned v => exact hK _ _ hh
   | panicked ch => exact hh
   | outgrown => exact hh
  | row row args => exact ⟨fun hh => absurd hh (by simp [Fence.wide]), (rows_in h).mono (fun v w'' hh => hK _ _ hh)⟩
  | _ => exact h.elim
 ·cases hl with
  | panic v => exact h
  | _ => exact h.elim
theorem any_in {P : Program} {n lo : Nat} {md : Region.Mode} {ops : Array Oper} {Q : Exit → Act → World → Prop} (hd : ops.all noDefer = true) (hQ : ¬ LetsOut Q) :
  ∀ (fuel : Nat) (l : Array Bool) (a : Act) (w : World), wpAny P md ops Q fuel l a w → wpAnyIn (Fence.wide.inRound lo) n P md ops Q fuel l a w
 | 0, _, _, _, h => h
 | fuel + 1, l, a, w, h => by
  refine ⟨h.1, fun i hi => ?_⟩
  have hh := h.2 i hi
  unfold wpOp at hh
  unfold wpOpIn
  cases ho : ops[i]? with
  | none => rw [ho] at hh; exact any_in hd hQ fuel _ _ _ hh
  | some o =>
   rw [ho] at hh
   simp only at hh ⊢
   have hdo : noDefer o = true := by
    obtain ⟨hi', e⟩ := Array.getElem?_eq_some_iff.1 ho
    subst e
    exact Array.all_eq_true.1 hd i hi'
   by_cases hw : Region.wanted o (yielded ops a.tmps) = true
   ·rw [if_pos hw] at hh ⊢
    rcases hh with hh | ⟨_, hh⟩
    ·exact oper_in hdo (fun a w hk => any_in hd hQ fuel _ a w hk) hh
    ·exact absurd hh hQ
   ·rw [if_neg hw] at hh ⊢
    exact ⟨fun _ _ => trivial, any_in hd hQ fuel _ _ _ hh⟩
def onlyN (Q : Exit → Act → World → Prop) : Exit → Act → World → Prop
 | .normal, a, w => Q .normal a w
 | _, _, _ => False
theorem onlyN_mk {Q : Exit → Act → World → Prop} {a : Act} {w : World} (h : Q .normal a w) : onlyN Q .normal a w := h
theorem startR_ {P : Program} {n lo k id : Nat} {ops : Array Oper} {Q : Exit → Act → World → Prop} {S : World → Prop} {ds : List Nat} {a : Act} {w : World} (l : Array Bool) (hm : P.follows .mixedOrders = true) (hd : ops.all noDefer = true) (hn : ops.size = k) (hl : Array.replicate k false = l) (hS : S w.drew)
  (h : S w.drew → wpAnyLast P .any ops (onlyN Q) S ds k l a w.drew) : (Code.region id ops true).wpIn (Fence.wide.inRound lo) n P Q a w := by
 subst hn
 subst hl
 have hQ : ¬ LetsOut (onlyN Q) := by
  rintro ⟨_, _, h⟩
  exact h
 refine wpIn_mono (wpIn_region_any hm (any_in hd hQ _ _ _ _ (wpAny_of_last _ _ _ _ (h hS)))) ?_
 intro e b w' h
 cases e with
 | normal => exact h
 | _ => exact h.elim
end
end Go.Proofs.YtbicfbnempiocaaGreat.G
