/- Part 16 of what the law's proof rests on: what each function of the program computes, and that the machine's call of it comes to just that. -/
import Derived.Test.YtbicfbnempiocaaGreatZB0
import Derived.Test.YtbicfbnempiocaaGreatZB1
import Derived.Test.YtbicfbnempiocaaGreatZB2
import Derived.Test.YtbicfbnempiocaaGreatZB3
import Derived.Test.YtbicfbnempiocaaGreatZB4
import Derived.Test.YtbicfbnempiocaaGreatZB5
import Derived.Test.YtbicfbnempiocaaGreatZB6
import Derived.Test.YtbicfbnempiocaaGreatZB7
import Derived.Test.YtbicfbnempiocaaGreatZB8
import Derived.Test.YtbicfbnempiocaaGreatZB9
import Derived.Test.YtbicfbnempiocaaGreatZB12
set_option linter.unusedVariables false
set_option linter.unusedSimpArgs false
namespace Go.Proofs.YtbicfbnempiocaaGreat.G
open Go.RowKit Go.Proofs.YtbicfbnempiocaaGreatW.PrintWords Go.Proofs.YtbicfbnempiocaaGreatW.PrintLast Go.Proofs.YtbicfbnempiocaaGreatW.PrintMore
section
attribute [local go_sem] max2_int min2_int max_two min_two max_three min_three max_four min_four
mutual
def laganlaw06_few.l0 : Nat → List (S26) → Int → Option (Bool)
 | 0, _, _ => none
 | k + 1, x0, x3 => if x3 < (x0.length : Int) then (laganlaw06_few.j1 k x0 x3 (decide (x3 < 110))) else (laganlaw06_few.j1 k x0 x3 false)
def laganlaw06_few.j1 : Nat → List (S26) → Int → Bool → Option (Bool)
 | 0, _, _, _ => none
 | k + 1, x0, x3, x11 => if x11 = true then (if 0 ≤ x3 then (if x3 < (x0.length : Int) then (if (((rd_T26 x0 x3).f3).size : Int) > 100 then (some false) else (laganlaw06_few.l0 k x0 (wrap64 (x3 + 1)))) else (none)) else (none)) else (if (x0.length : Int) ≤ 30 then (some true) else (if (x0.length : Int) > 100 then (some (decide ((x0.length : Int) ≤ 103))) else (some false)))
end
def laganlaw06_few.f (k : Nat) (l0 : List (S26)) : Option (Bool) := laganlaw06_few.l0 k l0 0
set_option maxHeartbeats 8000000 in
set_option maxRecDepth 100000 in
theorem laganlaw06_few.calls (k : Nat) (A0 : Option Addr) (c0 : Nat) (l0 : List (S26)) (r : Bool) (w : World) (hr0 : Kd.C k26 w A0 l0.length l0) (hc0 : l0.length ≤ c0) (h : laganlaw06_few.f k l0 = some r) :
  Calls Tryz.prog 15 #[.slice A0 l0.length c0] w fun e w' => e = .returned (.bool r) ∧ Drawn0 w w' := by
 have HR0 := Aq.mk hr0
 have HC0 := Aq.mk hc0
 clear hr0 hc0
 have H : (laganlaw06_few.l0 k l0 0) = some r := h
 clear h
 have H' := Aq.mk H
 clear H
 go_enter Tryz.func15, Tryz.ntmps15
 go_wp2
 go_loopg [3] k (fun kq v3 w' => ∃ (x3_1 : Int), v3 = .int .i64 x3_1 ∧ Aq (laganlaw06_few.l0 kq l0 x3_1 = some r) ∧ Aq (kq ≤ k) ∧ Drawn0 w w')
 case atStart => exact ⟨(0), sS, H', ⟨Nat.le_refl _⟩, by repeat (first | exact Drawn0.refl _ | apply Drawn0.step)⟩
 case round =>
  clear H'
  obtain ⟨x3_1, rfl, HA, HK1, ⟨m1, rfl⟩⟩ := hrel
  cases gk with
  | zero => exact absurd HA.out (by simp [laganlaw06_few.l0])
  | succ k1 =>
   have H := HA.out
   clear HA
   simp only [laganlaw06_few.l0] at H
   have HC2 := Aq.mk H
   clear H
   go_upto_region 2 with (fail)
   go_cut [11] (fun v11 wc => ∃ (kq : Nat) (x11_1 : Bool), v11 = .bool x11_1 ∧ Aq (laganlaw06_few.j1 kq l0 x3_1 x11_1 = some r) ∧ Aq (kq ≤ k1) ∧ Drawn0 w wc)
   case first =>
    have H := HC2.out
    clear HC2
    replace H := oI H; rcases H with ⟨c3, H⟩ | ⟨c3, H⟩
    ·have c3b0 := dT c3
     clear c3
     (first | rw [c3b0] | (simp only [i64_w, i32_w]; rw [c3b0]) | skip)
     have H' := Aq.mk H
     clear H
     go_wp2
     go_meet
     case rel => exact ⟨_, (decide (x3_1 < 110)), sS, H', ⟨by have := HK1.out; first | omega | exact Nat.le_refl _⟩, by repeat (first | exact Drawn0.refl _ | apply Drawn0.step)⟩
    ·have c3b0 := dF c3
     clear c3
     (first | rw [c3b0] | (simp only [i64_w, i32_w]; rw [c3b0]) | skip)
     have H' := Aq.mk H
     clear H
     go_wp2
     go_meet
     case rel => exact ⟨_, (false), sS, H', ⟨by have := HK1.out; first | omega | exact Nat.le_refl _⟩, by repeat (first | exact Drawn0.refl _ | apply Drawn0.step)⟩
   case rest =>
    clear HC2
    obtain ⟨kq, x11_1, rfl, HA, HJ1, ⟨mc1, rfl⟩⟩ := hcut
    cases kq with
    | zero => exact absurd HA.out (by simp [laganlaw06_few.j1])
    | succ kj1 =>
     have H := HA.out
     clear HA
     simp only [laganlaw06_few.j1] at H
     replace H := oT H; rcases H with ⟨rfl, H⟩ | ⟨rfl, H⟩
     ·replace H := oI H; rcases H with ⟨c5, H⟩ | ⟨c5, H⟩
      ·have c5b0 := dT c5
       clear c5
       replace H := oI H; rcases H with ⟨c6, H⟩ | ⟨c6, H⟩
       ·have c6b0 := dT c6
        clear c6
        replace H := oI H; rcases H with ⟨c7, H⟩ | ⟨c7, H⟩
        ·have c7b0 : decide (100 < (((rd_T26 l0 x3_1).f3).size : Int)) = true := decide_eq_true c7
         have c7b1 : decide (100 < ((rd_T26 l0 x3_1).f3).size) = true := decide_eq_true (by omega)
         clear c7
         obtain rfl := Option.some.inj H
         have p101 : 0 ≤ (x3_1 : Int) := oA
         have q101 : x3_1 < (l0.length : Int) := oA
         obtain ⟨ad101, e101, hx101_0, hx101_1, hx101_2, hx101_3, hx101_4, hx101_5, hx101_6, hx101_7, hx101_8⟩ := at_T26 HR0.out x3_1 p101 q101
         cases e101
         replace p101 := eq_true p101
         replace q101 := eq_true q101
         go_wp2
         go_ret
         exact ⟨by first | rfl | (simp; done) | (simp [*]; done), by repeat (first | exact Drawn0.refl _ | apply Drawn0.step)⟩
        ·have c7b0 : decide (100 < (((rd_T26 l0 x3_1).f3).size : Int)) = false := decide_eq_false c7
         have c7b1 : decide (100 < ((rd_T26 l0 x3_1).f3).size) = false := decide_eq_false (by omega)
         clear c7
         have H' := Aq.mk H
         clear H
         have p101 : 0 ≤ (x3_1 : Int) := oA
         have q101 : x3_1 < (l0.length : Int) := oA
         obtain ⟨ad101, e101, hx101_0, hx101_1, hx101_2, hx101_3, hx101_4, hx101_5, hx101_6, hx101_7, hx101_8⟩ := at_T26 HR0.out x3_1 p101 q101
         cases e101
         replace p101 := eq_true p101
         replace q101 := eq_true q101
         go_wp2
         go_roundg kj1
         case measure => have := HK1.out; have := HJ1.out; omega
         case rel => exact ⟨(wrap64 (x3_1 + 1)), sS, H', ⟨by have := HK1.out; have := HJ1.out; omega⟩, by repeat (first | exact Drawn0.refl _ | apply Drawn0.step)⟩
       ·exact absurd H (by simp)
      ·exact absurd H (by simp)
     ·replace H := oI H; rcases H with ⟨c8, H⟩ | ⟨c8, H⟩
      ·have c8b0 := dT c8
       have c8b1 : decide (l0.length ≤ 30) = true := decide_eq_true (by omega)
       clear c8
       obtain rfl := Option.some.inj H
       go_wp2
       go_ret
       exact ⟨by first | rfl | (simp; done) | (simp [*]; done), by repeat (first | exact Drawn0.refl _ | apply Drawn0.step)⟩
      ·have c8b0 := dF c8
       have c8b1 : decide (l0.length ≤ 30) = false := decide_eq_false (by omega)
       clear c8
       replace H := oI H; rcases H with ⟨c9, H⟩ | ⟨c9, H⟩
       ·have c9b0 : decide (100 < (l0.length : Int)) = true := decide_eq_true c9
        have c9b1 : decide (100 < l0.length) = true := decide_eq_true (by omega)
        clear c9
        obtain rfl := Option.some.inj H
        go_wp2
        go_ret
        exact ⟨by first | rfl | (simp; done) | (simp [*]; done), by repeat (first | exact Drawn0.refl _ | apply Drawn0.step)⟩
       ·have c9b0 : decide (100 < (l0.length : Int)) = false := decide_eq_false c9
        have c9b1 : decide (100 < l0.length) = false := decide_eq_false (by omega)
        clear c9
        obtain rfl := Option.some.inj H
        go_wp2
        go_ret
        exact ⟨by first | rfl | (simp; done) | (simp [*]; done), by repeat (first | exact Drawn0.refl _ | apply Drawn0.step)⟩
end
section
attribute [local go_sem] max2_int min2_int max_two min_two max_three min_three max_four min_four
def laganref06_SameAward.f (k : Nat) (a0_0 : Int) (a0_1 : Int) (a0_2 : Int) (a0_3 : Int) (a0_4 : Int) (l0_5 : List (S69)) (a1_0 : Int) (a1_1 : Int) (a1_2 : Int) (a1_3 : Int) (a1_4 : Int) (l1_5 : List (S69)) : Option (Bool) := if a0_0 = a1_0 then (if a0_1 = a1_1 then (if a0_2 = a1_2 then (if a0_3 = a1_3 then (if a0_4 = a1_4 then ((laganref06_SameShares.f k l0_5 l1_5).bind fun t688 => (some t688)) else (some false)) else (some false)) else (some false)) else (some false)) else (some false)
set_option maxHeartbeats 8000000 in
set_option maxRecDepth 100000 in
theorem laganref06_SameAward.calls (k : Nat) (a0_0 : Int) (a0_1 : Int) (a0_2 : Int) (a0_3 : Int) (a0_4 : Int) (A0_5 : Option Addr) (c0_5 : Nat) (l0_5 : List (S69)) (a1_0 : Int) (a1_1 : Int) (a1_2 : Int) (a1_3 : Int) (a1_4 : Int) (A1_5 : Option Addr) (c1_5 : Nat) (l1_5 : List (S69)) (r : Bool) (w : World) (hr0_5 : Kd.C k69 w A0_5 l0_5.length l0_5) (hc0_5 : l0_5.length ≤ c0_5) (hr1_5 : Kd.C k69 w A1_5 l1_5.length l1_5) (hc1_5 : l1_5.length ≤ c1_5) (h : laganref06_SameAward.f k a0_0 a0_1 a0_2 a0_3 a0_4 l0_5 a1_0 a1_1 a1_2 a1_3 a1_4 l1_5 = some r) :
  Calls Tryz.prog 35 #[.agg #[.int .i64 a0_0, .int .i64 a0_1, .int .i64 a0_2, .int .i64 a0_3, .int .i64 a0_4, .slice A0_5 l0_5.length c0_5], .agg #[.int .i64 a1_0, .int .i64 a1_1, .int .i64 a1_2, .int .i64 a1_3, .int .i64 a1_4, .slice A1_5 l1_5.length c1_5]] w fun e w' => e = .returned (.bool r) ∧ Below w.heap.size w w' := by
 have hu59 := Tryz.underlying59
 have HR0_5 := Aq.mk hr0_5
 have HC0_5 := Aq.mk hc0_5
 clear hr0_5 hc0_5
 have HR1_5 := Aq.mk hr1_5
 have HC1_5 := Aq.mk hc1_5
 clear hr1_5 hc1_5
 have HB := Aq.mk (Below.refl w.heap.size w)
 have H : (if a0_0 = a1_0 then (if a0_1 = a1_1 then (if a0_2 = a1_2 then (if a0_3 = a1_3 then (if a0_4 = a1_4 then ((laganref06_SameShares.f k l0_5 l1_5).bind fun t688 => (some t688)) else (some false)) else (some false)) else (some false)) else (some false)) else (some false)) = some r := h
 clear h
 replace H := oI H; rcases H with ⟨c3, H⟩ | ⟨c3, H⟩
 ·have c3b0 := bT c3
  have c3b1 := bN c3
  clear c3
  replace H := oI H; rcases H with ⟨c4, H⟩ | ⟨c4, H⟩
  ·have c4b0 := bT c4
   have c4b1 := bN c4
   clear c4
   replace H := oI H; rcases H with ⟨c5, H⟩ | ⟨c5, H⟩
   ·have c5b0 := bT c5
    have c5b1 := bN c5
    clear c5
    replace H := oI H; rcases H with ⟨c6, H⟩ | ⟨c6, H⟩
    ·have c6b0 := bT c6
     have c6b1 := bN c6
     clear c6
     replace H := oI H; rcases H with ⟨c7, H⟩ | ⟨c7, H⟩
     ·have c7b0 := bT c7
      have c7b1 := bN c7
      clear c7
      replace H := oB H; obtain ⟨t688, A8, H⟩ := H
      obtain rfl := Option.some.inj H
      go_enter Tryz.func35, Tryz.ntmps35
      go_wp2_with (first | ((with_reducible refine gD_ (N := 2) rfl ?_); refine bxE (N := 2) #[.int .i64 a0_0, .int .i64 a0_1, .int .i64 a0_2, .int .i64 a0_3, .int .i64 a0_4, .slice A0_5 l0_5.length c0_5] 59 ?_; intro gb686 hg w9 hbox hb; have BK686 := Aq.mk hbox; have GW686 := yS HB hg; have GE686 := yS HB hg; replace HB := yB HB hb; clear hb hbox hg) | ((with_reducible refine gD_ (N := 3) rfl ?_); refine bxE (N := 3) #[.int .i64 a1_0, .int .i64 a1_1, .int .i64 a1_2, .int .i64 a1_3, .int .i64 a1_4, .slice A1_5 l1_5.length c1_5] 59 ?_; intro gb687 hg w10 hbox hb; have BK687 := Aq.mk hbox; have GW687 := yS HB hg; have GE687 := yS HB hg; have NB686_687 := yN BK686 hg; have NB687_686 := yM BK686 hg; replace BK686 := yb BK686 hb; replace HB := yB HB hb; clear hb hbox hg; have hnb11 := NB686_687.out; have hnc11 := NB687_686.out; obtain ⟨hcz12_0, hcz12_1, hcz12_2, hcz12_3, hcz12_4, hcz12_5, hfz12_0, hfz12_1, hfz12_2, hfz12_3, hfz12_4, hfz12_5⟩ := cf6 BK686.out; obtain ⟨hcz13_0, hcz13_1, hcz13_2, hcz13_3, hcz13_4, hcz13_5, hfz13_0, hfz13_1, hfz13_2, hfz13_3, hfz13_4, hfz13_5⟩ := cf6 BK687.out) | (go_at_call 30; (with_reducible refine cY (laganref06_SameShares.calls k _ _ l0_5 _ _ l1_5 t688 _ ?side1 ?side2 ?side3 ?side4 A8.out) ?_); (case side1 => exact yC HR0_5 HB); (case side2 => exact HC0_5.out); (case side3 => exact yC HR1_5 HB); (case side4 => exact HC1_5.out); intro nd))
      go_ret
      exact ⟨sE, sB HB.out⟩
     ·have c7b0 := bF c7
      have c7b1 := bM c7
      obtain rfl := Option.some.inj H
      go_enter Tryz.func35, Tryz.ntmps35
      go_wp2_with (first | ((with_reducible refine gD_ (N := 2) rfl ?_); refine bxE (N := 2) #[.int .i64 a0_0, .int .i64 a0_1, .int .i64 a0_2, .int .i64 a0_3, .int .i64 a0_4, .slice A0_5 l0_5.length c0_5] 59 ?_; intro gb686 hg w14 hbox hb; have BK686 := Aq.mk hbox; have GW686 := yS HB hg; have GE686 := yS HB hg; replace HB := yB HB hb; clear hb hbox hg) | ((with_reducible refine gD_ (N := 3) rfl ?_); refine bxE (N := 3) #[.int .i64 a1_0, .int .i64 a1_1, .int .i64 a1_2, .int .i64 a1_3, .int .i64 a1_4, .slice A1_5 l1_5.length c1_5] 59 ?_; intro gb687 hg w15 hbox hb; have BK687 := Aq.mk hbox; have GW687 := yS HB hg; have GE687 := yS HB hg; have NB686_687 := yN BK686 hg; have NB687_686 := yM BK686 hg; replace BK686 := yb BK686 hb; replace HB := yB HB hb; clear hb hbox hg; have hnb16 := NB686_687.out; have hnc16 := NB687_686.out; obtain ⟨hcz17_0, hcz17_1, hcz17_2, hcz17_3, hcz17_4, hcz17_5, hfz17_0, hfz17_1, hfz17_2, hfz17_3, hfz17_4, hfz17_5⟩ := cf6 BK686.out; obtain ⟨hcz18_0, hcz18_1, hcz18_2, hcz18_3, hcz18_4, hcz18_5, hfz18_0, hfz18_1, hfz18_2, hfz18_3, hfz18_4, hfz18_5⟩ := cf6 BK687.out))
      go_ret
      exact ⟨sE, sB HB.out⟩
    ·have c6b0 := bF c6
     have c6b1 := bM c6
     obtain rfl := Option.some.inj H
     go_enter Tryz.func35, Tryz.ntmps35
     go_wp2_with (first | ((with_reducible refine gD_ (N := 2) rfl ?_); refine bxE (N := 2) #[.int .i64 a0_0, .int .i64 a0_1, .int .i64 a0_2, .int .i64 a0_3, .int .i64 a0_4, .slice A0_5 l0_5.length c0_5] 59 ?_; intro gb686 hg w19 hbox hb; have BK686 := Aq.mk hbox; have GW686 := yS HB hg; have GE686 := yS HB hg; replace HB := yB HB hb; clear hb hbox hg) | ((with_reducible refine gD_ (N := 3) rfl ?_); refine bxE (N := 3) #[.int .i64 a1_0, .int .i64 a1_1, .int .i64 a1_2, .int .i64 a1_3, .int .i64 a1_4, .slice A1_5 l1_5.length c1_5] 59 ?_; intro gb687 hg w20 hbox hb; have BK687 := Aq.mk hbox; have GW687 := yS HB hg; have GE687 := yS HB hg; have NB686_687 := yN BK686 hg; have NB687_686 := yM BK686 hg; replace BK686 := yb BK686 hb; replace HB := yB HB hb; clear hb hbox hg; have hnb21 := NB686_687.out; have hnc21 := NB687_686.out; obtain ⟨hcz22_0, hcz22_1, hcz22_2, hcz22_3, hcz22_4, hcz22_5, hfz22_0, hfz22_1, hfz22_2, hfz22_3, hfz22_4, hfz22_5⟩ := cf6 BK686.out; obtain ⟨hcz23_0, hcz23_1, hcz23_2, hcz23_3, hcz23_4, hcz23_5, hfz23_0, hfz23_1, hfz23_2, hfz23_3, hfz23_4, hfz23_5⟩ := cf6 BK687.out))
     go_ret
     exact ⟨sE, sB HB.out⟩
   ·have c5b0 := bF c5
    have c5b1 := bM c5
    obtain rfl := Option.some.inj H
    go_enter Tryz.func35, Tryz.ntmps35
    go_wp2_with (first | ((with_reducible refine gD_ (N := 2) rfl ?_); refine bxE (N := 2) #[.int .i64 a0_0, .int .i64 a0_1, .int .i64 a0_2, .int .i64 a0_3, .int .i64 a0_4, .slice A0_5 l0_5.length c0_5] 59 ?_; intro gb686 hg w24 hbox hb; have BK686 := Aq.mk hbox; have GW686 := yS HB hg; have GE686 := yS HB hg; replace HB := yB HB hb; clear hb hbox hg) | ((with_reducible refine gD_ (N := 3) rfl ?_); refine bxE (N := 3) #[.int .i64 a1_0, .int .i64 a1_1, .int .i64 a1_2, .int .i64 a1_3, .int .i64 a1_4, .slice A1_5 l1_5.length c1_5] 59 ?_; intro gb687 hg w25 hbox hb; have BK687 := Aq.mk hbox; have GW687 := yS HB hg; have GE687 := yS HB hg; have NB686_687 := yN BK686 hg; have NB687_686 := yM BK686 hg; replace BK686 := yb BK686 hb; replace HB := yB HB hb; clear hb hbox hg; have hnb26 := NB686_687.out; have hnc26 := NB687_686.out; obtain ⟨hcz27_0, hcz27_1, hcz27_2, hcz27_3, hcz27_4, hcz27_5, hfz27_0, hfz27_1, hfz27_2, hfz27_3, hfz27_4, hfz27_5⟩ := cf6 BK686.out; obtain ⟨hcz28_0, hcz28_1, hcz28_2, hcz28_3, hcz28_4, hcz28_5, hfz28_0, hfz28_1, hfz28_2, hfz28_3, hfz28_4, hfz28_5⟩ := cf6 BK687.out))
    go_ret
    exact ⟨sE, sB HB.out⟩
  ·have c4b0 := bF c4
   have c4b1 := bM c4
   obtain rfl := Option.some.inj H
   go_enter Tryz.func35, Tryz.ntmps35
   go_wp2_with (first | ((with_reducible refine gD_ (N := 2) rfl ?_); refine bxE (N := 2) #[.int .i64 a0_0, .int .i64 a0_1, .int .i64 a0_2, .int .i64 a0_3, .int .i64 a0_4, .slice A0_5 l0_5.length c0_5] 59 ?_; intro gb686 hg w29 hbox hb; have BK686 := Aq.mk hbox; have GW686 := yS HB hg; have GE686 := yS HB hg; replace HB := yB HB hb; clear hb hbox hg) | ((with_reducible refine gD_ (N := 3) rfl ?_); refine bxE (N := 3) #[.int .i64 a1_0, .int .i64 a1_1, .int .i64 a1_2, .int .i64 a1_3, .int .i64 a1_4, .slice A1_5 l1_5.length c1_5] 59 ?_; intro gb687 hg w30 hbox hb; have BK687 := Aq.mk hbox; have GW687 := yS HB hg; have GE687 := yS HB hg; have NB686_687 := yN BK686 hg; have NB687_686 := yM BK686 hg; replace BK686 := yb BK686 hb; replace HB := yB HB hb; clear hb hbox hg; have hnb31 := NB686_687.out; have hnc31 := NB687_686.out; obtain ⟨hcz32_0, hcz32_1, hcz32_2, hcz32_3, hcz32_4, hcz32_5, hfz32_0, hfz32_1, hfz32_2, hfz32_3, hfz32_4, hfz32_5⟩ := cf6 BK686.out; obtain ⟨hcz33_0, hcz33_1, hcz33_2, hcz33_3, hcz33_4, hcz33_5, hfz33_0, hfz33_1, hfz33_2, hfz33_3, hfz33_4, hfz33_5⟩ := cf6 BK687.out))
   go_ret
   exact ⟨sE, sB HB.out⟩
 ·have c3b0 := bF c3
  have c3b1 := bM c3
  obtain rfl := Option.some.inj H
  go_enter Tryz.func35, Tryz.ntmps35
  go_wp2_with (first | ((with_reducible refine gD_ (N := 2) rfl ?_); refine bxE (N := 2) #[.int .i64 a0_0, .int .i64 a0_1, .int .i64 a0_2, .int .i64 a0_3, .int .i64 a0_4, .slice A0_5 l0_5.length c0_5] 59 ?_; intro gb686 hg w34 hbox hb; have BK686 := Aq.mk hbox; have GW686 := yS HB hg; have GE686 := yS HB hg; replace HB := yB HB hb; clear hb hbox hg) | ((with_reducible refine gD_ (N := 3) rfl ?_); refine bxE (N := 3) #[.int .i64 a1_0, .int .i64 a1_1, .int .i64 a1_2, .int .i64 a1_3, .int .i64 a1_4, .slice A1_5 l1_5.length c1_5] 59 ?_; intro gb687 hg w35 hbox hb; have BK687 := Aq.mk hbox; have GW687 := yS HB hg; have GE687 := yS HB hg; have NB686_687 := yN BK686 hg; have NB687_686 := yM BK686 hg; replace BK686 := yb BK686 hb; replace HB := yB HB hb; clear hb hbox hg; have hnb36 := NB686_687.out; have hnc36 := NB687_686.out; obtain ⟨hcz37_0, hcz37_1, hcz37_2, hcz37_3, hcz37_4, hcz37_5, hfz37_0, hfz37_1, hfz37_2, hfz37_3, hfz37_4, hfz37_5⟩ := cf6 BK686.out; obtain ⟨hcz38_0, hcz38_1, hcz38_2, hcz38_3, hcz38_4, hcz38_5, hfz38_0, hfz38_1, hfz38_2, hfz38_3, hfz38_4, hfz38_5⟩ := cf6 BK687.out))
  go_ret
  exact ⟨sE, sB HB.out⟩
end
section
attribute [local go_sem] max2_int min2_int max_two min_two max_three min_three max_four min_four
mutual
def laganlaw06_AwardLater.j0 : Nat → List (S26) → List (S39) → Int → ByteArray → Int → Int → List Int → Bool → Option (Bool)
 | 0, _, _, _, _, _, _, _, _ => none
 | k + 1, x0, x1, x2, x3, x4, x5, x6, x49 => if x49 = true then ((laganlaw06_paid.f).bind fun t690 => (some t690)) else ((award_CheckRates.f x0).bind fun bt691 => ((award_CheckSales.f x1).bind fun bt693 => (if bt691.2 = 0 then (laganlaw06_AwardLater.j1 k x0 x1 x2 x3 x4 x5 x6 (bt693.2 != 0)) else (laganlaw06_AwardLater.j1 k x0 x1 x2 x3 x4 x5 x6 true))))
def laganlaw06_AwardLater.j1 : Nat → List (S26) → List (S39) → Int → ByteArray → Int → Int → List Int → Bool → Option (Bool)
 | 0, _, _, _, _, _, _, _, _ => none
 | k + 1, x0, x1, x2, x3, x4, x5, x6, x66 => if x66 = true then ((laganlaw06_paid.f).bind fun t695 => (some t695)) else (laganlaw06_AwardLater.l0 k x0 x1 x2 x3 x4 x5 x6 ([] : List (S26)) 0)
def laganlaw06_AwardLater.l0 : Nat → List (S26) → List (S39) → Int → ByteArray → Int → Int → List Int → List (S26) → Int → Option (Bool)
 | 0, _, _, _, _, _, _, _, _, _ => none
 | k + 1, x0, x1, x2, x3, x4, x5, x6, x19, x20 => if x20 < (x0.length : Int) then (if 0 ≤ x20 then (if ((rd_T26 x0 x20).f1) ≤ x5 then (if x19.length < 1759218604441 then (laganlaw06_AwardLater.l0 k x0 x1 x2 x3 x4 x5 x6 (x19 ++ [(⟨(rd_T26 x0 x20).f0, (rd_T26 x0 x20).f1, (rd_T26 x0 x20).f2, (rd_T26 x0 x20).f3, (⟨(rd_T26 x0 x20).f4.f0, (rd_T26 x0 x20).f4.f1⟩ : S24), (rd_T26 x0 x20).f5, (rd_T26 x0 x20).f6, (rd_T26 x0 x20).f7⟩ : S26)]) (wrap64 (x20 + 1))) else (none)) else (laganlaw06_AwardLater.l0 k x0 x1 x2 x3 x4 x5 x6 x19 (wrap64 (x20 + 1)))) else (none)) else (laganlaw06_AwardLater.l1 k x0 x1 x2 x3 x4 x5 x6 x19 ([] : List (S39)) 0)
def laganlaw06_AwardLater.l1 : Nat → List (S26) → List (S39) → Int → ByteArray → Int → Int → List Int → List (S26) → List (S39) → Int → Option (Bool)
 | 0, _, _, _, _, _, _, _, _, _, _ => none
 | k + 1, x0, x1, x2, x3, x4, x5, x6, x19, x21, x22 => if x22 < (x1.length : Int) then (if 0 ≤ x22 then (if ((rd_T39 x1 x22).f1) ≤ x5 then (if x21.length < 1954687338268 then (laganlaw06_AwardLater.l1 k x0 x1 x2 x3 x4 x5 x6 x19 (x21 ++ [(⟨(rd_T39 x1 x22).f0, (rd_T39 x1 x22).f1, (rd_T39 x1 x22).f2, (rd_T39 x1 x22).f3, (rd_T39 x1 x22).f4, (rd_T39 x1 x22).f5, (rd_T39 x1 x22).f6, (rd_T39 x1 x22).f7, (rd_T39 x1 x22).f8⟩ : S39)]) (wrap64 (x22 + 1))) else (none)) else (laganlaw06_AwardLater.l1 k x0 x1 x2 x3 x4 x5 x6 x19 x21 (wrap64 (x22 + 1)))) else (none)) else ((award_AwardOf.f x0 x1 x2 x3 x4 x5 x6).bind fun bt706 => ((award_AwardOf.f x19 x21 x2 x3 x4 x5 x6).bind fun bt716 => ((laganlaw06_paid.f).bind fun t726 => (if t726 = true then ((laganref06_SameAward.f k bt706.1 bt706.2.1 bt706.2.2.1 bt706.2.2.2.1 bt706.2.2.2.2.1 bt706.2.2.2.2.2.1 bt716.1 bt716.2.1 bt716.2.2.1 bt716.2.2.2.1 bt716.2.2.2.2.1 bt716.2.2.2.2.2.1).bind fun t727 => (if t727 = true then (some (bt706.2.2.2.2.2.2 == bt716.2.2.2.2.2.2)) else (some false))) else (some false)))))
end
def laganlaw06_AwardLater.f (k : Nat) (l0 : List (S26)) (l1 : List (S39)) (a2 : Int) (a3 : ByteArray) (a4 : Int) (a5 : Int) (l6 : List Int) : Option (Bool) := if (l0.length : Int) > 30 then (laganlaw06_AwardLater.j0 k l0 l1 a2 a3 a4 a5 l6 true) else (if (l1.length : Int) > 30 then (laganlaw06_AwardLater.j0 k l0 l1 a2 a3 a4 a5 l6 true) else ((laganlaw06_few.f k l0).bind fun t689 => (if t689 = true then (if (a3.size : Int) > 100 then (laganlaw06_AwardLater.j0 k l0 l1 a2 a3 a4 a5 l6 true) else (laganlaw06_AwardLater.j0 k l0 l1 a2 a3 a4 a5 l6 (decide ((l6.length : Int) > 60)))) else (laganlaw06_AwardLater.j0 k l0 l1 a2 a3 a4 a5 l6 true))))
set_option maxHeartbeats 8000000 in
set_option maxRecDepth 100000 in
theorem laganlaw06_AwardLater.calls (k : Nat) (A0 : Option Addr) (c0 : Nat) (l0 : List (S26)) (A1 : Option Addr) (c1 : Nat) (l1 : List (S39)) (a2 : Int) (a3 : ByteArray) (a4 : Int) (a5 : Int) (A6 : Option Addr) (c6 : Nat) (l6 : List Int) (r : Bool) (w : World) (hr_ : Aq (r = true)) (hr0 : Kd.C k26 w A0 l0.length l0) (hc0 : l0.length ≤ c0) (hr1 : Kd.C k39 w A1 l1.length l1) (hc1 : l1.length ≤ c1) (hr6 : Kd.C (Kd.int .i64) w A6 l6.length l6) (hc6 : l6.length ≤ c6) (h : laganlaw06_AwardLater.f k l0 l1 a2 a3 a4 a5 l6 = some r) :
  Calls Tryz.prog 7 #[.slice A0 l0.length c0, .slice A1 l1.length c1, .int .i64 a2, .string a3, .int .i64 a4, .int .i64 a5, .slice A6 l6.length c6] w fun e w' => e = .returned (.bool r) ∧ Below w.heap.size w w' := by
 have hu26 := Tryz.underlying26
 have hu39 := Tryz.underlying39
 have hu59 := Tryz.underlying59
 have HR0 := Aq.mk hr0
 have HC0 := Aq.mk hc0
 clear hr0 hc0
 have HR1 := Aq.mk hr1
 have HC1 := Aq.mk hc1
 clear hr1 hc1
 have HR6 := Aq.mk hr6
 have HC6 := Aq.mk hc6
 clear hr6 hc6
 have HB := Aq.mk (Below.refl w.heap.size w)
 have H : (if (l0.length : Int) > 30 then (laganlaw06_AwardLater.j0 k l0 l1 a2 a3 a4 a5 l6 true) else (if (l1.length : Int) > 30 then (laganlaw06_AwardLater.j0 k l0 l1 a2 a3 a4 a5 l6 true) else ((laganlaw06_few.f k l0).bind fun t689 => (if t689 = true then (if (a3.size : Int) > 100 then (laganlaw06_AwardLater.j0 k l0 l1 a2 a3 a4 a5 l6 true) else (laganlaw06_AwardLater.j0 k l0 l1 a2 a3 a4 a5 l6 (decide ((l6.length : Int) > 60)))) else (laganlaw06_AwardLater.j0 k l0 l1 a2 a3 a4 a5 l6 true))))) = some r := h
 clear h
 have HC8 := Aq.mk H
 clear H
 go_enter Tryz.func7, Tryz.ntmps7
 go_upto_region 1 with (fail)
 go_cut [49] (fun v49 wc => ∃ (kq : Nat) (x49_7 : Bool), v49 = .bool x49_7 ∧ Aq (laganlaw06_AwardLater.j0 kq l0 l1 a2 a3 a4 a5 l6 x49_7 = some r) ∧ Aq (kq ≤ k) ∧ Aq (Below w.heap.size w wc))
 case first =>
  have H := HC8.out
  clear HC8
  replace H := oI H; rcases H with ⟨c9, H⟩ | ⟨c9, H⟩
  ·have c9b0 : decide (30 < (l0.length : Int)) = true := decide_eq_true c9
   have c9b1 : decide (30 < l0.length) = true := decide_eq_true (by omega)
   clear c9
   (first | rw [c9b0] | (simp only [i64_w, i32_w]; rw [c9b0]) | skip)
   have H' := Aq.mk H
   clear H
   go_wp2
   go_meet
   case rel => exact ⟨_, (true), sS, H', ⟨by first | omega | exact Nat.le_refl _⟩, ⟨sB HB.out⟩⟩
  ·have c9b0 : decide (30 < (l0.length : Int)) = false := decide_eq_false c9
   have c9b1 : decide (30 < l0.length) = false := decide_eq_false (by omega)
   clear c9
   (first | rw [c9b0] | (simp only [i64_w, i32_w]; rw [c9b0]) | skip)
   replace H := oI H; rcases H with ⟨c10, H⟩ | ⟨c10, H⟩
   ·have c10b0 : decide (30 < (l1.length : Int)) = true := decide_eq_true c10
    have c10b1 : decide (30 < l1.length) = true := decide_eq_true (by omega)
    clear c10
    have H' := Aq.mk H
    clear H
    go_wp2
    go_meet
    case rel => exact ⟨_, (true), sS, H', ⟨by first | omega | exact Nat.le_refl _⟩, ⟨sB HB.out⟩⟩
   ·have c10b0 : decide (30 < (l1.length : Int)) = false := decide_eq_false c10
    have c10b1 : decide (30 < l1.length) = false := decide_eq_false (by omega)
    clear c10
    replace H := oB H; obtain ⟨t689, A11, H⟩ := H
    replace H := oT H; rcases H with ⟨rfl, H⟩ | ⟨rfl, H⟩
    ·replace H := oI H; rcases H with ⟨c13, H⟩ | ⟨c13, H⟩
     ·have c13b0 : decide (100 < (a3.size : Int)) = true := decide_eq_true c13
      have c13b1 : decide (100 < a3.size) = true := decide_eq_true (by omega)
      clear c13
      have H' := Aq.mk H
      clear H
      go_wp2_with (first | (go_at_call 15; (with_reducible refine cY (laganlaw06_few.calls k _ _ l0 true _ ?side1 ?side2 A11.out) ?_); (case side1 => exact yC HR0 HB); (case side2 => exact HC0.out); intro nd))
      go_meet
      case rel => exact ⟨_, (true), sS, H', ⟨by first | omega | exact Nat.le_refl _⟩, ⟨sB HB.out⟩⟩
     ·have c13b0 : decide (100 < (a3.size : Int)) = false := decide_eq_false c13
      have c13b1 : decide (100 < a3.size) = false := decide_eq_false (by omega)
      clear c13
      have H' := Aq.mk H
      clear H
      go_wp2_with (first | (go_at_call 15; (with_reducible refine cY (laganlaw06_few.calls k _ _ l0 true _ ?side1 ?side2 A11.out) ?_); (case side1 => exact yC HR0 HB); (case side2 => exact HC0.out); intro nd))
      go_meet
      case rel => exact ⟨_, (decide ((l6.length : Int) > 60)), sS, H', ⟨by first | omega | exact Nat.le_refl _⟩, ⟨sB HB.out⟩⟩
    ·have H' := Aq.mk H
     clear H
     go_wp2_with (first | (go_at_call 15; (with_reducible refine cY (laganlaw06_few.calls k _ _ l0 false _ ?side1 ?side2 A11.out) ?_); (case side1 => exact yC HR0 HB); (case side2 => exact HC0.out); intro nd))
     go_meet
     case rel => exact ⟨_, (true), sS, H', ⟨by first | omega | exact Nat.le_refl _⟩, ⟨sB HB.out⟩⟩
 case rest =>
  clear HC8
  try clear c1
  try clear c6
  obtain ⟨kq, x49_7, rfl, HA, HJ7, HB⟩ := hcut
  cases kq with
  | zero => exact absurd HA.out (by simp [laganlaw06_AwardLater.j0])
  | succ kj7 =>
   have H := HA.out
   clear HA
   simp only [laganlaw06_AwardLater.j0] at H
   replace H := oT H; rcases H with ⟨rfl, H⟩ | ⟨rfl, H⟩
   ·replace H := oB H; obtain ⟨t690, A15, H⟩ := H
    obtain rfl := Option.some.inj H
    go_wp2_with (first | ((with_reducible refine gD_ (N := 50) rfl ?_); refine gX 50 rfl #[] (laganlaw06_paid.calls  t690 _ A15.out) ?_; intro w16 hb; replace HB := yB HB hb; try clear hb))
    go_ret
    exact ⟨sE, sB HB.out⟩
   ·replace H := oB H; obtain ⟨⟨t691, t692⟩, A17, H⟩ := H
    dsimp only at H
    replace H := oB H; obtain ⟨⟨t693, t694⟩, A18, H⟩ := H
    dsimp only at H
    have HC19 := Aq.mk H
    clear H
    go_upto_region 5 with (first | ((with_reducible refine gD_ (N := 53) rfl ?_); refine gX 53 rfl #[.slice A0 l0.length c0] (award_CheckRates.calls _ _ l0 t691 t692 _ (yC HR0 HB) HC0.out A17.out) ?_; intro w20 hb; replace HB := yB HB hb; try clear hb) | ((with_reducible refine gD_ (N := 58) rfl ?_); refine gX 58 rfl #[.slice A1 l1.length c1] (award_CheckSales.calls _ _ l1 t693 t694 _ (yC HR1 HB) HC1.out A18.out) ?_; intro w21 hb; replace HB := yB HB hb; try clear hb))
    (try simp only [Act.put, List.setIfInBounds_toArray, List.set_cons_zero, List.set_cons_succ])
    go_cut [66] (fun v66 wc => ∃ (kq : Nat) (x66_18 : Bool), v66 = .bool x66_18 ∧ Aq (laganlaw06_AwardLater.j1 kq l0 l1 a2 a3 a4 a5 l6 x66_18 = some r) ∧ Aq (kq ≤ kj7) ∧ Aq (Below w.heap.size w wc))
    case first =>
     have H := HC19.out
     clear HC19
     replace H := oI H; rcases H with ⟨c22, H⟩ | ⟨c22, H⟩
     ·have c22b0 := bT c22
      have c22b1 := bN c22
      clear c22
      (first | rw [c22b0] | (simp only [i64_w, i32_w]; rw [c22b0]) | skip)
      have H' := Aq.mk H
      clear H
      go_wp2
      go_meet
      case rel => exact ⟨_, ((t694 != 0)), sS, H', ⟨by have := HJ7.out; first | omega | exact Nat.le_refl _⟩, ⟨sB HB.out⟩⟩
     ·have c22b0 := bF c22
      have c22b1 := bM c22
      (first | rw [c22b0] | (simp only [i64_w, i32_w]; rw [c22b0]) | skip)
      have H' := Aq.mk H
      clear H
      go_wp2
      go_meet
      case rel => exact ⟨_, (true), sS, H', ⟨by have := HJ7.out; first | omega | exact Nat.le_refl _⟩, ⟨sB HB.out⟩⟩
    case rest =>
     clear HC19
     try clear c1
     try clear c6
     obtain ⟨kq, x66_18, rfl, HA, HJ18, HB⟩ := hcut
     cases kq with
     | zero => exact absurd HA.out (by simp [laganlaw06_AwardLater.j1])
     | succ kj18 =>
      have H := HA.out
      clear HA
      simp only [laganlaw06_AwardLater.j1] at H
      replace H := oT H; rcases H with ⟨rfl, H⟩ | ⟨rfl, H⟩
      ·replace H := oB H; obtain ⟨t695, A24, H⟩ := H
       obtain rfl := Option.some.inj H
       go_wp2_with (first | ((with_reducible refine gD_ (N := 67) rfl ?_); refine gX 67 rfl #[] (laganlaw06_paid.calls  t695 _ A24.out) ?_; intro w25 hb; replace HB := yB HB hb; try clear hb))
       go_ret
       exact ⟨sE, sB HB.out⟩
      ·have H' := Aq.mk H
       clear H
       go_wp2
       go_loopg [19, 20] kj18 (fun kq v19 v20 w' => ∃ (x19_3 : List (S26)) (x20_3 : Int), v20 = .int .i64 x20_3 ∧ Aq (laganlaw06_AwardLater.l0 kq l0 l1 a2 a3 a4 a5 l6 x19_3 x20_3 = some r) ∧ Aq (kq ≤ kj18) ∧ Aq (Kd.R k26 26 w' w.heap.size (fun _ => True) v19 x19_3) ∧ Aq (Below w.heap.size w w'))
       case atStart => exact ⟨(([] : List (S26))), (0), sS, H', ⟨Nat.le_refl _⟩, ⟨by first | exact Kd.R_nil _ _ _ _ _ | exact Kd.N_nil _ _ _ _ _ | exact Kd.V_nil _ _ _ _ _ | exact Kd.Q_nil _ _ _ _ _ | exact Kd.S_nil _ _ _ _ _⟩, ⟨sB HB.out⟩⟩
       case round =>
        clear H'
        try clear c1
        try clear c6
        obtain ⟨x19_3, x20_3, rfl, HA, HK3, HO_19, HB⟩ := hrel
        cases gk with
        | zero => exact absurd HA.out (by simp [laganlaw06_AwardLater.l0])
        | succ k3 =>
         have H := HA.out
         clear HA
         simp only [laganlaw06_AwardLater.l0] at H
         replace H := oI H; rcases H with ⟨c26, H⟩ | ⟨c26, H⟩
         ·have c26b0 := dT c26
          clear c26
          replace H := oI H; rcases H with ⟨c27, H⟩ | ⟨c27, H⟩
          ·have c27b0 := dT c27
           clear c27
           replace H := oI H; rcases H with ⟨c28, H⟩ | ⟨c28, H⟩
           ·have c28b0 := dT c28
            clear c28
            replace H := oI H; rcases H with ⟨c29, H⟩ | ⟨c29, H⟩
            ·have LMc29 := Aq.mk c29
             clear c29
             obtain ⟨y698, hy698⟩ : ∃ y_ : List (S26), y_ = (x19_3 ++ [(⟨(rd_T26 l0 x20_3).f0, (rd_T26 l0 x20_3).f1, (rd_T26 l0 x20_3).f2, (rd_T26 l0 x20_3).f3, (⟨(rd_T26 l0 x20_3).f4.f0, (rd_T26 l0 x20_3).f4.f1⟩ : S24), (rd_T26 l0 x20_3).f5, (rd_T26 l0 x20_3).f6, (rd_T26 l0 x20_3).f7⟩ : S26)]) := ⟨_, rfl⟩
             replace H : (laganlaw06_AwardLater.l0 k3 l0 l1 a2 a3 a4 a5 l6 y698 (wrap64 (x20_3 + 1))) = some r := by first | (rw [hy698]; with_reducible exact H) | (have H2_ := (Option.bind_some _ _).symm.trans H; rw [hy698]; with_reducible exact H2_) | (have H2_ := (Option.bind_some _ _).symm.trans H; with_reducible exact H2_) | with_reducible exact H | (rw [hy698]; exact H) | exact H
             have Ny698 := Aq.mk hy698
             clear hy698
             have H' := Aq.mk H
             clear H
             have p696 : 0 ≤ (x20_3 : Int) := oA
             have q696 : x20_3 < (l0.length : Int) := oA
             obtain ⟨ad696, e696, hx696_0, hx696_1, hx696_2, hx696_3, hx696_4, hx696_5, hx696_6, hx696_7, hx696_8⟩ := at_T26 HR0.out x20_3 p696 q696
             cases e696
             replace hx696_0 := mv HB hx696_0
             replace hx696_1 := mv HB hx696_1
             replace hx696_2 := mv HB hx696_2
             replace hx696_3 := mv HB hx696_3
             replace hx696_4 := mv HB hx696_4
             replace hx696_5 := mv HB hx696_5
             replace hx696_6 := mv HB hx696_6
             replace hx696_7 := mv HB hx696_7
             replace hx696_8 := mv HB hx696_8
             replace p696 := eq_true p696
             replace q696 := eq_true q696
             go_wp2_with (first | ((with_reducible refine gate_builtin (b := .append) (xs := #[.tmp 81, .tmp 86]) rfl ?_); (try (refine gate_guard (by rfl) ?_; dsimp only)); at_builtin; refine Kd.R_append k26 (w0 := w) w.heap.size rfl (.tmp 81) (.tmp 86) 22 26 (.agg #[(.int .i64 0), (.int .i64 0), (.int .i64 0), (.string ⟨#[]⟩), (.int .i64 0), (.int .i64 0), (.int .i64 0), (.int .i64 0), (.int .i64 0)]) 80 rfl Tryz.underlying22 info26 rfl (by decide) (by omega) u19 x19_3 (⟨(rd_T26 l0 x20_3).f0, (rd_T26 l0 x20_3).f1, (rd_T26 l0 x20_3).f2, (rd_T26 l0 x20_3).f3, (⟨(rd_T26 l0 x20_3).f4.f0, (rd_T26 l0 x20_3).f4.f1⟩ : S24), (rd_T26 l0 x20_3).f5, (rd_T26 l0 x20_3).f6, (rd_T26 l0 x20_3).f7⟩ : S26) [.int .i64 ((rd_T26 l0 x20_3).f0), .int .i64 ((rd_T26 l0 x20_3).f1), .int .i64 ((rd_T26 l0 x20_3).f2), .string ((rd_T26 l0 x20_3).f3), .int .i64 ((rd_T26 l0 x20_3).f4.f0), .int .i64 ((rd_T26 l0 x20_3).f4.f1), .int .i64 ((rd_T26 l0 x20_3).f5), .int .i64 ((rd_T26 l0 x20_3).f6), .int .i64 ((rd_T26 l0 x20_3).f7)] (fun _ => True) (fun _ => False) rfl rfl ?aP (fun _ hk => hk.elim) ?aF ?aO ?aB ?aS ?aL ?_; (case aP => exact k26_mkM _ _ _ (⟨(rd_T26 l0 x20_3).f0, (rd_T26 l0 x20_3).f1, (rd_T26 l0 x20_3).f2, (rd_T26 l0 x20_3).f3, (⟨(rd_T26 l0 x20_3).f4.f0, (rd_T26 l0 x20_3).f4.f1⟩ : S24), (rd_T26 l0 x20_3).f5, (rd_T26 l0 x20_3).f6, (rd_T26 l0 x20_3).f7⟩ : S26)); (case aB => exact (sB HB.out)); (case aF => exact (fun _ _ => trivial)); (case aO => exact (sR HO_19.out)); (case aS => exact (bZ_ (sB HB.out))); (case aL => have := LMc29.out; omega); intro v699 w30 ho hb hg hat; rw [← Ny698.out] at ho; have HO700 := Aq.mk ho; replace HB := Aq.mk hb; clear HO_19; clear ho hb hg hat))
             go_roundg k3
             case measure => have := HJ7.out; have := HJ18.out; have := HK3.out; omega
             case rel => exact ⟨(y698), (wrap64 (x20_3 + 1)), sS, H', ⟨by have := HJ7.out; have := HJ18.out; have := HK3.out; omega⟩, ⟨sR HO700.out⟩, ⟨sB HB.out⟩⟩
            ·exact absurd H (by simp)
           ·have c28b0 := dF c28
            clear c28
            have H' := Aq.mk H
            clear H
            have p696 : 0 ≤ (x20_3 : Int) := oA
            have q696 : x20_3 < (l0.length : Int) := oA
            obtain ⟨ad696, e696, hx696_0, hx696_1, hx696_2, hx696_3, hx696_4, hx696_5, hx696_6, hx696_7, hx696_8⟩ := at_T26 HR0.out x20_3 p696 q696
            cases e696
            replace hx696_0 := mv HB hx696_0
            replace hx696_1 := mv HB hx696_1
            replace hx696_2 := mv HB hx696_2
            replace hx696_3 := mv HB hx696_3
            replace hx696_4 := mv HB hx696_4
            replace hx696_5 := mv HB hx696_5
            replace hx696_6 := mv HB hx696_6
            replace hx696_7 := mv HB hx696_7
            replace hx696_8 := mv HB hx696_8
            replace p696 := eq_true p696
            replace q696 := eq_true q696
            go_wp2
            go_roundg k3
            case measure => have := HJ7.out; have := HJ18.out; have := HK3.out; omega
            case rel => exact ⟨(x19_3), (wrap64 (x20_3 + 1)), sS, H', ⟨by have := HJ7.out; have := HJ18.out; have := HK3.out; omega⟩, ⟨sR HO_19.out⟩, ⟨sB HB.out⟩⟩
          ·exact absurd H (by simp)
         ·have c26b0 := dF c26
          clear c26
          have H' := Aq.mk H
          clear H
          go_wp2
          go_loopg [21, 22] k3 (fun kq v21 v22 w' => ∃ (x21_4 : List (S39)) (x22_4 : Int), v22 = .int .i64 x22_4 ∧ Aq (laganlaw06_AwardLater.l1 kq l0 l1 a2 a3 a4 a5 l6 x19_3 x21_4 x22_4 = some r) ∧ Aq (kq ≤ k3) ∧ Aq (Kd.R k26 26 w' w.heap.size (fun _ => True) u19 x19_3) ∧ Aq (Kd.R k39 39 w' w.heap.size (fun _ => True) v21 x21_4) ∧ Aq (Below w.heap.size w w'))
          case atStart => exact ⟨(([] : List (S39))), (0), sS, H', ⟨Nat.le_refl _⟩, ⟨sR HO_19.out⟩, ⟨by first | exact Kd.R_nil _ _ _ _ _ | exact Kd.N_nil _ _ _ _ _ | exact Kd.V_nil _ _ _ _ _ | exact Kd.Q_nil _ _ _ _ _ | exact Kd.S_nil _ _ _ _ _⟩, ⟨sB HB.out⟩⟩
          case round =>
           clear H'
           try clear c1
           try clear c6
           try clear c26
           try clear c26b0
           obtain ⟨x21_4, x22_4, rfl, HA, HK4, HO_19, HO_21, HB⟩ := hrel
           cases gk with
           | zero => exact absurd HA.out (by simp [laganlaw06_AwardLater.l1])
           | succ k4 =>
            have H := HA.out
            clear HA
            simp only [laganlaw06_AwardLater.l1] at H
            replace H := oI H; rcases H with ⟨c31, H⟩ | ⟨c31, H⟩
            ·have c31b0 := dT c31
             clear c31
             replace H := oI H; rcases H with ⟨c32, H⟩ | ⟨c32, H⟩
             ·have c32b0 := dT c32
              clear c32
              replace H := oI H; rcases H with ⟨c33, H⟩ | ⟨c33, H⟩
              ·have c33b0 := dT c33
               clear c33
               replace H := oI H; rcases H with ⟨c34, H⟩ | ⟨c34, H⟩
               ·have LMc34 := Aq.mk c34
                clear c34
                obtain ⟨y703, hy703⟩ : ∃ y_ : List (S39), y_ = (x21_4 ++ [(⟨(rd_T39 l1 x22_4).f0, (rd_T39 l1 x22_4).f1, (rd_T39 l1 x22_4).f2, (rd_T39 l1 x22_4).f3, (rd_T39 l1 x22_4).f4, (rd_T39 l1 x22_4).f5, (rd_T39 l1 x22_4).f6, (rd_T39 l1 x22_4).f7, (rd_T39 l1 x22_4).f8⟩ : S39)]) := ⟨_, rfl⟩
                replace H : (laganlaw06_AwardLater.l1 k4 l0 l1 a2 a3 a4 a5 l6 x19_3 y703 (wrap64 (x22_4 + 1))) = some r := by first | (rw [hy703]; with_reducible exact H) | (have H2_ := (Option.bind_some _ _).symm.trans H; rw [hy703]; with_reducible exact H2_) | (have H2_ := (Option.bind_some _ _).symm.trans H; with_reducible exact H2_) | with_reducible exact H | (rw [hy703]; exact H) | exact H
                have Ny703 := Aq.mk hy703
                clear hy703
                have H' := Aq.mk H
                clear H
                have p701 : 0 ≤ (x22_4 : Int) := oA
                have q701 : x22_4 < (l1.length : Int) := oA
                obtain ⟨ad701, e701, hx701_0, hx701_1, hx701_2, hx701_3, hx701_4, hx701_5, hx701_6, hx701_7, hx701_8⟩ := at_T39 HR1.out x22_4 p701 q701
                cases e701
                replace hx701_0 := mv HB hx701_0
                replace hx701_1 := mv HB hx701_1
                replace hx701_2 := mv HB hx701_2
                replace hx701_3 := mv HB hx701_3
                replace hx701_4 := mv HB hx701_4
                replace hx701_5 := mv HB hx701_5
                replace hx701_6 := mv HB hx701_6
                replace hx701_7 := mv HB hx701_7
                replace hx701_8 := mv HB hx701_8
                replace p701 := eq_true p701
                replace q701 := eq_true q701
                go_wp2_with (first | ((with_reducible refine gate_builtin (b := .append) (xs := #[.tmp 101, .tmp 106]) rfl ?_); (try (refine gate_guard (by rfl) ?_; dsimp only)); at_builtin; refine Kd.R_append k39 (w0 := w) w.heap.size rfl (.tmp 101) (.tmp 106) 54 39 (.agg #[(.int .i64 0), (.int .i64 0), (.int .i64 0), (.int .i64 0), (.int .i64 0), (.int .i64 0), (.int .i64 0), (.int .i64 0), (.int .i64 0)]) 72 rfl Tryz.underlying54 info39 rfl (by decide) (by omega) u21 x21_4 (⟨(rd_T39 l1 x22_4).f0, (rd_T39 l1 x22_4).f1, (rd_T39 l1 x22_4).f2, (rd_T39 l1 x22_4).f3, (rd_T39 l1 x22_4).f4, (rd_T39 l1 x22_4).f5, (rd_T39 l1 x22_4).f6, (rd_T39 l1 x22_4).f7, (rd_T39 l1 x22_4).f8⟩ : S39) [.int .i64 ((rd_T39 l1 x22_4).f0), .int .i64 ((rd_T39 l1 x22_4).f1), .int .i64 ((rd_T39 l1 x22_4).f2), .int .i64 ((rd_T39 l1 x22_4).f3), .int .i64 ((rd_T39 l1 x22_4).f4), .int .i64 ((rd_T39 l1 x22_4).f5), .int .i64 ((rd_T39 l1 x22_4).f6), .int .i64 ((rd_T39 l1 x22_4).f7), .int .i64 ((rd_T39 l1 x22_4).f8)] (fun _ => True) (fun _ => False) rfl rfl ?aP (fun _ hk => hk.elim) ?aF ?aO ?aB ?aS ?aL ?_; (case aP => exact k39_mkM _ _ _ (⟨(rd_T39 l1 x22_4).f0, (rd_T39 l1 x22_4).f1, (rd_T39 l1 x22_4).f2, (rd_T39 l1 x22_4).f3, (rd_T39 l1 x22_4).f4, (rd_T39 l1 x22_4).f5, (rd_T39 l1 x22_4).f6, (rd_T39 l1 x22_4).f7, (rd_T39 l1 x22_4).f8⟩ : S39)); (case aB => exact (sB HB.out)); (case aF => exact (fun _ _ => trivial)); (case aO => exact (sR HO_21.out)); (case aS => exact (bZ_ (sB HB.out))); (case aL => have := LMc34.out; omega); intro v704 w35 ho hb hg hat; rw [← Ny703.out] at ho; have HO705 := Aq.mk ho; replace HO_19 := Aq.mk (Kd.R_over' (sR HO_19.out) (Kd.R_typed (sR HO_21.out)) (by decide) hg); replace HB := Aq.mk hb; clear HO_21; clear ho hb hg hat))
                go_roundg k4
                case measure => have := HJ7.out; have := HJ18.out; have := HK3.out; have := HK4.out; omega
                case rel => exact ⟨(y703), (wrap64 (x22_4 + 1)), sS, H', ⟨by have := HJ7.out; have := HJ18.out; have := HK3.out; have := HK4.out; omega⟩, ⟨sR HO_19.out⟩, ⟨sR HO705.out⟩, ⟨sB HB.out⟩⟩
               ·exact absurd H (by simp)
              ·have c33b0 := dF c33
               clear c33
               have H' := Aq.mk H
               clear H
               have p701 : 0 ≤ (x22_4 : Int) := oA
               have q701 : x22_4 < (l1.length : Int) := oA
               obtain ⟨ad701, e701, hx701_0, hx701_1, hx701_2, hx701_3, hx701_4, hx701_5, hx701_6, hx701_7, hx701_8⟩ := at_T39 HR1.out x22_4 p701 q701
               cases e701
               replace hx701_0 := mv HB hx701_0
               replace hx701_1 := mv HB hx701_1
               replace hx701_2 := mv HB hx701_2
               replace hx701_3 := mv HB hx701_3
               replace hx701_4 := mv HB hx701_4
               replace hx701_5 := mv HB hx701_5
               replace hx701_6 := mv HB hx701_6
               replace hx701_7 := mv HB hx701_7
               replace hx701_8 := mv HB hx701_8
               replace p701 := eq_true p701
               replace q701 := eq_true q701
               go_wp2
               go_roundg k4
               case measure => have := HJ7.out; have := HJ18.out; have := HK3.out; have := HK4.out; omega
               case rel => exact ⟨(x21_4), (wrap64 (x22_4 + 1)), sS, H', ⟨by have := HJ7.out; have := HJ18.out; have := HK3.out; have := HK4.out; omega⟩, ⟨sR HO_19.out⟩, ⟨sR HO_21.out⟩, ⟨sB HB.out⟩⟩
             ·exact absurd H (by simp)
            ·have c31b0 := dF c31
             clear c31
             replace H := oB H; obtain ⟨⟨t706, t707, t708, t709, t710, t711, t714⟩, A36, H⟩ := H
             dsimp only at H
             replace H := oB H; obtain ⟨⟨t716, t717, t718, t719, t720, t721, t724⟩, A37, H⟩ := H
             dsimp only at H
             replace H := oB H; obtain ⟨t726, A38, H⟩ := H
             replace H := oT H; rcases H with ⟨rfl, H⟩ | ⟨rfl, H⟩
             ·replace H := oB H; obtain ⟨t727, A40, H⟩ := H
              replace H := oT H; rcases H with ⟨rfl, H⟩ | ⟨rfl, H⟩
              ·obtain rfl := Option.some.inj H
               go_wp2_with (first | ((with_reducible refine gC_ (f := 34) rfl ?_); refine gL (some 116) #[.slice A0 l0.length c0, .slice A1 l1.length c1, .int .i64 a2, .string a3, .int .i64 a4, .int .i64 a5, .slice A6 l6.length c6] ?_; (with_reducible refine (award_AwardOf.calls _ _ l0 _ _ l1 a2 a3 a4 a5 _ _ l6 t706 t707 t708 t709 t710 t711 t714 _ ?side1 ?side2 ?side3 ?side4 ?side5 ?side6 A36.out).mono ?_); (case side1 => exact yC HR0 HB); (case side2 => exact HC0.out); (case side3 => exact yC HR1 HB); (case side4 => exact HC1.out); (case side5 => exact yC HR6 HB); (case side6 => exact HC6.out); rintro e w42 ⟨v712, rfl, ho0, hb⟩; refine ⟨_, rfl, ?_⟩; have HO713 := Aq.mk (Kd.R_lower ho0 (bZ_ (sB HB.out))); replace HO_19 := yR HO_19 hb; replace HO_21 := yR HO_21 hb; replace HB := yB HB hb; try clear hb; (try clear ho0)) | ((with_reducible refine gD_ (N := 23) rfl ?_); (try (refine gate_guard (by rfl) ?_; dsimp only)); refine bxE (N := 23) #[.int .i64 0, .int .i64 0, .int .i64 0, .int .i64 0, .int .i64 0, .slice none 0 0] 59 ?_; intro gb715 hg w43 hbox hb; have BK715 := Aq.mk hbox; have GW715 := yS HB hg; have GE715 := yS HB hg; replace HO_19 := yR HO_19 hb; replace HO_21 := yR HO_21 hb; replace HO713 := yR HO713 hb; replace HB := yB HB hb; clear hb hbox hg; obtain ⟨hcz44_0, hcz44_1, hcz44_2, hcz44_3, hcz44_4, hcz44_5, hfz44_0, hfz44_1, hfz44_2, hfz44_3, hfz44_4, hfz44_5⟩ := cf6 BK715.out; obtain ⟨Ao45, co45, eo45⟩ := Kd.R_slice HO713.out; subst eo45; obtain ⟨Ao46, co46, eo46⟩ := Kd.R_slice HO_19.out; subst eo46; obtain ⟨Ao47, co47, eo47⟩ := Kd.R_slice HO_21.out; subst eo47) | ((with_reducible refine gC_ (f := 34) rfl ?_); refine gL (some 127) #[.slice Ao46 x19_3.length co46, .slice Ao47 x21_4.length co47, .int .i64 a2, .string a3, .int .i64 a4, .int .i64 a5, .slice A6 l6.length c6] ?_; (with_reducible refine (award_AwardOf.calls _ _ x19_3 _ _ x21_4 a2 a3 a4 a5 _ _ l6 t716 t717 t718 t719 t720 t721 t724 _ ?side1 ?side2 ?side3 ?side4 ?side5 ?side6 A37.out).mono ?_); (case side1 => refine (Kd.R_reads' (e := 26) (base := w.heap.size) (ok := fun k_ => True) (n := x19_3.length) (c := co46) ?_).2.2; exact (by refine wR ?_; exact (Kd.R_mono (rf6 (Kd.R_types HO_19.out BK715.out (by decide))) (fun _ h_ => h_.1)))); (case side2 => exact (Kd.R_reads' HO_19.out).2.1); (case side3 => refine (Kd.R_reads' (e := 39) (base := w.heap.size) (ok := fun k_ => True) (n := x21_4.length) (c := co47) ?_).2.2; exact (by refine wR ?_; exact (Kd.R_mono (rf6 (Kd.R_types HO_21.out BK715.out (by decide))) (fun _ h_ => h_.1)))); (case side4 => exact (Kd.R_reads' HO_21.out).2.1); (case side5 => exact Kd.C_below HR6.out (sB HB.out)); (case side6 => exact HC6.out); rintro e w48 ⟨v722, rfl, ho0, hb⟩; refine ⟨_, rfl, ?_⟩; have HO723 := Aq.mk (Kd.R_lower (Kd.R_new' ho0 (Kd.R_lt (by refine wR ?_; exact (Kd.R_mono (rf6 (Kd.R_types HO713.out BK715.out (by decide))) (fun _ h_ => h_.1))))) (bZ_ (sB HB.out))); replace HO_19 := Aq.mk (Kd.R_below (by refine wR ?_; exact (Kd.R_mono (rf6 (Kd.R_types HO_19.out BK715.out (by decide))) (fun _ h_ => h_.1))) hb); replace HO_21 := Aq.mk (Kd.R_below (by refine wR ?_; exact (Kd.R_mono (rf6 (Kd.R_types HO_21.out BK715.out (by decide))) (fun _ h_ => h_.1))) hb); replace HO713 := Aq.mk (Kd.R_elder' (by refine wR ?_; exact (Kd.R_mono (rf6 (Kd.R_types HO713.out BK715.out (by decide))) (fun _ h_ => h_.1))) (Kd.R_base ho0) hb); replace BK715 := yT6 BK715 hb; replace HB := yB HB hb; try clear hb; (try clear ho0)) | ((with_reducible refine gD_ (N := 25) rfl ?_); (try (refine gate_guard (by rfl) ?_; dsimp only)); refine bxE (N := 25) #[.int .i64 0, .int .i64 0, .int .i64 0, .int .i64 0, .int .i64 0, .slice none 0 0] 59 ?_; intro gb725 hg w49 hbox hb; have BK725 := Aq.mk hbox; have GW725 := yS HB hg; have GE725 := yS HB hg; have NB715_725 := yN BK715 hg; have NB725_715 := yM BK715 hg; replace HO_19 := yR HO_19 hb; replace HO_21 := yR HO_21 hb; replace HO713 := yR HO713 hb; replace HO723 := yR HO723 hb; replace BK715 := yb BK715 hb; replace HB := yB HB hb; clear hb hbox hg; have hnb50 := NB725_715.out; have hnc50 := NB715_725.out; obtain ⟨hcz51_0, hcz51_1, hcz51_2, hcz51_3, hcz51_4, hcz51_5, hfz51_0, hfz51_1, hfz51_2, hfz51_3, hfz51_4, hfz51_5⟩ := cf6 BK725.out; obtain ⟨Ao52, co52, eo52⟩ := Kd.R_slice HO723.out; subst eo52) | ((with_reducible refine gD_ (N := 130) rfl ?_); refine gX 130 rfl #[] (laganlaw06_paid.calls  true _ A38.out) ?_; intro w53 hb; replace HO_19 := Aq.mk (Kd.R_below (by refine wR ?_; exact (Kd.R_mono (rf6 (Kd.R_types HO_19.out BK725.out (by decide))) (fun _ h_ => h_.1))) hb); replace HO_21 := Aq.mk (Kd.R_below (by refine wR ?_; exact (Kd.R_mono (rf6 (Kd.R_types HO_21.out BK725.out (by decide))) (fun _ h_ => h_.1))) hb); replace HO713 := Aq.mk (Kd.R_below (by refine wR ?_; exact (Kd.R_mono (rf6 (Kd.R_types HO713.out BK725.out (by decide))) (fun _ h_ => h_.1))) hb); replace HO723 := Aq.mk (Kd.R_below (by refine wR ?_; exact (Kd.R_mono (rf6 (Kd.R_types HO723.out BK725.out (by decide))) (fun _ h_ => h_.1))) hb); replace BK715 := yF NB715_725 BK715 hb; replace BK725 := yT6 BK725 hb; replace HB := yB HB hb; try clear hb; obtain ⟨hcz54_0, hcz54_1, hcz54_2, hcz54_3, hcz54_4, hcz54_5, hfz54_0, hfz54_1, hfz54_2, hfz54_3, hfz54_4, hfz54_5⟩ := cf6 BK715.out; obtain ⟨hcz55_0, hcz55_1, hcz55_2, hcz55_3, hcz55_4, hcz55_5, hfz55_0, hfz55_1, hfz55_2, hfz55_3, hfz55_4, hfz55_5⟩ := cf6 BK725.out) | (go_at_call 35; (with_reducible refine cX (laganref06_SameAward.calls k4 t706 t707 t708 t709 t710 _ _ t711 t716 t717 t718 t719 t720 _ _ t721 true _ ?side1 ?side2 ?side3 ?side4 A40.out) ?_); (case side1 => exact sC (Kd.R_reads' HO713.out).2.2); (case side2 => exact (Kd.R_reads' HO713.out).2.1); (case side3 => exact sC (Kd.R_reads' HO723.out).2.2); (case side4 => exact (Kd.R_reads' HO723.out).2.1); intro w56 hb; replace HO_19 := yR HO_19 hb; replace HO_21 := yR HO_21 hb; replace HO713 := yR HO713 hb; replace HO723 := yR HO723 hb; replace BK715 := yb BK715 hb; replace BK725 := yb BK725 hb; replace HB := yB HB hb; try clear hb))
               go_ret
               exact ⟨sE, sB HB.out⟩
              ·obtain rfl := Option.some.inj H
               exact absurd hr_.out (by decide)
             ·obtain rfl := Option.some.inj H
              exact absurd hr_.out (by decide)
end
section
open Go.Shelf
theorem checks_upto {α : Type} (f : List α → α → Int) (kn : α → Int) (k : Int) (hf : ∀ pre x, f pre x = 0 → ∀ y, pre.getLast? = some y → kn y ≤ kn x) :
  ∀ (l pre : List α) (i j : Int), (checks f pre l i).2 = 0 → (∀ y, pre.getLast? = some y → kn y ≤ k) → (checks f pre (l.filter fun x => decide (kn x ≤ k)) j).2 = 0
 | [], pre, i, j, _, _ => rfl
 | x :: r, pre, i, j, h, hp => by
  unfold checks at h
  by_cases h0 : f pre x = 0
  ·rw [if_neg (by simp [h0])] at h
   by_cases hk : kn x ≤ k
   ·rw [List.filter_cons_of_pos (by simpa using hk)]
    unfold checks
    rw [if_neg (by simp [h0])]
    exact checks_upto f kn k hf r (pre ++ [x]) (i + 1) (j + 1) h (fun y hy => by rw [List.getLast?_concat] at hy; cases hy; exact hk)
   ·rw [List.filter_cons_of_neg (by simpa using hk)]
    have hn : ∀ (l p : List α) (i : Int) (y : α), p.getLast? = some y → ¬ kn y ≤ k → (checks f p l i).2 = 0 → (l.filter fun x => decide (kn x ≤ k)) = [] := by
     intro l
     induction l with
     | nil => intros; rfl
     | cons z s ih =>
      intro p i y hy hyk hc
      unfold checks at hc
      by_cases hz : f p z = 0
      ·rw [if_neg (by simp [hz])] at hc
       have hz2 : ¬ kn z ≤ k := by have := hf p z hz y hy; omega
       rw [List.filter_cons_of_neg (by simpa using hz2)]
       exact ih (p ++ [z]) (i + 1) z List.getLast?_concat hz2 hc
      ·rw [if_pos hz] at hc
       exact absurd hc hz
    rw [hn r (pre ++ [x]) (i + 1) x List.getLast?_concat hk h]
    rfl
  ·rw [if_pos h0] at h
   exact absurd h h0
theorem last_rd26 (l : List S26) (y : S26) (h : l.getLast? = some y) : rd_T26 l ((l.length : Int) - 1) = y ∧ 0 < l.length := by
 have hl : 0 < l.length := by cases l with | nil => simp at h | cons a r => simp
 rw [List.getLast?_eq_getElem?] at h
 unfold rd_T26
 rw [show ((l.length : Int) - 1).toNat = l.length - 1 by omega, List.getD_eq_getElem?_getD, h]
 exact ⟨rfl, hl⟩
theorem last_rd39 (l : List S39) (y : S39) (h : l.getLast? = some y) : rd_T39 l ((l.length : Int) - 1) = y ∧ 0 < l.length := by
 have hl : 0 < l.length := by cases l with | nil => simp at h | cons a r => simp
 rw [List.getLast?_eq_getElem?] at h
 unfold rd_T39
 rw [show ((l.length : Int) - 1).toNat = l.length - 1 by omega, List.getD_eq_getElem?_getD, h]
 exact ⟨rfl, hl⟩
theorem followsR_late (pre : List S26) (x : S26) (h : followsR pre x = 0) (y : S26) (hy : pre.getLast? = some y) : y.f1 ≤ x.f1 := by
 obtain ⟨e, hl⟩ := last_rd26 pre y hy
 have hL : lateR pre x = false := by
  cases hb : lateR pre x with
  | false => rfl
  | true =>
   unfold followsR at h
   rw [hb] at h
   repeat' split at h
   all_goals simp_all
 unfold lateR at hL
 rw [e] at hL
 simp [hl] at hL
 exact hL
theorem followsS_late (pre : List S39) (x : S39) (h : followsS pre x = 0) (y : S39) (hy : pre.getLast? = some y) : y.f1 ≤ x.f1 := by
 obtain ⟨e, hl⟩ := last_rd39 pre y hy
 have hL : lateS pre x = false := by
  cases hb : lateS pre x with
  | false => rfl
  | true =>
   unfold followsS at h
   rw [hb] at h
   repeat' split at h
   all_goals simp_all
 unfold lateS at hL
 rw [e] at hL
 simp [hl] at hL
 exact hL
theorem sellsS_late (pre : List S39) (x : S39) (h : sellsS pre x = 0) (y : S39) (hy : pre.getLast? = some y) : y.f1 ≤ x.f1 := by
 unfold sellsS at h
 by_cases h0 : followsS pre x = 0
 ·exact followsS_late pre x h0 y hy
 ·rw [if_neg h0] at h
  exact absurd h h0
theorem counts_upto26 (l : List S26) (k : Int) : (l.filter fun x => decide (x.f1 ≤ k)).filter (countsR (l.filter fun x => decide (x.f1 ≤ k)) k) = l.filter (countsR l k) := by
 rw [List.filter_filter]
 congr 1
 funext x
 unfold countsR
 rw [List.any_filter]
 have : (l.any fun v => decide (v.f1 ≤ k) && (v.f7 == x.f0 && decide (v.f1 ≤ k))) = l.any fun v => v.f7 == x.f0 && decide (v.f1 ≤ k) := by
  congr 1; funext v; cases decide (v.f1 ≤ k) <;> simp
 rw [this]
 cases decide (x.f1 ≤ k) <;> simp
theorem counts_upto39 (l : List S39) (k : Int) : (l.filter fun x => decide (x.f1 ≤ k)).filter (countsS (l.filter fun x => decide (x.f1 ≤ k)) k) = l.filter (countsS l k) := by
 rw [List.filter_filter]
 congr 1
 funext x
 unfold countsS
 rw [List.any_filter]
 have : (l.any fun v => decide (v.f1 ≤ k) && (v.f8 == x.f0 && decide (v.f1 ≤ k))) = l.any fun v => v.f8 == x.f0 && decide (v.f1 ≤ k) := by
  congr 1; funext v; cases decide (v.f1 ≤ k) <;> simp
 rw [this]
 cases decide (x.f1 ≤ k) <;> simp
theorem awardOf_upto (l : List S26) (m : List S39) (p : Int) (g : ByteArray) (h k : Int) (F : List Int) (hl : (checks followsR [] l 0).2 = 0) (hm : (checks sellsS [] m 0).2 = 0) :
  award_AwardOf.f (l.filter fun x => decide (x.f1 ≤ k)) (m.filter fun x => decide (x.f1 ≤ k)) p g h k F = award_AwardOf.f l m p g h k F := by
 have hl2 := checks_upto followsR (fun x => x.f1) k followsR_late l [] 0 0 hl (by simp)
 have hm2 := checks_upto sellsS (fun x => x.f1) k sellsS_late m [] 0 0 hm (by simp)
 have e1 : award_inForce.f (l.filter fun x => decide (x.f1 ≤ k)) g h k = award_inForce.f l g h k := by
  unfold award_inForce.f forceF
  rw [counts_upto26]
 have e2 : award_sold.f (m.filter fun x => decide (x.f1 ≤ k)) p k = award_sold.f m p k := by
  unfold award_sold.f soldS
  rw [counts_upto39]
 unfold award_AwardOf.f award_SaleOf.f award_RateOf.f award_CheckRates.f award_CheckSales.f
 simp only [Option.bind_some, hl, hm, hl2, hm2, e1, e2]
theorem saleOf_some (m : List S39) (p k : Int) : ∃ s, award_SaleOf.f m p k = some s := by
 unfold award_SaleOf.f award_CheckSales.f
 simp only [Option.bind_some]
 obtain ⟨s, hs⟩ : ∃ s, award_sold.f m p k = some s := by unfold award_sold.f; split <;> exact ⟨_, rfl⟩
 rw [hs]
 simp only [Option.bind_some]
 split
 ·split <;> exact ⟨_, rfl⟩
 ·exact ⟨_, rfl⟩
theorem rateOf_some (l : List S26) (g : ByteArray) (h k : Int) : ∃ s, award_RateOf.f l g h k = some s := by
 unfold award_RateOf.f award_CheckRates.f award_inForce.f
 simp only [Option.bind_some]
 split
 ·split <;> exact ⟨_, rfl⟩
 ·exact ⟨_, rfl⟩
theorem awardOf_some (l : List S26) (m : List S39) (p : Int) (g : ByteArray) (h k : Int) (F : List Int) : ∃ r, award_AwardOf.f l m p g h k F = some r ∧ r.2.2.2.2.2.1.length ≤ 41 := by
 obtain ⟨s, hs⟩ := saleOf_some m p k
 obtain ⟨q, hq⟩ := rateOf_some l g h k
 unfold award_AwardOf.f award_CheckRates.f award_Awarded.f
 rw [hs, hq]
 simp only [Option.bind_some]
 split
 ·split
  ·split
   ·refine ⟨_, rfl, ?_⟩
    dsimp only
    unfold awardedF
    split
    ·show (mergedL _).length ≤ 41
     unfold mergedL listF
     rw [List.length_map]
     exact keysL_len _
    ·exact Nat.zero_le _
   ·exact ⟨_, rfl, Nat.zero_le _⟩
  ·exact ⟨_, rfl, Nat.zero_le _⟩
 ·exact ⟨_, rfl, Nat.zero_le _⟩
theorem sameL_l0 (l : List S69) (hl : l.length ≤ 1000000) : ∀ (d i k : Nat), l.length - i < d → d ≤ k → laganref06_SameShares.l0 k l l (i : Int) = some true
 | 0, i, k, h, _ => by omega
 | d + 1, i, k, h, hk => by
  obtain ⟨k, rfl⟩ : ∃ m, k = m + 1 := ⟨k - 1, by omega⟩
  unfold laganref06_SameShares.l0
  by_cases hlt : i < l.length
  ·rw [if_pos (by omega), if_pos (by omega), if_pos (by omega), if_neg (by simp), IntWalk.wrap64_in _ (by omega)]
   exact sameL_l0 l hl d (i + 1) k (by omega) (by omega)
  ·rw [if_neg (by omega)]
theorem sameAward_val (k : Nat) (a b c d e : Int) (l : List S69) (hl : l.length ≤ 41) (hk : 42 ≤ k) : laganref06_SameAward.f k a b c d e l a b c d e l = some true := by
 unfold laganref06_SameAward.f laganref06_SameShares.f
 simp only [if_true]
 rw [show (0 : Int) = ((0 : Nat) : Int) from rfl, sameL_l0 l (by omega) 42 0 k (by omega) hk]
 rfl
theorem later_end (l : List S26) (m : List S39) (p : Int) (g : ByteArray) (h k : Int) (F : List Int) (n : Nat) (hn : 42 ≤ n) (hm : m.length ≤ 30) (hcl : (checks followsR [] l 0).2 = 0) (hcm : (checks sellsS [] m 0).2 = 0) :
  ∀ (d i K : Nat), m.length - i < d → d + n ≤ K → i ≤ m.length → laganlaw06_AwardLater.l1 K l m p g h k F (l.filter fun x => decide (x.f1 ≤ k)) ((m.take i).filter fun x => decide (x.f1 ≤ k)) (i : Int) = some true
 | 0, i, K, hd, _, _ => by omega
 | d + 1, i, K, hd, hK, hi => by
  obtain ⟨K, rfl⟩ : ∃ q, K = q + 1 := ⟨K - 1, by omega⟩
  unfold laganlaw06_AwardLater.l1
  by_cases hlt : i < m.length
  ·have hr : rd_T39 m (i : Int) = m[i] := by
    unfold rd_T39
    rw [Int.toNat_natCast, List.getD_eq_getElem?_getD, List.getElem?_eq_getElem hlt]
    rfl
   have ih := later_end l m p g h k F n hn hm hcl hcm d (i + 1) K (by omega) (by omega) (by omega)
   have ht : m.take (i + 1) = m.take i ++ [m[i]] := (List.take_append_getElem hlt).symm
   rw [if_pos (by omega), if_pos (by omega), hr, IntWalk.wrap64_in ((i : Int) + 1) (by omega), show (i : Int) + 1 = ((i + 1 : Nat) : Int) by omega]
   by_cases hk : (m[i]).f1 ≤ k
   ·rw [if_pos hk, if_pos (by have := List.length_filter_le (fun x : S39 => decide (x.f1 ≤ k)) (m.take i); rw [List.length_take] at this; omega)]
    rw [ht, List.filter_append, List.filter_cons_of_pos (by simpa using hk)] at ih
    exact ih
   ·rw [if_neg hk]
    rw [ht, List.filter_append, List.filter_cons_of_neg (by simpa using hk), List.filter_nil, List.append_nil] at ih
    exact ih
  ·obtain rfl : i = m.length := by omega
   rw [if_neg (by omega), List.take_length]
   obtain ⟨r, hr, hl⟩ := awardOf_some l m p g h k F
   rw [awardOf_upto l m p g h k F hcl hcm, hr]
   simp only [Option.bind_some]
   unfold laganlaw06_paid.f
   simp only [Option.bind_some, if_true]
   rw [sameAward_val K _ _ _ _ _ _ hl (by omega)]
   simp
theorem later_l0 (l : List S26) (m : List S39) (p : Int) (g : ByteArray) (h k : Int) (F : List Int) (n : Nat) (hn : 80 ≤ n) (hl : l.length ≤ 30) (hm : m.length ≤ 30) (hcl : (checks followsR [] l 0).2 = 0) (hcm : (checks sellsS [] m 0).2 = 0) :
  ∀ (d i K : Nat), l.length - i < d → d + n ≤ K → i ≤ l.length → laganlaw06_AwardLater.l0 K l m p g h k F ((l.take i).filter fun x => decide (x.f1 ≤ k)) (i : Int) = some true
 | 0, i, K, hd, _, _ => by omega
 | d + 1, i, K, hd, hK, hi => by
  obtain ⟨K, rfl⟩ : ∃ q, K = q + 1 := ⟨K - 1, by omega⟩
  unfold laganlaw06_AwardLater.l0
  by_cases hlt : i < l.length
  ·have hr : rd_T26 l (i : Int) = l[i] := by
    unfold rd_T26
    rw [Int.toNat_natCast, List.getD_eq_getElem?_getD, List.getElem?_eq_getElem hlt]
    rfl
   have ih := later_l0 l m p g h k F n hn hl hm hcl hcm d (i + 1) K (by omega) (by omega) (by omega)
   have ht : l.take (i + 1) = l.take i ++ [l[i]] := (List.take_append_getElem hlt).symm
   rw [if_pos (by omega), if_pos (by omega), hr, IntWalk.wrap64_in ((i : Int) + 1) (by omega), show (i : Int) + 1 = ((i + 1 : Nat) : Int) by omega]
   by_cases hk : (l[i]).f1 ≤ k
   ·rw [if_pos hk, if_pos (by have := List.length_filter_le (fun x : S26 => decide (x.f1 ≤ k)) (l.take i); rw [List.length_take] at this; omega)]
    rw [ht, List.filter_append, List.filter_cons_of_pos (by simpa using hk)] at ih
    exact ih
   ·rw [if_neg hk]
    rw [ht, List.filter_append, List.filter_cons_of_neg (by simpa using hk), List.filter_nil, List.append_nil] at ih
    exact ih
  ·obtain rfl : i = l.length := by omega
   rw [if_neg (by omega), List.take_length]
   exact later_end l m p g h k F 42 (by omega) hm hcl hcm 31 0 K (by omega) (by omega) (by omega)
theorem few_any (l : List S26) (hl : l.length ≤ 30) : ∀ (d i k : Nat), l.length - i < d → 2 * d ≤ k → ∃ b, laganlaw06_few.l0 k l (i : Int) = some b
 | 0, i, k, h, _ => by omega
 | d + 1, i, k, h, hk => by
  obtain ⟨k, rfl⟩ : ∃ m, k = m + 1 + 1 := ⟨k - 2, by omega⟩
  unfold laganlaw06_few.l0
  by_cases hlt : i < l.length
  ·rw [if_pos (by omega)]
   unfold laganlaw06_few.j1
   rw [if_pos (by simp; omega), if_pos (by omega), if_pos (by omega)]
   split
   ·exact ⟨_, rfl⟩
   ·rw [IntWalk.wrap64_in _ (by omega)]
    exact few_any l hl d (i + 1) k (by omega) (by omega)
  ·rw [if_neg (by omega)]
   unfold laganlaw06_few.j1
   rw [if_neg (by simp), if_pos (by omega)]
   exact ⟨_, rfl⟩
theorem awardLater_true (l : List S26) (m : List S39) (p : Int) (g : ByteArray) (h k : Int) (F : List Int) : laganlaw06_AwardLater.f 300 l m p g h k F = some true := by
 have hj : ∀ x : Bool, (x = false → l.length ≤ 30 ∧ m.length ≤ 30) → laganlaw06_AwardLater.j0 300 l m p g h k F x = some true := by
  intro x hx
  obtain ⟨n, hn⟩ : ∃ n, n = 298 := ⟨_, rfl⟩
  rw [show 300 = n + 1 + 1 by omega]
  cases x with
  | true => simp [laganlaw06_AwardLater.j0, laganlaw06_paid.f]
  | false =>
   obtain ⟨hl, hm⟩ := hx rfl
   have hj1 : ∀ y : Bool, (y = false → (checks followsR [] l 0).2 = 0 ∧ (checks sellsS [] m 0).2 = 0) → laganlaw06_AwardLater.j1 (n + 1) l m p g h k F y = some true := by
    intro y hy
    cases y with
    | true => simp [laganlaw06_AwardLater.j1, laganlaw06_paid.f]
    | false =>
     obtain ⟨h1, h2⟩ := hy rfl
     simp only [laganlaw06_AwardLater.j1, Bool.false_eq_true, if_false]
     exact later_l0 l m p g h k F 80 (by omega) hl hm h1 h2 31 0 n (by omega) (by omega) (by omega)
   simp only [laganlaw06_AwardLater.j0, Bool.false_eq_true, if_false]
   unfold award_CheckRates.f award_CheckSales.f
   simp only [Option.bind_some]
   split
   ·rename_i h1
    exact hj1 _ (fun hb => ⟨h1, by simpa using hb⟩)
   ·exact hj1 true (fun hb => by cases hb)
 unfold laganlaw06_AwardLater.f
 by_cases h1 : (l.length : Int) > 30
 ·rw [if_pos h1]
  exact hj true (fun hb => by cases hb)
 ·rw [if_neg h1]
  by_cases h2 : (m.length : Int) > 30
  ·rw [if_pos h2]
   exact hj true (fun hb => by cases hb)
  ·rw [if_neg h2]
   obtain ⟨b, hb⟩ := few_any l (by omega) 31 0 300 (by omega) (by omega)
   have hb' : laganlaw06_few.f 300 l = some b := hb
   rw [hb']
   simp only [Option.bind_some]
   cases b with
   | false => exact hj true (fun hb => by cases hb)
   | true =>
    simp only [if_true]
    split
    ·exact hj true (fun hb => by cases hb)
    ·exact hj _ (fun _ => ⟨by omega, by omega⟩)
end
end Go.Proofs.YtbicfbnempiocaaGreat.G
