/- Part 15 of what the law's proof rests on: what each function of the program computes, and that the machine's call of it comes to just that. -/
import Derived.Test.YtbicfbnempiocaaGreatZB0
import Derived.Test.YtbicfbnempiocaaGreatZB1
import Derived.Test.YtbicfbnempiocaaGreatZB2
import Derived.Test.YtbicfbnempiocaaGreatZB3
import Derived.Test.YtbicfbnempiocaaGreatZB4
import Derived.Test.YtbicfbnempiocaaGreatZB5
import Derived.Test.YtbicfbnempiocaaGreatZB6
import Derived.Test.YtbicfbnempiocaaGreatZB7
import Derived.Test.YtbicfbnempiocaaGreatZB8
import Derived.Test.YtbicfbnempiocaaGreatZB9
import Derived.Test.YtbicfbnempiocaaGreatZB12
import Derived.Test.YtbicfbnempiocaaGreatZB13
set_option linter.unusedVariables false
set_option linter.unusedSimpArgs false
namespace Go.Proofs.YtbicfbnempiocaaGreat.G
open Go.RowKit Go.Proofs.YtbicfbnempiocaaGreatW.PrintWords Go.Proofs.YtbicfbnempiocaaGreatW.PrintLast Go.Proofs.YtbicfbnempiocaaGreatW.PrintMore
section
attribute [local go_sem] max2_int min2_int max_two min_two max_three min_three max_four min_four
def laganref06_sumOf.l0 : Nat → List (S69) → Int → Int → Int → Option (Int)
 | 0, _, _, _, _ => none
 | k + 1, x0, x1, x5, x6 => if x6 < (x0.length : Int) then (if 0 ≤ x6 then (if ((rd_T69 x0 x6).f0) = x1 then (laganref06_sumOf.l0 k x0 x1 (wrap64 (x5 + ((rd_T69 x0 x6).f1))) (wrap64 (x6 + 1))) else (laganref06_sumOf.l0 k x0 x1 x5 (wrap64 (x6 + 1)))) else (none)) else (some x5)
def laganref06_sumOf.f (k : Nat) (l0 : List (S69)) (a1 : Int) : Option (Int) := laganref06_sumOf.l0 k l0 a1 0 0
set_option maxHeartbeats 8000000 in
set_option maxRecDepth 100000 in
theorem laganref06_sumOf.calls (k : Nat) (A0 : Option Addr) (c0 : Nat) (l0 : List (S69)) (a1 : Int) (r : Int) (w : World) (hr0 : Kd.C k69 w A0 l0.length l0) (hc0 : l0.length ≤ c0) (h : laganref06_sumOf.f k l0 a1 = some r) :
  Calls Tryz.prog 81 #[.slice A0 l0.length c0, .int .i64 a1] w fun e w' => e = .returned (.int .i64 r) ∧ Drawn0 w w' := by
 have HR0 := Aq.mk hr0
 have HC0 := Aq.mk hc0
 clear hr0 hc0
 have H : (laganref06_sumOf.l0 k l0 a1 0 0) = some r := h
 clear h
 have H' := Aq.mk H
 clear H
 go_enter Tryz.func81, Tryz.ntmps81
 go_wp2
 go_loopg [5, 6] k (fun kq v5 v6 w' => ∃ (x5_1 : Int) (x6_1 : Int), v5 = .int .i64 x5_1 ∧ v6 = .int .i64 x6_1 ∧ Aq (laganref06_sumOf.l0 kq l0 a1 x5_1 x6_1 = some r) ∧ Aq (kq ≤ k) ∧ Drawn0 w w')
 case atStart => exact ⟨(0), (0), sS, sS, H', ⟨Nat.le_refl _⟩, by repeat (first | exact Drawn0.refl _ | apply Drawn0.step)⟩
 case round =>
  clear H'
  obtain ⟨x5_1, x6_1, rfl, rfl, HA, HK1, ⟨m1, rfl⟩⟩ := hrel
  cases gk with
  | zero => exact absurd HA.out (by simp [laganref06_sumOf.l0])
  | succ k1 =>
   have H := HA.out
   clear HA
   simp only [laganref06_sumOf.l0] at H
   replace H := oI H; rcases H with ⟨c3, H⟩ | ⟨c3, H⟩
   ·have c3b0 := dT c3
    clear c3
    replace H := oI H; rcases H with ⟨c4, H⟩ | ⟨c4, H⟩
    ·have c4b0 := dT c4
     clear c4
     replace H := oI H; rcases H with ⟨c5, H⟩ | ⟨c5, H⟩
     ·have c5b0 := bT c5
      have c5b1 := bN c5
      clear c5
      have H' := Aq.mk H
      clear H
      have p728 : 0 ≤ (x6_1 : Int) := oA
      have q728 : x6_1 < (l0.length : Int) := oA
      obtain ⟨ad728, e728, hx728_0, hx728_1⟩ := at_T69 HR0.out x6_1 p728 q728
      cases e728
      replace p728 := eq_true p728
      replace q728 := eq_true q728
      go_wp2
      go_roundg k1
      case measure => have := HK1.out; omega
      case rel => exact ⟨(wrap64 (x5_1 + ((rd_T69 l0 x6_1).f1))), (wrap64 (x6_1 + 1)), sS, sS, H', ⟨by have := HK1.out; omega⟩, by repeat (first | exact Drawn0.refl _ | apply Drawn0.step)⟩
     ·have c5b0 := bF c5
      have c5b1 := bM c5
      have H' := Aq.mk H
      clear H
      have p728 : 0 ≤ (x6_1 : Int) := oA
      have q728 : x6_1 < (l0.length : Int) := oA
      obtain ⟨ad728, e728, hx728_0, hx728_1⟩ := at_T69 HR0.out x6_1 p728 q728
      cases e728
      replace p728 := eq_true p728
      replace q728 := eq_true q728
      go_wp2
      go_roundg k1
      case measure => have := HK1.out; omega
      case rel => exact ⟨(x5_1), (wrap64 (x6_1 + 1)), sS, sS, H', ⟨by have := HK1.out; omega⟩, by repeat (first | exact Drawn0.refl _ | apply Drawn0.step)⟩
    ·exact absurd H (by simp)
   ·have c3b0 := dF c3
    clear c3
    obtain rfl := Option.some.inj H
    go_wp2
    go_ret
    exact ⟨by first | rfl | (simp; done) | (simp [*]; done), by repeat (first | exact Drawn0.refl _ | apply Drawn0.step)⟩
end
section
attribute [local go_sem] max2_int min2_int max_two min_two max_three min_three max_four min_four
def laganref06_Of.f (k : Nat) (a0_0 : Int) (a0_1 : Int) (a0_2 : Int) (a0_3 : Int) (a0_4 : Int) (l0_5 : List (S69)) (a1 : Int) : Option (Int) := (laganref06_sumOf.f k l0_5 a1).bind fun t838 => (some t838)
set_option maxHeartbeats 8000000 in
set_option maxRecDepth 100000 in
theorem laganref06_Of.calls (k : Nat) (a0_0 : Int) (a0_1 : Int) (a0_2 : Int) (a0_3 : Int) (a0_4 : Int) (A0_5 : Option Addr) (c0_5 : Nat) (l0_5 : List (S69)) (a1 : Int) (r : Int) (w : World) (hr0_5 : Kd.C k69 w A0_5 l0_5.length l0_5) (hc0_5 : l0_5.length ≤ c0_5) (h : laganref06_Of.f k a0_0 a0_1 a0_2 a0_3 a0_4 l0_5 a1 = some r) :
  Calls Tryz.prog 41 #[.agg #[.int .i64 a0_0, .int .i64 a0_1, .int .i64 a0_2, .int .i64 a0_3, .int .i64 a0_4, .slice A0_5 l0_5.length c0_5], .int .i64 a1] w fun e w' => e = .returned (.int .i64 r) ∧ Below w.heap.size w w' := by
 have hu59 := Tryz.underlying59
 have HR0_5 := Aq.mk hr0_5
 have HC0_5 := Aq.mk hc0_5
 clear hr0_5 hc0_5
 have HB := Aq.mk (Below.refl w.heap.size w)
 have H : ((laganref06_sumOf.f k l0_5 a1).bind fun t838 => (some t838)) = some r := h
 clear h
 replace H := oB H; obtain ⟨t838, A3, H⟩ := H
 obtain rfl := Option.some.inj H
 go_enter Tryz.func41, Tryz.ntmps41
 go_wp2_with (first | ((with_reducible refine gD_ (N := 2) rfl ?_); refine bxE (N := 2) #[.int .i64 a0_0, .int .i64 a0_1, .int .i64 a0_2, .int .i64 a0_3, .int .i64 a0_4, .slice A0_5 l0_5.length c0_5] 59 ?_; intro gb837 hg w4 hbox hb; have BK837 := Aq.mk hbox; have GW837 := yS HB hg; have GE837 := yS HB hg; replace HB := yB HB hb; clear hb hbox hg; obtain ⟨hcz5_0, hcz5_1, hcz5_2, hcz5_3, hcz5_4, hcz5_5, hfz5_0, hfz5_1, hfz5_2, hfz5_3, hfz5_4, hfz5_5⟩ := cf6 BK837.out) | ((with_reducible refine gD_ (N := 8) rfl ?_); refine gY 8 rfl #[.slice A0_5 l0_5.length c0_5, .int .i64 a1] (laganref06_sumOf.calls k _ _ l0_5 a1 t838 _ (yC HR0_5 HB) HC0_5.out A3.out) ?_; intro nd))
 go_ret
 exact ⟨sE, sB HB.out⟩
end
section
attribute [local go_sem] max2_int min2_int max_two min_two max_three min_three max_four min_four
def award_Merge.f (l0 : List (S69)) : Option ((List (S69)) × Int) := (award_mergeable.f l0).bind fun t984 => (if t984 = 0 then ((award_merged.f l0).bind fun t985 => (some (t985, 0))) else (some (([] : List (S69)), t984)))
set_option maxHeartbeats 8000000 in
set_option maxRecDepth 100000 in
theorem award_Merge.calls (A0 : Option Addr) (c0 : Nat) (l0 : List (S69)) (r1 : List (S69)) (r2 : Int) (w : World) (hr0 : Kd.C k69 w A0 l0.length l0) (hc0 : l0.length ≤ c0) (h : award_Merge.f l0 = some (r1, r2)) :
  Calls Tryz.prog 44 #[.slice A0 l0.length c0] w fun e w' => ∃ v0_ : Value, e = .returned (.tuple #[v0_, .int .i64 r2]) ∧ Kd.R k69 69 w' w.heap.size (fun _ => True) v0_ r1 ∧ Below w.heap.size w w' := by
 have HR0 := Aq.mk hr0
 have HC0 := Aq.mk hc0
 clear hr0 hc0
 have HB := Aq.mk (Below.refl w.heap.size w)
 have H : ((award_mergeable.f l0).bind fun t984 => (if t984 = 0 then ((award_merged.f l0).bind fun t985 => (some (t985, 0))) else (some (([] : List (S69)), t984)))) = some (r1, r2) := h
 clear h
 replace H := oB H; obtain ⟨t984, A2, H⟩ := H
 replace H := oI H; rcases H with ⟨c3, H⟩ | ⟨c3, H⟩
 ·have c3b0 := bT c3
  have c3b1 := bN c3
  clear c3
  replace H := oB H; obtain ⟨t985, A4, H⟩ := H
  simp only [Option.some.injEq, Prod.mk.injEq] at H
  obtain ⟨rfl, rfl⟩ := H
  go_enter Tryz.func44, Tryz.ntmps44
  go_wp2_with (first | ((with_reducible refine gD_ (N := 6) rfl ?_); refine gX 6 rfl #[.slice A0 l0.length c0] (award_mergeable.calls _ _ l0 t984 _ (sC HR0.out) HC0.out A2.out) ?_; intro w5 hb; replace HB := yB HB hb; try clear hb) | ((with_reducible refine gC_ (f := 78) rfl ?_); refine gL (some 11) #[.slice A0 l0.length c0] ?_; (with_reducible refine (award_merged.calls _ _ l0 t985 _ ?side1 ?side2 A4.out).mono ?_); (case side1 => exact yC HR0 HB); (case side2 => exact HC0.out); rintro e w6 ⟨v986, rfl, ho0, hb⟩; refine ⟨_, rfl, ?_⟩; have HO987 := Aq.mk (Kd.R_lower ho0 (bZ_ (sB HB.out))); replace HB := yB HB hb; try clear hb; (try clear ho0)))
  go_ret2
  exact ⟨_, sE, sR HO987.out, sB HB.out⟩
 ·have c3b0 := bF c3
  have c3b1 := bM c3
  simp only [Option.some.injEq, Prod.mk.injEq] at H
  obtain ⟨rfl, rfl⟩ := H
  go_enter Tryz.func44, Tryz.ntmps44
  go_wp2_with (first | ((with_reducible refine gD_ (N := 6) rfl ?_); refine gX 6 rfl #[.slice A0 l0.length c0] (award_mergeable.calls _ _ l0 t984 _ (sC HR0.out) HC0.out A2.out) ?_; intro w7 hb; replace HB := yB HB hb; try clear hb))
  go_ret2
  exact ⟨_, sE, by first | exact Kd.R_nil _ _ _ _ _ | exact Kd.N_nil _ _ _ _ _ | exact Kd.V_nil _ _ _ _ _ | exact Kd.Q_nil _ _ _ _ _ | exact Kd.S_nil _ _ _ _ _, sB HB.out⟩
end
section
attribute [local go_sem] max2_int min2_int max_two min_two max_three min_three max_four min_four
def laganlaw06_mergeFails.f (l0 : List (S69)) : Option (Bool) := (award_Merge.f l0).bind fun bt988 => (if (bt988.1.length : Int) = 0 then (if bt988.2 = 1 then (some true) else (if bt988.2 = 2 then (some (decide ((l0.length : Int) > 1000))) else (some false))) else (some false))
set_option maxHeartbeats 8000000 in
set_option maxRecDepth 100000 in
theorem laganlaw06_mergeFails.calls (A0 : Option Addr) (c0 : Nat) (l0 : List (S69)) (r : Bool) (w : World) (hr0 : Kd.C k69 w A0 l0.length l0) (hc0 : l0.length ≤ c0) (h : laganlaw06_mergeFails.f l0 = some r) :
  Calls Tryz.prog 43 #[.slice A0 l0.length c0] w fun e w' => e = .returned (.bool r) ∧ Below w.heap.size w w' := by
 have HR0 := Aq.mk hr0
 have HC0 := Aq.mk hc0
 clear hr0 hc0
 have HB := Aq.mk (Below.refl w.heap.size w)
 have H : ((award_Merge.f l0).bind fun bt988 => (if (bt988.1.length : Int) = 0 then (if bt988.2 = 1 then (some true) else (if bt988.2 = 2 then (some (decide ((l0.length : Int) > 1000))) else (some false))) else (some false))) = some r := h
 clear h
 replace H := oB H; obtain ⟨⟨t988, t989⟩, A2, H⟩ := H
 dsimp only at H
 replace H := oI H; rcases H with ⟨c3, H⟩ | ⟨c3, H⟩
 ·have c3b0 := bT c3
  have c3b1 := bN c3
  clear c3
  replace H := oI H; rcases H with ⟨c4, H⟩ | ⟨c4, H⟩
  ·have c4b0 := bT c4
   have c4b1 := bN c4
   clear c4
   obtain rfl := Option.some.inj H
   go_enter Tryz.func43, Tryz.ntmps43
   go_wp2_with (first | ((with_reducible refine gC_ (f := 44) rfl ?_); refine gL (some 7) #[.slice A0 l0.length c0] ?_; (with_reducible refine (award_Merge.calls _ _ l0 t988 t989 _ ?side1 ?side2 A2.out).mono ?_); (case side1 => exact sC HR0.out); (case side2 => exact HC0.out); rintro e w5 ⟨v990, rfl, ho0, hb⟩; refine ⟨_, rfl, ?_⟩; have HO991 := Aq.mk (Kd.R_lower ho0 (bZ_ (sB HB.out))); replace HB := yB HB hb; try clear hb; (try clear ho0); obtain ⟨Ao6, co6, eo6⟩ := Kd.R_slice HO991.out; subst eo6))
   go_ret
   exact ⟨sE, sB HB.out⟩
  ·have c4b0 := bF c4
   have c4b1 := bM c4
   replace H := oI H; rcases H with ⟨c7, H⟩ | ⟨c7, H⟩
   ·have c7b0 := bT c7
    have c7b1 := bN c7
    clear c7
    obtain rfl := Option.some.inj H
    go_enter Tryz.func43, Tryz.ntmps43
    go_wp2_with (first | ((with_reducible refine gC_ (f := 44) rfl ?_); refine gL (some 7) #[.slice A0 l0.length c0] ?_; (with_reducible refine (award_Merge.calls _ _ l0 t988 t989 _ ?side1 ?side2 A2.out).mono ?_); (case side1 => exact sC HR0.out); (case side2 => exact HC0.out); rintro e w8 ⟨v990, rfl, ho0, hb⟩; refine ⟨_, rfl, ?_⟩; have HO991 := Aq.mk (Kd.R_lower ho0 (bZ_ (sB HB.out))); replace HB := yB HB hb; try clear hb; (try clear ho0); obtain ⟨Ao9, co9, eo9⟩ := Kd.R_slice HO991.out; subst eo9))
    go_ret
    exact ⟨sE, sB HB.out⟩
   ·have c7b0 := bF c7
    have c7b1 := bM c7
    obtain rfl := Option.some.inj H
    go_enter Tryz.func43, Tryz.ntmps43
    go_wp2_with (first | ((with_reducible refine gC_ (f := 44) rfl ?_); refine gL (some 7) #[.slice A0 l0.length c0] ?_; (with_reducible refine (award_Merge.calls _ _ l0 t988 t989 _ ?side1 ?side2 A2.out).mono ?_); (case side1 => exact sC HR0.out); (case side2 => exact HC0.out); rintro e w10 ⟨v990, rfl, ho0, hb⟩; refine ⟨_, rfl, ?_⟩; have HO991 := Aq.mk (Kd.R_lower ho0 (bZ_ (sB HB.out))); replace HB := yB HB hb; try clear hb; (try clear ho0); obtain ⟨Ao11, co11, eo11⟩ := Kd.R_slice HO991.out; subst eo11))
    go_ret
    exact ⟨sE, sB HB.out⟩
 ·have c3b0 := bF c3
  have c3b1 := bM c3
  have c3b2 : ¬ (t988 = []) := fun h_ => c3 (by rw [h_]; rfl)
  obtain rfl := Option.some.inj H
  go_enter Tryz.func43, Tryz.ntmps43
  go_wp2_with (first | ((with_reducible refine gC_ (f := 44) rfl ?_); refine gL (some 7) #[.slice A0 l0.length c0] ?_; (with_reducible refine (award_Merge.calls _ _ l0 t988 t989 _ ?side1 ?side2 A2.out).mono ?_); (case side1 => exact sC HR0.out); (case side2 => exact HC0.out); rintro e w12 ⟨v990, rfl, ho0, hb⟩; refine ⟨_, rfl, ?_⟩; have HO991 := Aq.mk (Kd.R_lower ho0 (bZ_ (sB HB.out))); replace HB := yB HB hb; try clear hb; (try clear ho0); obtain ⟨Ao13, co13, eo13⟩ := Kd.R_slice HO991.out; subst eo13))
  go_ret
  exact ⟨sE, sB HB.out⟩
end
section
attribute [local go_sem] max2_int min2_int max_two min_two max_three min_three max_four min_four
def laganref06_merged.l0 : Nat → List (S69) → List (S69) → Int → Option ((List (S69)))
 | 0, _, _, _ => none
 | k + 1, x0, x3, x4 => if x4 ≤ 40 then ((laganref06_sumOf.f k x0 x4).bind fun t730 => (if t730 = 0 then (laganref06_merged.l0 k x0 x3 (wrap64 (x4 + 1))) else (if x3.length < 8796093022208 then (laganref06_merged.l0 k x0 (x3 ++ [(⟨x4, t730⟩ : S69)]) (wrap64 (x4 + 1))) else (none)))) else (some x3)
def laganref06_merged.f (k : Nat) (l0 : List (S69)) : Option ((List (S69))) := laganref06_merged.l0 k l0 ([] : List (S69)) 0
set_option maxHeartbeats 8000000 in
set_option maxRecDepth 100000 in
theorem laganref06_merged.calls (k : Nat) (A0 : Option Addr) (c0 : Nat) (l0 : List (S69)) (r : List (S69)) (w : World) (hr0 : Kd.C k69 w A0 l0.length l0) (hc0 : l0.length ≤ c0) (h : laganref06_merged.f k l0 = some r) :
  Calls Tryz.prog 79 #[.slice A0 l0.length c0] w fun e w' => ∃ v0_ : Value, e = .returned (v0_) ∧ Kd.R k69 69 w' w.heap.size (fun _ => True) v0_ r ∧ Below w.heap.size w w' := by
 have hu69 := Tryz.underlying69
 have HR0 := Aq.mk hr0
 have HC0 := Aq.mk hc0
 clear hr0 hc0
 have HB := Aq.mk (Below.refl w.heap.size w)
 have H : (laganref06_merged.l0 k l0 ([] : List (S69)) 0) = some r := h
 clear h
 have H' := Aq.mk H
 clear H
 go_enter Tryz.func79, Tryz.ntmps79
 go_wp2
 go_loopg [3, 4] k (fun kq v3 v4 w' => ∃ (x3_1 : List (S69)) (x4_1 : Int), v4 = .int .i64 x4_1 ∧ Aq (laganref06_merged.l0 kq l0 x3_1 x4_1 = some r) ∧ Aq (kq ≤ k) ∧ Aq (Kd.R k69 69 w' w.heap.size (fun _ => True) v3 x3_1) ∧ Aq (Below w.heap.size w w'))
 case atStart => exact ⟨(([] : List (S69))), (0), sS, H', ⟨Nat.le_refl _⟩, ⟨by first | exact Kd.R_nil _ _ _ _ _ | exact Kd.N_nil _ _ _ _ _ | exact Kd.V_nil _ _ _ _ _ | exact Kd.Q_nil _ _ _ _ _ | exact Kd.S_nil _ _ _ _ _⟩, ⟨sB HB.out⟩⟩
 case round =>
  clear H'
  obtain ⟨x3_1, x4_1, rfl, HA, HK1, HO_3, HB⟩ := hrel
  cases gk with
  | zero => exact absurd HA.out (by simp [laganref06_merged.l0])
  | succ k1 =>
   have H := HA.out
   clear HA
   simp only [laganref06_merged.l0] at H
   replace H := oI H; rcases H with ⟨c2, H⟩ | ⟨c2, H⟩
   ·have c2b0 := dT c2
    clear c2
    replace H := oB H; obtain ⟨t730, A3, H⟩ := H
    replace H := oI H; rcases H with ⟨c4, H⟩ | ⟨c4, H⟩
    ·have c4b0 := bT c4
     have c4b1 := bN c4
     clear c4
     have H' := Aq.mk H
     clear H
     go_wp2_with (first | ((with_reducible refine gD_ (N := 12) rfl ?_); refine gY 12 rfl #[.slice A0 l0.length c0, .int .i64 x4_1] (laganref06_sumOf.calls k1 _ _ l0 x4_1 t730 _ (yC HR0 HB) HC0.out A3.out) ?_; intro nd))
     go_roundg k1
     case measure => have := HK1.out; omega
     case rel => exact ⟨(x3_1), (wrap64 (x4_1 + 1)), sS, H', ⟨by have := HK1.out; omega⟩, ⟨sR HO_3.out⟩, ⟨sB HB.out⟩⟩
    ·have c4b0 := bF c4
     have c4b1 := bM c4
     replace H := oI H; rcases H with ⟨c5, H⟩ | ⟨c5, H⟩
     ·have LMc5 := Aq.mk c5
      clear c5
      obtain ⟨y731, hy731⟩ : ∃ y_ : List (S69), y_ = (x3_1 ++ [(⟨x4_1, t730⟩ : S69)]) := ⟨_, rfl⟩
      replace H : (laganref06_merged.l0 k1 l0 y731 (wrap64 (x4_1 + 1))) = some r := by first | (rw [hy731]; with_reducible exact H) | (have H2_ := (Option.bind_some _ _).symm.trans H; rw [hy731]; with_reducible exact H2_) | (have H2_ := (Option.bind_some _ _).symm.trans H; with_reducible exact H2_) | with_reducible exact H | (rw [hy731]; exact H) | exact H
      have Ny731 := Aq.mk hy731
      clear hy731
      have H' := Aq.mk H
      clear H
      go_wp2_with (first | ((with_reducible refine gD_ (N := 12) rfl ?_); refine gY 12 rfl #[.slice A0 l0.length c0, .int .i64 x4_1] (laganref06_sumOf.calls k1 _ _ l0 x4_1 t730 _ (yC HR0 HB) HC0.out A3.out) ?_; intro nd) | ((with_reducible refine gate_builtin (b := .append) (xs := #[.tmp 15, .tmp 19]) rfl ?_); at_builtin; refine Kd.R_append k69 (w0 := w) w.heap.size rfl (.tmp 15) (.tmp 19) 45 69 (.agg #[(.int .i64 0), (.int .i64 0)]) 16 rfl Tryz.underlying45 info69 rfl (by decide) (by omega) u3 x3_1 (⟨x4_1, t730⟩ : S69) [.int .i64 x4_1, .int .i64 t730] (fun _ => True) (fun _ => False) rfl rfl ?aP (fun _ hk => hk.elim) ?aF ?aO ?aB ?aS ?aL ?_; (case aP => exact k69_mkM _ _ _ (⟨x4_1, t730⟩ : S69)); (case aB => exact (sB HB.out)); (case aF => exact (fun _ _ => trivial)); (case aO => exact (sR HO_3.out)); (case aS => exact (bZ_ (sB HB.out))); (case aL => have := LMc5.out; omega); intro v732 w6 ho hb hg hat; rw [← Ny731.out] at ho; have HO733 := Aq.mk ho; replace HB := Aq.mk hb; clear HO_3; clear ho hb hg hat))
      go_roundg k1
      case measure => have := HK1.out; omega
      case rel => exact ⟨(y731), (wrap64 (x4_1 + 1)), sS, H', ⟨by have := HK1.out; omega⟩, ⟨sR HO733.out⟩, ⟨sB HB.out⟩⟩
     ·exact absurd H (by simp)
   ·have c2b0 := dF c2
    clear c2
    obtain rfl := Option.some.inj H
    go_wp2
    go_ret
    exact ⟨_, sE, sR HO_3.out, sB HB.out⟩
end
section
attribute [local go_sem] max2_int min2_int max_two min_two max_three min_three max_four min_four
def laganref06_within.f (a0 : Int) (a1 : Int) (a2 : Int) : Option (Bool) := if a0 ≥ a1 then (some (decide (a0 ≤ a2))) else (some false)
set_option maxHeartbeats 8000000 in
set_option maxRecDepth 100000 in
theorem laganref06_within.calls (a0 : Int) (a1 : Int) (a2 : Int) (r : Bool) (w : World) (h : laganref06_within.f a0 a1 a2 = some r) :
  Calls Tryz.prog 68 #[.int .i64 a0, .int .i64 a1, .int .i64 a2] w fun e w' => e = .returned (.bool r) ∧ Drawn0 w w' := by
 have H : (if a0 ≥ a1 then (some (decide (a0 ≤ a2))) else (some false)) = some r := h
 clear h
 replace H := oI H; rcases H with ⟨c4, H⟩ | ⟨c4, H⟩
 ·have c4b0 : decide (a1 ≤ a0) = true := decide_eq_true c4
  clear c4
  obtain rfl := Option.some.inj H
  go_enter Tryz.func68, Tryz.ntmps68
  go_wp2
  go_ret
  exact ⟨by first | rfl | (simp; done) | (simp [*]; done), by repeat (first | exact Drawn0.refl _ | apply Drawn0.step)⟩
 ·have c4b0 : decide (a1 ≤ a0) = false := decide_eq_false c4
  clear c4
  obtain rfl := Option.some.inj H
  go_enter Tryz.func68, Tryz.ntmps68
  go_wp2
  go_ret
  exact ⟨by first | rfl | (simp; done) | (simp [*]; done), by repeat (first | exact Drawn0.refl _ | apply Drawn0.step)⟩
end
section
attribute [local go_sem] max2_int min2_int max_two min_two max_three min_three max_four min_four
def laganref06_shared.l0 : Nat → List (S69) → Int → Option (Int)
 | 0, _, _ => none
 | k + 1, x0, x3 => if x3 < (x0.length : Int) then (if 0 ≤ x3 then ((laganref06_within.f ((rd_T69 x0 x3).f0) 0 40).bind fun t993 => (if t993 = true then ((laganref06_within.f ((rd_T69 x0 x3).f1) (-1000000000) 1000000000).bind fun t995 => (if t995 = true then (laganref06_shared.l0 k x0 (wrap64 (x3 + 1))) else (some 1))) else (some 1))) else (none)) else (some 0)
def laganref06_shared.f (k : Nat) (l0 : List (S69)) : Option (Int) := if (l0.length : Int) > 1000 then (some 2) else (laganref06_shared.l0 k l0 0)
set_option maxHeartbeats 8000000 in
set_option maxRecDepth 100000 in
theorem laganref06_shared.calls (k : Nat) (A0 : Option Addr) (c0 : Nat) (l0 : List (S69)) (r : Int) (w : World) (hr0 : Kd.C k69 w A0 l0.length l0) (hc0 : l0.length ≤ c0) (h : laganref06_shared.f k l0 = some r) :
  Calls Tryz.prog 85 #[.slice A0 l0.length c0] w fun e w' => e = .returned (.int .i64 r) ∧ Drawn0 w w' := by
 have HR0 := Aq.mk hr0
 have HC0 := Aq.mk hc0
 clear hr0 hc0
 have H : (if (l0.length : Int) > 1000 then (some 2) else (laganref06_shared.l0 k l0 0)) = some r := h
 clear h
 replace H := oI H; rcases H with ⟨c2, H⟩ | ⟨c2, H⟩
 ·have c2b0 : decide (1000 < (l0.length : Int)) = true := decide_eq_true c2
  have c2b1 : decide (1000 < l0.length) = true := decide_eq_true (by omega)
  clear c2
  obtain rfl := Option.some.inj H
  go_enter Tryz.func85, Tryz.ntmps85
  go_wp2
  go_ret
  exact ⟨by first | rfl | (simp; done) | (simp [*]; done), by repeat (first | exact Drawn0.refl _ | apply Drawn0.step)⟩
 ·have c2b0 : decide (1000 < (l0.length : Int)) = false := decide_eq_false c2
  have c2b1 : decide (1000 < l0.length) = false := decide_eq_false (by omega)
  clear c2
  have H' := Aq.mk H
  clear H
  go_enter Tryz.func85, Tryz.ntmps85
  go_wp2
  go_loopg [3] k (fun kq v3 w' => ∃ (x3_1 : Int), v3 = .int .i64 x3_1 ∧ Aq (laganref06_shared.l0 kq l0 x3_1 = some r) ∧ Aq (kq ≤ k) ∧ Drawn0 w w')
  case atStart => exact ⟨(0), sS, H', ⟨Nat.le_refl _⟩, by repeat (first | exact Drawn0.refl _ | apply Drawn0.step)⟩
  case round =>
   clear H'
   try clear c2
   try clear c2b0
   obtain ⟨x3_1, rfl, HA, HK1, ⟨m1, rfl⟩⟩ := hrel
   cases gk with
   | zero => exact absurd HA.out (by simp [laganref06_shared.l0])
   | succ k1 =>
    have H := HA.out
    clear HA
    simp only [laganref06_shared.l0] at H
    replace H := oI H; rcases H with ⟨c3, H⟩ | ⟨c3, H⟩
    ·have c3b0 := dT c3
     clear c3
     replace H := oI H; rcases H with ⟨c4, H⟩ | ⟨c4, H⟩
     ·have c4b0 := dT c4
      clear c4
      replace H := oB H; obtain ⟨t993, A5, H⟩ := H
      replace H := oT H; rcases H with ⟨rfl, H⟩ | ⟨rfl, H⟩
      ·replace H := oB H; obtain ⟨t995, A7, H⟩ := H
       replace H := oT H; rcases H with ⟨rfl, H⟩ | ⟨rfl, H⟩
       ·have H' := Aq.mk H
        clear H
        have p992 : 0 ≤ (x3_1 : Int) := oA
        have q992 : x3_1 < (l0.length : Int) := oA
        obtain ⟨ad992, e992, hx992_0, hx992_1⟩ := at_T69 HR0.out x3_1 p992 q992
        cases e992
        replace p992 := eq_true p992
        replace q992 := eq_true q992
        go_wp2_with (first | ((with_reducible refine gD_ (N := 18) rfl ?_); refine gY 18 rfl #[.int .i64 ((rd_T69 l0 x3_1).f0), .int .i64 0, .int .i64 40] (laganref06_within.calls ((rd_T69 l0 x3_1).f0) 0 40 true _ A5.out) ?_; intro nd; have p994 : 0 ≤ (x3_1 : Int) := oA; have q994 : x3_1 < (l0.length : Int) := oA; obtain ⟨ad994, e994, hx994_0, hx994_1⟩ := at_T69 HR0.out x3_1 p994 q994; obtain rfl : ad992 = ad994 := (by injection e994); replace p994 := eq_true p994; replace q994 := eq_true q994) | (go_at_call 68; (with_reducible refine cY (laganref06_within.calls ((rd_T69 l0 x3_1).f1) (-1000000000) 1000000000 true _ A7.out) ?_); intro nd))
        go_roundg k1
        case measure => have := HK1.out; omega
        case rel => exact ⟨(wrap64 (x3_1 + 1)), sS, H', ⟨by have := HK1.out; omega⟩, by repeat (first | exact Drawn0.refl _ | apply Drawn0.step)⟩
       ·obtain rfl := Option.some.inj H
        have p992 : 0 ≤ (x3_1 : Int) := oA
        have q992 : x3_1 < (l0.length : Int) := oA
        obtain ⟨ad992, e992, hx992_0, hx992_1⟩ := at_T69 HR0.out x3_1 p992 q992
        cases e992
        replace p992 := eq_true p992
        replace q992 := eq_true q992
        go_wp2_with (first | ((with_reducible refine gD_ (N := 18) rfl ?_); refine gY 18 rfl #[.int .i64 ((rd_T69 l0 x3_1).f0), .int .i64 0, .int .i64 40] (laganref06_within.calls ((rd_T69 l0 x3_1).f0) 0 40 true _ A5.out) ?_; intro nd; have p994 : 0 ≤ (x3_1 : Int) := oA; have q994 : x3_1 < (l0.length : Int) := oA; obtain ⟨ad994, e994, hx994_0, hx994_1⟩ := at_T69 HR0.out x3_1 p994 q994; obtain rfl : ad992 = ad994 := (by injection e994); replace p994 := eq_true p994; replace q994 := eq_true q994) | (go_at_call 68; (with_reducible refine cY (laganref06_within.calls ((rd_T69 l0 x3_1).f1) (-1000000000) 1000000000 false _ A7.out) ?_); intro nd))
        go_ret
        exact ⟨by first | rfl | (simp; done) | (simp [*]; done), by repeat (first | exact Drawn0.refl _ | apply Drawn0.step)⟩
      ·obtain rfl := Option.some.inj H
       have p992 : 0 ≤ (x3_1 : Int) := oA
       have q992 : x3_1 < (l0.length : Int) := oA
       obtain ⟨ad992, e992, hx992_0, hx992_1⟩ := at_T69 HR0.out x3_1 p992 q992
       cases e992
       replace p992 := eq_true p992
       replace q992 := eq_true q992
       go_wp2_with (first | ((with_reducible refine gD_ (N := 18) rfl ?_); refine gY 18 rfl #[.int .i64 ((rd_T69 l0 x3_1).f0), .int .i64 0, .int .i64 40] (laganref06_within.calls ((rd_T69 l0 x3_1).f0) 0 40 false _ A5.out) ?_; intro nd))
       go_ret
       exact ⟨by first | rfl | (simp; done) | (simp [*]; done), by repeat (first | exact Drawn0.refl _ | apply Drawn0.step)⟩
     ·exact absurd H (by simp)
    ·have c3b0 := dF c3
     clear c3
     obtain rfl := Option.some.inj H
     go_wp2
     go_ret
     exact ⟨by first | rfl | (simp; done) | (simp [*]; done), by repeat (first | exact Drawn0.refl _ | apply Drawn0.step)⟩
end
section
attribute [local go_sem] max2_int min2_int max_two min_two max_three min_three max_four min_four
def laganref06_Merge.f (k : Nat) (l0 : List (S69)) : Option ((List (S69)) × Int) := (laganref06_shared.f k l0).bind fun t996 => (if t996 = 0 then ((laganref06_merged.f k l0).bind fun t997 => (some (t997, 0))) else (some (([] : List (S69)), t996)))
set_option maxHeartbeats 8000000 in
set_option maxRecDepth 100000 in
theorem laganref06_Merge.calls (k : Nat) (A0 : Option Addr) (c0 : Nat) (l0 : List (S69)) (r1 : List (S69)) (r2 : Int) (w : World) (hr0 : Kd.C k69 w A0 l0.length l0) (hc0 : l0.length ≤ c0) (h : laganref06_Merge.f k l0 = some (r1, r2)) :
  Calls Tryz.prog 45 #[.slice A0 l0.length c0] w fun e w' => ∃ v0_ : Value, e = .returned (.tuple #[v0_, .int .i64 r2]) ∧ Kd.R k69 69 w' w.heap.size (fun _ => True) v0_ r1 ∧ Below w.heap.size w w' := by
 have HR0 := Aq.mk hr0
 have HC0 := Aq.mk hc0
 clear hr0 hc0
 have HB := Aq.mk (Below.refl w.heap.size w)
 have H : ((laganref06_shared.f k l0).bind fun t996 => (if t996 = 0 then ((laganref06_merged.f k l0).bind fun t997 => (some (t997, 0))) else (some (([] : List (S69)), t996)))) = some (r1, r2) := h
 clear h
 replace H := oB H; obtain ⟨t996, A2, H⟩ := H
 replace H := oI H; rcases H with ⟨c3, H⟩ | ⟨c3, H⟩
 ·have c3b0 := bT c3
  have c3b1 := bN c3
  clear c3
  replace H := oB H; obtain ⟨t997, A4, H⟩ := H
  simp only [Option.some.injEq, Prod.mk.injEq] at H
  obtain ⟨rfl, rfl⟩ := H
  go_enter Tryz.func45, Tryz.ntmps45
  go_wp2_with (first | ((with_reducible refine gD_ (N := 6) rfl ?_); refine gY 6 rfl #[.slice A0 l0.length c0] (laganref06_shared.calls k _ _ l0 t996 _ (sC HR0.out) HC0.out A2.out) ?_; intro nd) | ((with_reducible refine gC_ (f := 79) rfl ?_); refine gL (some 11) #[.slice A0 l0.length c0] ?_; (with_reducible refine (laganref06_merged.calls k _ _ l0 t997 _ ?side1 ?side2 A4.out).mono ?_); (case side1 => exact sC HR0.out); (case side2 => exact HC0.out); rintro e w5 ⟨v998, rfl, ho0, hb⟩; refine ⟨_, rfl, ?_⟩; have HO999 := Aq.mk (Kd.R_lower ho0 (bZ_ (sB HB.out))); replace HB := yB HB hb; try clear hb; (try clear ho0)))
  go_ret2
  exact ⟨_, sE, sR HO999.out, sB HB.out⟩
 ·have c3b0 := bF c3
  have c3b1 := bM c3
  simp only [Option.some.injEq, Prod.mk.injEq] at H
  obtain ⟨rfl, rfl⟩ := H
  go_enter Tryz.func45, Tryz.ntmps45
  go_wp2_with (first | ((with_reducible refine gD_ (N := 6) rfl ?_); refine gY 6 rfl #[.slice A0 l0.length c0] (laganref06_shared.calls k _ _ l0 t996 _ (sC HR0.out) HC0.out A2.out) ?_; intro nd))
  go_ret2
  exact ⟨_, sE, by first | exact Kd.R_nil _ _ _ _ _ | exact Kd.N_nil _ _ _ _ _ | exact Kd.V_nil _ _ _ _ _ | exact Kd.Q_nil _ _ _ _ _ | exact Kd.S_nil _ _ _ _ _, sB HB.out⟩
end
section
attribute [local go_sem] max2_int min2_int max_two min_two max_three min_three max_four min_four
mutual
def laganref06_Change.j0 : Nat → List (S69) → List (S69) → Int → Option ((List (S69)) × Int)
 | 0, _, _, _ => none
 | k + 1, x0, x1, x6 => if x6 = 0 then (if ([] : List (S69)).length + x1.length < 8796093022208 then (laganref06_Change.l0 k x0 (([] : List (S69)) ++ x1) 0) else (none)) else (some (([] : List (S69)), x6))
def laganref06_Change.l0 : Nat → List (S69) → List (S69) → Int → Option ((List (S69)) × Int)
 | 0, _, _, _ => none
 | k + 1, x0, x7, x8 => if x8 < (x0.length : Int) then (if 0 ≤ x8 then (if x7.length < 8796093022208 then (laganref06_Change.l0 k x0 (x7 ++ [(⟨(rd_T69 x0 x8).f0, wrap64 (-((rd_T69 x0 x8).f1))⟩ : S69)]) (wrap64 (x8 + 1))) else (none)) else (none)) else ((laganref06_merged.f k x7).bind fun t1010 => (some (t1010, 0)))
end
def laganref06_Change.f (k : Nat) (l0 : List (S69)) (l1 : List (S69)) : Option ((List (S69)) × Int) := (laganref06_shared.f k l0).bind fun t1000 => (if t1000 = 0 then ((laganref06_shared.f k l1).bind fun t1001 => (laganref06_Change.j0 k l0 l1 t1001)) else (laganref06_Change.j0 k l0 l1 t1000))
def laganref06_Change.T11 : Bool × List (List Nat × List Nat) := (true, [([], []), ([], []), ([], []), ([1, 2], [1, 2]), ([3], [3]), ([4], [4]), ([], []), ([], []), ([6, 7], [6, 7]), ([8], [8]), ([9], [9]), ([10], [10]), ([5, 11], [5, 11]), ([12], [12]), ([0, 13], [0, 13]), ([14, 14, 0, 1, 2, 3, 4, 5, 6, 7, 8, 9, 10, 11, 12, 13, 14], [0, 14])])
def laganref06_Change.B11 : List Nat := [0, 0, 0, 6, 14, 30, 0, 0, 192, 448, 960, 1984, 4094, 8190, 16383, 32767]
theorem laganref06_Change.tab11 : rtab .any (opsOf Tryz.f46 11) = laganref06_Change.T11 := by kernel_rfl
theorem laganref06_Change.bits11 : waitsOk laganref06_Change.T11.2 laganref06_Change.B11 = true := by kernel_rfl
set_option maxHeartbeats 8000000 in
set_option maxRecDepth 100000 in
theorem laganref06_Change.calls (k : Nat) (A0 : Option Addr) (c0 : Nat) (l0 : List (S69)) (A1 : Option Addr) (c1 : Nat) (l1 : List (S69)) (r1 : List (S69)) (r2 : Int) (w : World) (hr0 : Kd.C k69 w A0 l0.length l0) (hc0 : l0.length ≤ c0) (hr1 : Kd.C k69 w A1 l1.length l1) (hc1 : l1.length ≤ c1) (h : laganref06_Change.f k l0 l1 = some (r1, r2)) :
  Calls Tryz.prog 46 #[.slice A0 l0.length c0, .slice A1 l1.length c1] w fun e w' => ∃ v0_ : Value, e = .returned (.tuple #[v0_, .int .i64 r2]) ∧ Kd.R k69 69 w' w.heap.size (fun _ => True) v0_ r1 ∧ Below w.heap.size w w' := by
 have hu69 := Tryz.underlying69
 have HR0 := Aq.mk hr0
 have HC0 := Aq.mk hc0
 clear hr0 hc0
 have HR1 := Aq.mk hr1
 have HC1 := Aq.mk hc1
 clear hr1 hc1
 have HB := Aq.mk (Below.refl w.heap.size w)
 have H : ((laganref06_shared.f k l0).bind fun t1000 => (if t1000 = 0 then ((laganref06_shared.f k l1).bind fun t1001 => (laganref06_Change.j0 k l0 l1 t1001)) else (laganref06_Change.j0 k l0 l1 t1000))) = some (r1, r2) := h
 clear h
 replace H := oB H; obtain ⟨t1000, A3, H⟩ := H
 have HC4 := Aq.mk H
 clear H
 go_enter Tryz.func46, Tryz.ntmps46
 go_upto_if 12 with (first | ((with_reducible refine gD_ (N := 10) rfl ?_); refine gY 10 rfl #[.slice A0 l0.length c0] (laganref06_shared.calls k _ _ l0 t1000 _ (sC HR0.out) HC0.out A3.out) ?_; intro nd))
 (try simp only [Act.put, List.setIfInBounds_toArray, List.set_cons_zero, List.set_cons_succ])
 go_cut [6] (fun v6 wc => ∃ (kq : Nat) (x6_3 : Int), v6 = .int .i64 x6_3 ∧ Aq (laganref06_Change.j0 kq l0 l1 x6_3 = some (r1, r2)) ∧ Aq (kq ≤ k) ∧ Aq (Below w.heap.size w wc))
 case first =>
  have H := HC4.out
  clear HC4
  replace H := oI H; rcases H with ⟨c5, H⟩ | ⟨c5, H⟩
  ·have c5b0 := bT c5
   have c5b1 := bN c5
   clear c5
   (first | rw [c5b0] | (simp only [i64_w, i32_w]; rw [c5b0]) | skip)
   replace H := oB H; obtain ⟨t1001, A6, H⟩ := H
   have H' := Aq.mk H
   clear H
   go_wp2_with (first | ((with_reducible refine gD_ (N := 14) rfl ?_); refine gY 14 rfl #[.slice A1 l1.length c1] (laganref06_shared.calls k _ _ l1 t1001 _ (yC HR1 HB) HC1.out A6.out) ?_; intro nd))
   go_meet
   case rel => exact ⟨_, (t1001), sS, H', ⟨by first | omega | exact Nat.le_refl _⟩, ⟨sB HB.out⟩⟩
  ·have c5b0 := bF c5
   have c5b1 := bM c5
   (first | rw [c5b0] | (simp only [i64_w, i32_w]; rw [c5b0]) | skip)
   have H' := Aq.mk H
   clear H
   go_wp2
   go_meet
   case rel => exact ⟨_, (t1000), sS, H', ⟨by first | omega | exact Nat.le_refl _⟩, ⟨sB HB.out⟩⟩
 case rest =>
  clear HC4
  try clear c1
  obtain ⟨kq, x6_3, rfl, HA, HJ3, HB⟩ := hcut
  cases kq with
  | zero => exact absurd HA.out (by simp [laganref06_Change.j0])
  | succ kj3 =>
   have H := HA.out
   clear HA
   simp only [laganref06_Change.j0] at H
   replace H := oI H; rcases H with ⟨c7, H⟩ | ⟨c7, H⟩
   ·have c7b0 := bT c7
    have c7b1 := bN c7
    clear c7
    replace H := oI H; rcases H with ⟨c8, H⟩ | ⟨c8, H⟩
    ·have LMc8 := Aq.mk c8
     clear c8
     obtain ⟨y1002, hy1002⟩ : ∃ y_ : List (S69), y_ = (([] : List (S69)) ++ l1) := ⟨_, rfl⟩
     replace H : (laganref06_Change.l0 kj3 l0 y1002 0) = some (r1, r2) := by first | (rw [hy1002]; with_reducible exact H) | (have H2_ := (Option.bind_some _ _).symm.trans H; rw [hy1002]; with_reducible exact H2_) | (have H2_ := (Option.bind_some _ _).symm.trans H; with_reducible exact H2_) | with_reducible exact H | (rw [hy1002]; exact H) | exact H
     have Ny1002 := Aq.mk hy1002
     clear hy1002
     have H' := Aq.mk H
     clear H
     go_wp2_with (first | ((with_reducible refine gate_builtin (b := .append) (xs := #[.tmp 18, .tmp 19]) rfl ?_); at_builtin; refine Kd.R_append_rows k69 (w0 := w) w.heap.size rfl (.tmp 18) (.tmp 19) 45 69 (.agg #[(.int .i64 0), (.int .i64 0)]) 16 rfl Tryz.underlying45 info69 rfl (by decide) (by omega) (.slice none 0 0) ([] : List (S69)) l1 _ _ _ (fun _ => True) (fun _ => False) rfl rfl ?aO ?aR (fun _ _ h => h) (fun _ h => h.elim) ?aF ?aB ?aS ?aL ?_; (case aR => repeat (first | exact (Kd.C_below HR1.out HB.out) | (with_reducible refine Kd.C_alloc ?_ _) | (with_reducible refine Kd.C_drewN ?_ _) | (with_reducible refine Kd.C_drew ?_))); (case aB => exact (sB HB.out)); (case aF => exact (fun _ _ => trivial)); (case aO => exact ((Kd.R_nil _ _ _ _ (fun _ => True)))); (case aS => exact (bZ_ (sB HB.out))); (case aL => have := LMc8.out; omega); intro v1003 w9 ho hb hg hat; rw [← Ny1002.out] at ho; have HO1004 := Aq.mk ho; replace HB := Aq.mk hb; clear ho hb hg hat))
     go_loopg [7, 8] kj3 (fun kq v7 v8 w' => ∃ (x7_2 : List (S69)) (x8_2 : Int), v8 = .int .i64 x8_2 ∧ Aq (laganref06_Change.l0 kq l0 x7_2 x8_2 = some (r1, r2)) ∧ Aq (kq ≤ kj3) ∧ Aq (Kd.R k69 69 w' w.heap.size (fun _ => True) v7 x7_2) ∧ Aq (Below w.heap.size w w'))
     case atStart => exact ⟨(y1002), (0), sS, H', ⟨Nat.le_refl _⟩, ⟨sR HO1004.out⟩, ⟨sB HB.out⟩⟩
     case round =>
      clear H'
      try clear c1
      try clear c7
      try clear c7b0
      try clear c7b1
      try clear c8
      obtain ⟨x7_2, x8_2, rfl, HA, HK2, HO_7, HB⟩ := hrel
      cases gk with
      | zero => exact absurd HA.out (by simp [laganref06_Change.l0])
      | succ k2 =>
       have H := HA.out
       clear HA
       simp only [laganref06_Change.l0] at H
       replace H := oI H; rcases H with ⟨c10, H⟩ | ⟨c10, H⟩
       ·have c10b0 := dT c10
        clear c10
        replace H := oI H; rcases H with ⟨c11, H⟩ | ⟨c11, H⟩
        ·have c11b0 := dT c11
         clear c11
         replace H := oI H; rcases H with ⟨c12, H⟩ | ⟨c12, H⟩
         ·have LMc12 := Aq.mk c12
          clear c12
          obtain ⟨y1007, hy1007⟩ : ∃ y_ : List (S69), y_ = (x7_2 ++ [(⟨(rd_T69 l0 x8_2).f0, wrap64 (-((rd_T69 l0 x8_2).f1))⟩ : S69)]) := ⟨_, rfl⟩
          replace H : (laganref06_Change.l0 k2 l0 y1007 (wrap64 (x8_2 + 1))) = some (r1, r2) := by first | (rw [hy1007]; with_reducible exact H) | (have H2_ := (Option.bind_some _ _).symm.trans H; rw [hy1007]; with_reducible exact H2_) | (have H2_ := (Option.bind_some _ _).symm.trans H; with_reducible exact H2_) | with_reducible exact H | (rw [hy1007]; exact H) | exact H
          have Ny1007 := Aq.mk hy1007
          clear hy1007
          have H' := Aq.mk H
          clear H
          try go_wp2
          replace HO_7 := Aq.mk (Kd.R_drew HO_7.out)
          replace HB := Aq.mk (bE_ HB.out)
          have p1005 : 0 ≤ (x8_2 : Int) := oA
          have q1005 : x8_2 < (l0.length : Int) := oA
          obtain ⟨ad1005, e1005, hx1005_0, hx1005_1⟩ := at_T69 HR0.out x8_2 p1005 q1005
          have hw1005_1 := hx1005_1
          have hw1005_0 := hx1005_0
          cases e1005
          replace hx1005_0 := mv HB hx1005_0
          replace hx1005_1 := mv HB hx1005_1
          replace p1005 := eq_true p1005
          replace q1005 := eq_true q1005
          refine stT 16 (fun w' => w'.cell? (ad1005.add ((x8_2).toNat * 2)) = some (.int .i64 ((rd_T69 l0 x8_2).f0)) ∧ w'.cell? ⟨(ad1005.add ((x8_2).toNat * 2)).block, (ad1005.add ((x8_2).toNat * 2)).off + 1, none⟩ = some (.int .i64 ((rd_T69 l0 x8_2).f1))) ⟨(mv HB hw1005_0), (mv HB hw1005_1)⟩ (fun hHeld => ?_); refine with_tabW laganref06_Change.tab11 laganref06_Change.bits11 (fun HT_ HW_ => ?_)
          generalize wr.drew = w13 at HO_7 HB hx1005_0 hx1005_1 hHeld ⊢
          refine pT 0 27 ?_
          refine pT 1 28 ?_
          refine pT 2 29 ?_
          refine pT 3 30 ?_
          refine pT 4 31 ?_
          refine pT 6 33 ?_
          refine pT 7 34 ?_
          refine pT 8 35 ?_
          refine pT 9 36 ?_
          refine tT 5 32 hHeld ?_
          refine tT 10 37 hHeld ?_
          refine pT 11 38 ?_
          refine pT 12 39 ?_
          refine one_ (i := 13) (N := some 40) #[true, true, true, true, true, true, true, true, true, true, true, true, true, true, false, false] rfl rfl (one_of HT_.out (by kernel_rfl)) (by decide) (fun K hK => ?_)
          refine value_ (w1 := ?_) (v := ?_) (by rfl) rfl ?_ ?_
          rotate_left 2
          ·go_simp
           constructor
           ·rfl
           ·rfl
          refine hK.out _ _ ⟨(World.cell?_alloc_lt _ _ _ (World.block_lt_of_cell? _ _ ((mv HB hw1005_0)))).trans ((mv HB hw1005_0)), (World.cell?_alloc_lt _ _ _ (World.block_lt_of_cell? _ _ ((mv HB hw1005_1)))).trans ((mv HB hw1005_1))⟩ (fun hHeld => ?_)
          clear hK K
          refine nM 40 ?_
          refine one_ (i := 14) (N := some 41) #[true, true, true, true, true, true, true, true, true, true, true, true, true, true, true, false] rfl rfl (one_of HT_.out (by kernel_rfl)) (by decide) (fun K hK => ?_)
          refine Kd.R_append_step k69 (w0 := w) w.heap.size (by rfl) (.tmp 27) (.tmp 40) 45 69 (.agg #[(.int .i64 0), (.int .i64 0)]) 16 rfl Tryz.underlying45 info69 rfl (by decide) (by omega) u7 x7_2 (⟨(rd_T69 l0 x8_2).f0, wrap64 (-((rd_T69 l0 x8_2).f1))⟩ : S69) [.int .i64 ((rd_T69 l0 x8_2).f0), .int .i64 (wrap64 (-((rd_T69 l0 x8_2).f1)))] (fun _ => True) (fun _ => False) rfl rfl ?aP (fun _ hk => hk.elim) ?aF ?aO ?aB ?aS ?aL ?_
          (case aP => exact k69_mkM _ _ _ (⟨(rd_T69 l0 x8_2).f0, wrap64 (-((rd_T69 l0 x8_2).f1))⟩ : S69))
          (case aB => exact (sB HB.out))
          (case aF => exact (fun _ _ => trivial))
          (case aO => exact (sR HO_7.out))
          (case aS => exact (bZ_ (sB HB.out)))
          (case aL => have := LMc12.out; omega)
          intro v1008 w14 ho hb hg hat
          rw [← Ny1007.out] at ho
          have HO1009 := Aq.mk ho
          replace HB := Aq.mk hb
          clear HO_7
          clear ho hb hg hat
          refine hK.out _ _ ⟨(mv HB hw1005_0), (mv HB hw1005_1)⟩ (fun hHeld => ?_)
          clear hK K
          refine nM 41 ?_
          refine pT 15 7 ?_
          refine done_ (done_of HT_.out (by kernel_rfl)) ?_
          try go_wp2
          go_roundg k2
          case measure => have := HJ3.out; have := HK2.out; omega
          case rel => exact ⟨(y1007), (wrap64 (x8_2 + 1)), sS, H', ⟨by have := HJ3.out; have := HK2.out; omega⟩, ⟨sR HO1009.out⟩, ⟨sB HB.out⟩⟩
         ·exact absurd H (by simp)
        ·exact absurd H (by simp)
       ·have c10b0 := dF c10
        clear c10
        replace H := oB H; obtain ⟨t1010, A15, H⟩ := H
        simp only [Option.some.injEq, Prod.mk.injEq] at H
        obtain ⟨rfl, rfl⟩ := H
        obtain ⟨Ao16, co16, eo16⟩ := Kd.R_slice HO_7.out
        subst eo16
        go_wp2_with (first | ((with_reducible refine gC_ (f := 79) rfl ?_); refine gL (some 43) #[.slice Ao16 x7_2.length co16] ?_; (with_reducible refine (laganref06_merged.calls k2 _ _ x7_2 t1010 _ ?side1 ?side2 A15.out).mono ?_); (case side1 => exact sC (Kd.R_reads' HO_7.out).2.2); (case side2 => exact (Kd.R_reads' HO_7.out).2.1); rintro e w17 ⟨v1011, rfl, ho0, hb⟩; refine ⟨_, rfl, ?_⟩; have HO1012 := Aq.mk (Kd.R_lower (Kd.R_new' ho0 (Kd.R_lt (sR HO_7.out))) (bZ_ (sB HB.out))); replace HO_7 := Aq.mk (Kd.R_elder' (sR HO_7.out) (Kd.R_base ho0) hb); replace HB := yB HB hb; try clear hb; (try clear ho0)))
        go_ret2
        exact ⟨_, sE, by refine wR ?_; exact Kd.R_mono HO1012.out (fun _ hk => trivial), sB HB.out⟩
    ·exact absurd H (by simp)
   ·have c7b0 := bF c7
    have c7b1 := bM c7
    simp only [Option.some.injEq, Prod.mk.injEq] at H
    obtain ⟨rfl, rfl⟩ := H
    go_wp2
    go_ret2
    exact ⟨_, sE, by first | exact Kd.R_nil _ _ _ _ _ | exact Kd.N_nil _ _ _ _ _ | exact Kd.V_nil _ _ _ _ _ | exact Kd.Q_nil _ _ _ _ _ | exact Kd.S_nil _ _ _ _ _, sB HB.out⟩
end
section
attribute [local go_sem] max2_int min2_int max_two min_two max_three min_three max_four min_four
mutual
def laganlaw06_AwardMerges.j0 : Nat → List (S69) → List (S69) → Int → Bool → Option (Bool)
 | 0, _, _, _, _ => none
 | k + 1, x0, x1, x2, x44 => if x44 = true then ((laganlaw06_paid.f).bind fun t1013 => (some t1013)) else (laganlaw06_AwardMerges.l0 k x0 x1 x2 0)
def laganlaw06_AwardMerges.l0 : Nat → List (S69) → List (S69) → Int → Int → Option (Bool)
 | 0, _, _, _, _ => none
 | k + 1, x0, x1, x2, x7 => if x7 < (x0.length : Int) then (if 0 ≤ x7 then (if ((rd_T69 x0 x7).f1) > 1000000000000 then (laganlaw06_AwardMerges.j2 k x0 x1 x2 x7 true) else (laganlaw06_AwardMerges.j2 k x0 x1 x2 x7 (decide (((rd_T69 x0 x7).f1) < (-1000000000000))))) else (none)) else ((award_Merge.f x0).bind fun bt1018 => ((laganref06_Merge.f k x0).bind fun bt1022 => ((award_Change.f x0 x1).bind fun bt1026 => ((laganref06_Change.f k x0 x1).bind fun bt1030 => ((laganlaw06_paid.f).bind fun t1035 => (if t1035 = true then (if bt1018.2 = bt1022.2 then ((laganref06_SameShares.f k bt1018.1 bt1022.1).bind fun t1036 => (if t1036 = true then (if bt1026.2 = bt1030.2 then ((laganref06_SameShares.f k bt1026.1 bt1030.1).bind fun t1037 => (if t1037 = true then ((award_Of.f k 0 0 0 0 0 x0 x2).bind fun t1038 => ((laganref06_Of.f k 0 0 0 0 0 x0 x2).bind fun t1039 => (some (t1038 == t1039)))) else (some false))) else (some false)) else (some false))) else (some false)) else (some false)))))))
def laganlaw06_AwardMerges.j2 : Nat → List (S69) → List (S69) → Int → Int → Bool → Option (Bool)
 | 0, _, _, _, _, _ => none
 | k + 1, x0, x1, x2, x7, x65 => if x65 = true then ((laganlaw06_paid.f).bind fun t1016 => (if t1016 = true then ((laganlaw06_mergeFails.f x0).bind fun t1017 => (some t1017)) else (some false))) else (laganlaw06_AwardMerges.l0 k x0 x1 x2 (wrap64 (x7 + 1)))
end
def laganlaw06_AwardMerges.f (k : Nat) (l0 : List (S69)) (l1 : List (S69)) (a2 : Int) : Option (Bool) := if (l0.length : Int) > 60 then (if (l0.length : Int) ≤ 1000 then (laganlaw06_AwardMerges.j0 k l0 l1 a2 true) else (if (l0.length : Int) > 1003 then (laganlaw06_AwardMerges.j0 k l0 l1 a2 true) else (if (l1.length : Int) > 60 then (if (l1.length : Int) ≤ 1000 then (laganlaw06_AwardMerges.j0 k l0 l1 a2 true) else (laganlaw06_AwardMerges.j0 k l0 l1 a2 (decide ((l1.length : Int) > 1003)))) else (laganlaw06_AwardMerges.j0 k l0 l1 a2 (decide ((l1.length : Int) > 1003)))))) else (if (l0.length : Int) > 1003 then (laganlaw06_AwardMerges.j0 k l0 l1 a2 true) else (if (l1.length : Int) > 60 then (if (l1.length : Int) ≤ 1000 then (laganlaw06_AwardMerges.j0 k l0 l1 a2 true) else (laganlaw06_AwardMerges.j0 k l0 l1 a2 (decide ((l1.length : Int) > 1003)))) else (laganlaw06_AwardMerges.j0 k l0 l1 a2 (decide ((l1.length : Int) > 1003)))))
def laganlaw06_AwardMerges.T13 : Bool × List (List Nat × List Nat) := (true, [([], []), ([0, 0], [0]), ([1], [1]), ([1], [1]), ([2, 3, 1], [1, 2, 3]), ([1, 4], [1, 4]), ([5, 1], [5]), ([6], [6]), ([6], [6]), ([7, 8, 6, 6], [6, 7, 8]), ([6, 9], [6, 9]), ([10, 9], [10]), ([11], [11]), ([11], [11]), ([12, 13, 11], [11, 12, 13]), ([11, 14], [11, 14]), ([15, 11], [15]), ([16], [16]), ([16], [16]), ([17, 18, 16, 16], [16, 17, 18]), ([16, 19], [16, 19]), ([20, 19], [20]), ([21], [21]), ([21], [21]), ([22, 23, 21, 21], [21, 22, 23]), ([21], [21]), ([21], [21]), ([25, 26, 24, 21], [21, 25, 26]), ([24, 27, 21], [21, 24, 27]), ([21, 28], [21, 28]), ([29, 27, 0, 1, 2, 3, 4, 5, 6, 7, 8, 9, 10, 11, 12, 13, 14, 15, 16, 17, 18, 19, 20, 21, 22, 23, 24, 25, 26, 27, 28, 29], [29])])
def laganlaw06_AwardMerges.B13 : List Nat := [0, 1, 3, 3, 15, 31, 63, 127, 127, 511, 1023, 2047, 4095, 4095, 16383, 32767, 65535, 131071, 131071, 524287, 1048575, 2097151, 4194303, 4194303, 16777215, 4194303, 4194303, 134217727, 268435455, 536870911, 1073741823]
theorem laganlaw06_AwardMerges.tab13 : rtab .any (opsOf Tryz.f12 13) = laganlaw06_AwardMerges.T13 := by kernel_rfl
theorem laganlaw06_AwardMerges.bits13 : waitsOk laganlaw06_AwardMerges.T13.2 laganlaw06_AwardMerges.B13 = true := by kernel_rfl
set_option maxHeartbeats 8000000 in
set_option maxRecDepth 100000 in
theorem laganlaw06_AwardMerges.calls (k : Nat) (A0 : Option Addr) (c0 : Nat) (l0 : List (S69)) (A1 : Option Addr) (c1 : Nat) (l1 : List (S69)) (a2 : Int) (r : Bool) (w : World) (hr_ : Aq (r = true)) (hr0 : Kd.C k69 w A0 l0.length l0) (hc0 : l0.length ≤ c0) (hr1 : Kd.C k69 w A1 l1.length l1) (hc1 : l1.length ≤ c1) (h : laganlaw06_AwardMerges.f k l0 l1 a2 = some r) :
  Calls Tryz.prog 12 #[.slice A0 l0.length c0, .slice A1 l1.length c1, .int .i64 a2] w fun e w' => e = .returned (.bool r) ∧ Below w.heap.size w w' := by
 have hu59 := Tryz.underlying59
 have HR0 := Aq.mk hr0
 have HC0 := Aq.mk hc0
 clear hr0 hc0
 have HR1 := Aq.mk hr1
 have HC1 := Aq.mk hc1
 clear hr1 hc1
 have HB := Aq.mk (Below.refl w.heap.size w)
 have H : (if (l0.length : Int) > 60 then (if (l0.length : Int) ≤ 1000 then (laganlaw06_AwardMerges.j0 k l0 l1 a2 true) else (if (l0.length : Int) > 1003 then (laganlaw06_AwardMerges.j0 k l0 l1 a2 true) else (if (l1.length : Int) > 60 then (if (l1.length : Int) ≤ 1000 then (laganlaw06_AwardMerges.j0 k l0 l1 a2 true) else (laganlaw06_AwardMerges.j0 k l0 l1 a2 (decide ((l1.length : Int) > 1003)))) else (laganlaw06_AwardMerges.j0 k l0 l1 a2 (decide ((l1.length : Int) > 1003)))))) else (if (l0.length : Int) > 1003 then (laganlaw06_AwardMerges.j0 k l0 l1 a2 true) else (if (l1.length : Int) > 60 then (if (l1.length : Int) ≤ 1000 then (laganlaw06_AwardMerges.j0 k l0 l1 a2 true) else (laganlaw06_AwardMerges.j0 k l0 l1 a2 (decide ((l1.length : Int) > 1003)))) else (laganlaw06_AwardMerges.j0 k l0 l1 a2 (decide ((l1.length : Int) > 1003)))))) = some r := h
 clear h
 have HC4 := Aq.mk H
 clear H
 go_enter Tryz.func12, Tryz.ntmps12
 go_upto_region 1 with (fail)
 go_cut [44] (fun v44 wc => ∃ (kq : Nat) (x44_3 : Bool), v44 = .bool x44_3 ∧ Aq (laganlaw06_AwardMerges.j0 kq l0 l1 a2 x44_3 = some r) ∧ Aq (kq ≤ k) ∧ Aq (Below w.heap.size w wc))
 case first =>
  have H := HC4.out
  clear HC4
  replace H := oI H; rcases H with ⟨c5, H⟩ | ⟨c5, H⟩
  ·have c5b0 : decide (60 < (l0.length : Int)) = true := decide_eq_true c5
   have c5b1 : decide (60 < l0.length) = true := decide_eq_true (by omega)
   clear c5
   (first | rw [c5b0] | (simp only [i64_w, i32_w]; rw [c5b0]) | skip)
   replace H := oI H; rcases H with ⟨c6, H⟩ | ⟨c6, H⟩
   ·have c6b0 := dT c6
    have c6b1 : decide (l0.length ≤ 1000) = true := decide_eq_true (by omega)
    clear c6
    have H' := Aq.mk H
    clear H
    go_wp2
    go_meet
    case rel => exact ⟨_, (true), sS, H', ⟨by first | omega | exact Nat.le_refl _⟩, ⟨sB HB.out⟩⟩
   ·have c6b0 := dF c6
    have c6b1 : decide (l0.length ≤ 1000) = false := decide_eq_false (by omega)
    clear c6
    replace H := oI H; rcases H with ⟨c7, H⟩ | ⟨c7, H⟩
    ·have c7b0 : decide (1003 < (l0.length : Int)) = true := decide_eq_true c7
     have c7b1 : decide (1003 < l0.length) = true := decide_eq_true (by omega)
     clear c7
     have H' := Aq.mk H
     clear H
     go_wp2
     go_meet
     case rel => exact ⟨_, (true), sS, H', ⟨by first | omega | exact Nat.le_refl _⟩, ⟨sB HB.out⟩⟩
    ·have c7b0 : decide (1003 < (l0.length : Int)) = false := decide_eq_false c7
     have c7b1 : decide (1003 < l0.length) = false := decide_eq_false (by omega)
     clear c7
     replace H := oI H; rcases H with ⟨c8, H⟩ | ⟨c8, H⟩
     ·have c8b0 : decide (60 < (l1.length : Int)) = true := decide_eq_true c8
      have c8b1 : decide (60 < l1.length) = true := decide_eq_true (by omega)
      clear c8
      replace H := oI H; rcases H with ⟨c9, H⟩ | ⟨c9, H⟩
      ·have c9b0 := dT c9
       have c9b1 : decide (l1.length ≤ 1000) = true := decide_eq_true (by omega)
       clear c9
       have H' := Aq.mk H
       clear H
       go_wp2
       go_meet
       case rel => exact ⟨_, (true), sS, H', ⟨by first | omega | exact Nat.le_refl _⟩, ⟨sB HB.out⟩⟩
      ·have c9b0 := dF c9
       have c9b1 : decide (l1.length ≤ 1000) = false := decide_eq_false (by omega)
       clear c9
       have H' := Aq.mk H
       clear H
       go_wp2
       go_meet
       case rel => exact ⟨_, (decide ((l1.length : Int) > 1003)), sS, H', ⟨by first | omega | exact Nat.le_refl _⟩, ⟨sB HB.out⟩⟩
     ·have c8b0 : decide (60 < (l1.length : Int)) = false := decide_eq_false c8
      have c8b1 : decide (60 < l1.length) = false := decide_eq_false (by omega)
      clear c8
      have H' := Aq.mk H
      clear H
      go_wp2
      go_meet
      case rel => exact ⟨_, (decide ((l1.length : Int) > 1003)), sS, H', ⟨by first | omega | exact Nat.le_refl _⟩, ⟨sB HB.out⟩⟩
  ·have c5b0 : decide (60 < (l0.length : Int)) = false := decide_eq_false c5
   have c5b1 : decide (60 < l0.length) = false := decide_eq_false (by omega)
   clear c5
   (first | rw [c5b0] | (simp only [i64_w, i32_w]; rw [c5b0]) | skip)
   replace H := oI H; rcases H with ⟨c10, H⟩ | ⟨c10, H⟩
   ·have c10b0 : decide (1003 < (l0.length : Int)) = true := decide_eq_true c10
    have c10b1 : decide (1003 < l0.length) = true := decide_eq_true (by omega)
    clear c10
    have H' := Aq.mk H
    clear H
    go_wp2
    go_meet
    case rel => exact ⟨_, (true), sS, H', ⟨by first | omega | exact Nat.le_refl _⟩, ⟨sB HB.out⟩⟩
   ·have c10b0 : decide (1003 < (l0.length : Int)) = false := decide_eq_false c10
    have c10b1 : decide (1003 < l0.length) = false := decide_eq_false (by omega)
    clear c10
    replace H := oI H; rcases H with ⟨c11, H⟩ | ⟨c11, H⟩
    ·have c11b0 : decide (60 < (l1.length : Int)) = true := decide_eq_true c11
     have c11b1 : decide (60 < l1.length) = true := decide_eq_true (by omega)
     clear c11
     replace H := oI H; rcases H with ⟨c12, H⟩ | ⟨c12, H⟩
     ·have c12b0 := dT c12
      have c12b1 : decide (l1.length ≤ 1000) = true := decide_eq_true (by omega)
      clear c12
      have H' := Aq.mk H
      clear H
      go_wp2
      go_meet
      case rel => exact ⟨_, (true), sS, H', ⟨by first | omega | exact Nat.le_refl _⟩, ⟨sB HB.out⟩⟩
     ·have c12b0 := dF c12
      have c12b1 : decide (l1.length ≤ 1000) = false := decide_eq_false (by omega)
      clear c12
      have H' := Aq.mk H
      clear H
      go_wp2
      go_meet
      case rel => exact ⟨_, (decide ((l1.length : Int) > 1003)), sS, H', ⟨by first | omega | exact Nat.le_refl _⟩, ⟨sB HB.out⟩⟩
    ·have c11b0 : decide (60 < (l1.length : Int)) = false := decide_eq_false c11
     have c11b1 : decide (60 < l1.length) = false := decide_eq_false (by omega)
     clear c11
     have H' := Aq.mk H
     clear H
     go_wp2
     go_meet
     case rel => exact ⟨_, (decide ((l1.length : Int) > 1003)), sS, H', ⟨by first | omega | exact Nat.le_refl _⟩, ⟨sB HB.out⟩⟩
 case rest =>
  clear HC4
  try clear c1
  obtain ⟨kq, x44_3, rfl, HA, HJ3, HB⟩ := hcut
  cases kq with
  | zero => exact absurd HA.out (by simp [laganlaw06_AwardMerges.j0])
  | succ kj3 =>
   have H := HA.out
   clear HA
   simp only [laganlaw06_AwardMerges.j0] at H
   replace H := oT H; rcases H with ⟨rfl, H⟩ | ⟨rfl, H⟩
   ·replace H := oB H; obtain ⟨t1013, A14, H⟩ := H
    obtain rfl := Option.some.inj H
    go_wp2_with (first | ((with_reducible refine gD_ (N := 45) rfl ?_); refine gX 45 rfl #[] (laganlaw06_paid.calls  t1013 _ A14.out) ?_; intro w15 hb; replace HB := yB HB hb; try clear hb))
    go_ret
    exact ⟨sE, sB HB.out⟩
   ·have H' := Aq.mk H
    clear H
    go_wp2
    go_loopg [7] kj3 (fun kq v7 w' => ∃ (x7_2 : Int), v7 = .int .i64 x7_2 ∧ Aq (laganlaw06_AwardMerges.l0 kq l0 l1 a2 x7_2 = some r) ∧ Aq (kq ≤ kj3) ∧ Aq (Below w.heap.size w w'))
    case atStart => exact ⟨(0), sS, H', ⟨Nat.le_refl _⟩, ⟨sB HB.out⟩⟩
    case round =>
     clear H'
     try clear c1
     obtain ⟨x7_2, rfl, HA, HK2, HB⟩ := hrel
     cases gk with
     | zero => exact absurd HA.out (by simp [laganlaw06_AwardMerges.l0])
     | succ k2 =>
      have H := HA.out
      clear HA
      simp only [laganlaw06_AwardMerges.l0] at H
      replace H := oI H; rcases H with ⟨c16, H⟩ | ⟨c16, H⟩
      ·have c16b0 := dT c16
       clear c16
       have HC17 := Aq.mk H
       clear H
       go_upto_region 6 with (fail)
       go_cut [65] (fun v65 wc => ∃ (kq : Nat) (x65_16 : Bool), v65 = .bool x65_16 ∧ Aq (laganlaw06_AwardMerges.j2 kq l0 l1 a2 x7_2 x65_16 = some r) ∧ Aq (kq ≤ k2) ∧ Aq (Below w.heap.size w wc))
       case first =>
        have H := HC17.out
        clear HC17
        replace H := oI H; rcases H with ⟨c18, H⟩ | ⟨c18, H⟩
        ·have c18b0 := dT c18
         clear c18
         (first | rw [c18b0] | (simp only [i64_w, i32_w]; rw [c18b0]) | skip)
         replace H := oI H; rcases H with ⟨c19, H⟩ | ⟨c19, H⟩
         ·have c19b0 : decide (1000000000000 < ((rd_T69 l0 x7_2).f1)) = true := decide_eq_true c19
          clear c19
          have H' := Aq.mk H
          clear H
          have p1014 : 0 ≤ (x7_2 : Int) := oA
          have q1014 : x7_2 < (l0.length : Int) := oA
          obtain ⟨ad1014, e1014, hx1014_0, hx1014_1⟩ := at_T69 HR0.out x7_2 p1014 q1014
          cases e1014
          replace hx1014_0 := mv HB hx1014_0
          replace hx1014_1 := mv HB hx1014_1
          replace p1014 := eq_true p1014
          replace q1014 := eq_true q1014
          go_wp2
          go_meet
          case rel => exact ⟨_, (true), sS, H', ⟨by have := HJ3.out; have := HK2.out; first | omega | exact Nat.le_refl _⟩, ⟨sB HB.out⟩⟩
         ·have c19b0 : decide (1000000000000 < ((rd_T69 l0 x7_2).f1)) = false := decide_eq_false c19
          clear c19
          have H' := Aq.mk H
          clear H
          have p1014 : 0 ≤ (x7_2 : Int) := oA
          have q1014 : x7_2 < (l0.length : Int) := oA
          obtain ⟨ad1014, e1014, hx1014_0, hx1014_1⟩ := at_T69 HR0.out x7_2 p1014 q1014
          cases e1014
          replace hx1014_0 := mv HB hx1014_0
          replace hx1014_1 := mv HB hx1014_1
          replace p1014 := eq_true p1014
          replace q1014 := eq_true q1014
          go_wp2
          go_meet
          case rel => exact ⟨_, (decide (((rd_T69 l0 x7_2).f1) < (-1000000000000))), sS, H', ⟨by have := HJ3.out; have := HK2.out; first | omega | exact Nat.le_refl _⟩, ⟨sB HB.out⟩⟩
        ·exact absurd H (by simp)
       case rest =>
        clear HC17
        try clear c1
        try clear c16
        try clear c16b0
        obtain ⟨kq, x65_16, rfl, HA, HJ16, HB⟩ := hcut
        cases kq with
        | zero => exact absurd HA.out (by simp [laganlaw06_AwardMerges.j2])
        | succ kj16 =>
         have H := HA.out
         clear HA
         simp only [laganlaw06_AwardMerges.j2] at H
         replace H := oT H; rcases H with ⟨rfl, H⟩ | ⟨rfl, H⟩
         ·replace H := oB H; obtain ⟨t1016, A21, H⟩ := H
          replace H := oT H; rcases H with ⟨rfl, H⟩ | ⟨rfl, H⟩
          ·replace H := oB H; obtain ⟨t1017, A23, H⟩ := H
           obtain rfl := Option.some.inj H
           go_wp2_with (first | ((with_reducible refine gD_ (N := 66) rfl ?_); refine gX 66 rfl #[] (laganlaw06_paid.calls  true _ A21.out) ?_; intro w24 hb; replace HB := yB HB hb; try clear hb) | (go_at_call 43; (with_reducible refine cX (laganlaw06_mergeFails.calls _ _ l0 t1017 _ ?side1 ?side2 A23.out) ?_); (case side1 => exact yC HR0 HB); (case side2 => exact HC0.out); intro w25 hb; replace HB := yB HB hb; try clear hb))
           go_ret
           exact ⟨sE, sB HB.out⟩
          ·obtain rfl := Option.some.inj H
           exact absurd hr_.out (by decide)
         ·have H' := Aq.mk H
          clear H
          go_wp2
          go_roundg kj16
          case measure => have := HJ3.out; have := HK2.out; have := HJ16.out; omega
          case rel => exact ⟨(wrap64 (x7_2 + 1)), sS, H', ⟨by have := HJ3.out; have := HK2.out; have := HJ16.out; omega⟩, ⟨sB HB.out⟩⟩
      ·have c16b0 := dF c16
       clear c16
       replace H := oB H; obtain ⟨⟨t1018, t1019⟩, A26, H⟩ := H
       dsimp only at H
       replace H := oB H; obtain ⟨⟨t1022, t1023⟩, A27, H⟩ := H
       dsimp only at H
       replace H := oB H; obtain ⟨⟨t1026, t1027⟩, A28, H⟩ := H
       dsimp only at H
       replace H := oB H; obtain ⟨⟨t1030, t1031⟩, A29, H⟩ := H
       dsimp only at H
       replace H := oB H; obtain ⟨t1035, A30, H⟩ := H
       replace H := oT H; rcases H with ⟨rfl, H⟩ | ⟨rfl, H⟩
       ·replace H := oI H; rcases H with ⟨c32, H⟩ | ⟨c32, H⟩
        ·have c32b0 := bT c32
         have c32b1 := bN c32
         clear c32
         replace H := oB H; obtain ⟨t1036, A33, H⟩ := H
         replace H := oT H; rcases H with ⟨rfl, H⟩ | ⟨rfl, H⟩
         ·replace H := oI H; rcases H with ⟨c35, H⟩ | ⟨c35, H⟩
          ·have c35b0 := bT c35
           have c35b1 := bN c35
           clear c35
           replace H := oB H; obtain ⟨t1037, A36, H⟩ := H
           replace H := oT H; rcases H with ⟨rfl, H⟩ | ⟨rfl, H⟩
           ·replace H := oB H; obtain ⟨t1038, A38, H⟩ := H
            replace H := oB H; obtain ⟨t1039, A39, H⟩ := H
            obtain rfl := Option.some.inj H
            try go_wp2_with (first | ((with_reducible refine gC_ (f := 44) rfl ?_); refine gL (some 73) #[.slice A0 l0.length c0] ?_; (with_reducible refine (award_Merge.calls _ _ l0 t1018 t1019 _ ?side1 ?side2 A26.out).mono ?_); (case side1 => exact yC HR0 HB); (case side2 => exact HC0.out); rintro e w40 ⟨v1020, rfl, ho0, hb⟩; refine ⟨_, rfl, ?_⟩; have HO1021 := Aq.mk (Kd.R_lower ho0 (bZ_ (sB HB.out))); replace HB := yB HB hb; try clear hb; (try clear ho0)) | ((with_reducible refine gC_ (f := 45) rfl ?_); refine gL (some 78) #[.slice A0 l0.length c0] ?_; (with_reducible refine (laganref06_Merge.calls k2 _ _ l0 t1022 t1023 _ ?side1 ?side2 A27.out).mono ?_); (case side1 => exact yC HR0 HB); (case side2 => exact HC0.out); rintro e w41 ⟨v1024, rfl, ho0, hb⟩; refine ⟨_, rfl, ?_⟩; have HO1025 := Aq.mk (Kd.R_lower (Kd.R_new' ho0 (Kd.R_lt (sR HO1021.out))) (bZ_ (sB HB.out))); replace HO1021 := Aq.mk (Kd.R_elder' (sR HO1021.out) (Kd.R_base ho0) hb); replace HB := yB HB hb; try clear hb; (try clear ho0)) | ((with_reducible refine gC_ (f := 42) rfl ?_); refine gL (some 84) #[.slice A0 l0.length c0, .slice A1 l1.length c1] ?_; (with_reducible refine (award_Change.calls _ _ l0 _ _ l1 t1026 t1027 _ ?side1 ?side2 ?side3 ?side4 A28.out).mono ?_); (case side1 => exact yC HR0 HB); (case side2 => exact HC0.out); (case side3 => exact yC HR1 HB); (case side4 => exact HC1.out); rintro e w42 ⟨v1028, rfl, ho0, hb⟩; refine ⟨_, rfl, ?_⟩; have HO1029 := Aq.mk (Kd.R_lower (Kd.R_new' (Kd.R_new' ho0 (Kd.R_lt (sR HO1021.out))) (Kd.R_lt (sR HO1025.out))) (bZ_ (sB HB.out))); replace HO1021 := Aq.mk (Kd.R_elder' (sR HO1021.out) (Kd.R_base ho0) hb); replace HO1025 := Aq.mk (Kd.R_elder' (sR HO1025.out) (Kd.R_base ho0) hb); replace HB := yB HB hb; try clear hb; (try clear ho0)) | ((with_reducible refine gC_ (f := 46) rfl ?_); refine gL (some 90) #[.slice A0 l0.length c0, .slice A1 l1.length c1] ?_; (with_reducible refine (laganref06_Change.calls k2 _ _ l0 _ _ l1 t1030 t1031 _ ?side1 ?side2 ?side3 ?side4 A29.out).mono ?_); (case side1 => exact yC HR0 HB); (case side2 => exact HC0.out); (case side3 => exact yC HR1 HB); (case side4 => exact HC1.out); rintro e w43 ⟨v1032, rfl, ho0, hb⟩; refine ⟨_, rfl, ?_⟩; have HO1033 := Aq.mk (Kd.R_lower (Kd.R_new' (Kd.R_new' (Kd.R_new' ho0 (Kd.R_lt (sR HO1021.out))) (Kd.R_lt (sR HO1025.out))) (Kd.R_lt (sR HO1029.out))) (bZ_ (sB HB.out))); replace HO1021 := Aq.mk (Kd.R_elder' (sR HO1021.out) (Kd.R_base ho0) hb); replace HO1025 := Aq.mk (Kd.R_elder' (sR HO1025.out) (Kd.R_base ho0) hb); replace HO1029 := Aq.mk (Kd.R_elder' (sR HO1029.out) (Kd.R_base ho0) hb); replace HB := yB HB hb; try clear hb; (try clear ho0)) | ((with_reducible refine gD_ (N := 16) rfl ?_); (try (refine gate_guard (by rfl) ?_; dsimp only)); refine bxE (N := 16) #[.int .i64 0, .int .i64 0, .int .i64 0, .int .i64 0, .int .i64 0, .slice none 0 0] 59 ?_; intro gb1034 hg w44 hbox hb; have BK1034 := Aq.mk hbox; have GW1034 := yS HB hg; have GE1034 := yS HB hg; replace HO1021 := yR HO1021 hb; replace HO1025 := yR HO1025 hb; replace HO1029 := yR HO1029 hb; replace HO1033 := yR HO1033 hb; replace HB := yB HB hb; clear hb hbox hg; obtain ⟨hcz45_0, hcz45_1, hcz45_2, hcz45_3, hcz45_4, hcz45_5, hfz45_0, hfz45_1, hfz45_2, hfz45_3, hfz45_4, hfz45_5⟩ := cf6 BK1034.out))
            have n0_ : Aq (Kd.R k69 69 ((((((w44.setCell ⟨gb1034, 0, none⟩ (.int .i64 0)).setCell ⟨gb1034, 1, none⟩ (.int .i64 0)).setCell ⟨gb1034, 2, none⟩ (.int .i64 0)).setCell ⟨gb1034, 3, none⟩ (.int .i64 0)).setCell ⟨gb1034, 4, none⟩ (.int .i64 0)).setCell ⟨gb1034, 5, none⟩ (.slice A0 l0.length c0)) w.heap.size (fun k_ => some k_ ≠ (v1024 : Value).ownBlock ∧ some k_ ≠ (v1028 : Value).ownBlock ∧ some k_ ≠ (v1032 : Value).ownBlock) v1020 t1018) := ⟨by refine wR ?_; exact Kd.R_mono (rf6 (Kd.R_types HO1021.out BK1034.out (by decide))) (fun _ hk => ⟨hk.1.1.1.2, ⟨hk.1.1.2, hk.1.2⟩⟩)⟩
            have n1_ : Aq (Kd.R k69 69 ((((((w44.setCell ⟨gb1034, 0, none⟩ (.int .i64 0)).setCell ⟨gb1034, 1, none⟩ (.int .i64 0)).setCell ⟨gb1034, 2, none⟩ (.int .i64 0)).setCell ⟨gb1034, 3, none⟩ (.int .i64 0)).setCell ⟨gb1034, 4, none⟩ (.int .i64 0)).setCell ⟨gb1034, 5, none⟩ (.slice A0 l0.length c0)) w.heap.size (fun k_ => some k_ ≠ (v1020 : Value).ownBlock ∧ some k_ ≠ (v1028 : Value).ownBlock ∧ some k_ ≠ (v1032 : Value).ownBlock) v1024 t1022) := ⟨by refine wR ?_; exact Kd.R_mono (rf6 (Kd.R_types HO1025.out BK1034.out (by decide))) (fun _ hk => ⟨hk.1.1.1.2, ⟨hk.1.1.2, hk.1.2⟩⟩)⟩
            have n2_ : Aq (Kd.R k69 69 ((((((w44.setCell ⟨gb1034, 0, none⟩ (.int .i64 0)).setCell ⟨gb1034, 1, none⟩ (.int .i64 0)).setCell ⟨gb1034, 2, none⟩ (.int .i64 0)).setCell ⟨gb1034, 3, none⟩ (.int .i64 0)).setCell ⟨gb1034, 4, none⟩ (.int .i64 0)).setCell ⟨gb1034, 5, none⟩ (.slice A0 l0.length c0)) w.heap.size (fun k_ => some k_ ≠ (v1020 : Value).ownBlock ∧ some k_ ≠ (v1024 : Value).ownBlock ∧ some k_ ≠ (v1032 : Value).ownBlock) v1028 t1026) := ⟨by refine wR ?_; exact Kd.R_mono (rf6 (Kd.R_types HO1029.out BK1034.out (by decide))) (fun _ hk => ⟨hk.1.1.1.2, ⟨hk.1.1.2, hk.1.2⟩⟩)⟩
            have n3_ : Aq (Kd.R k69 69 ((((((w44.setCell ⟨gb1034, 0, none⟩ (.int .i64 0)).setCell ⟨gb1034, 1, none⟩ (.int .i64 0)).setCell ⟨gb1034, 2, none⟩ (.int .i64 0)).setCell ⟨gb1034, 3, none⟩ (.int .i64 0)).setCell ⟨gb1034, 4, none⟩ (.int .i64 0)).setCell ⟨gb1034, 5, none⟩ (.slice A0 l0.length c0)) w.heap.size (fun k_ => some k_ ≠ (v1020 : Value).ownBlock ∧ some k_ ≠ (v1024 : Value).ownBlock ∧ some k_ ≠ (v1028 : Value).ownBlock) v1032 t1030) := ⟨by refine wR ?_; exact Kd.R_mono (rf6 (Kd.R_types HO1033.out BK1034.out (by decide))) (fun _ hk => ⟨hk.1.1.1.2, ⟨hk.1.1.2, hk.1.2⟩⟩)⟩
            have n4_ : Aq (((((((w44.setCell ⟨gb1034, 0, none⟩ (.int .i64 0)).setCell ⟨gb1034, 1, none⟩ (.int .i64 0)).setCell ⟨gb1034, 2, none⟩ (.int .i64 0)).setCell ⟨gb1034, 3, none⟩ (.int .i64 0)).setCell ⟨gb1034, 4, none⟩ (.int .i64 0)).setCell ⟨gb1034, 5, none⟩ (.slice A0 l0.length c0)).heap[gb1034]? = some (.cells #[.int .i64 0, .int .i64 0, .int .i64 0, .int .i64 0, .int .i64 0, .slice A0 l0.length c0] 59 (0, 0))) := ⟨by refine wB ?_; refine bP_ (cs := #[.int .i64 0, .int .i64 0, .int .i64 0, .int .i64 0, .int .i64 0, .slice none 0 0]) ?_ 5 _ rfl; refine wB ?_; refine bP_ (cs := #[.int .i64 0, .int .i64 0, .int .i64 0, .int .i64 0, .int .i64 0, .slice none 0 0]) ?_ 4 _ rfl; refine wB ?_; refine bP_ (cs := #[.int .i64 0, .int .i64 0, .int .i64 0, .int .i64 0, .int .i64 0, .slice none 0 0]) ?_ 3 _ rfl; refine wB ?_; refine bP_ (cs := #[.int .i64 0, .int .i64 0, .int .i64 0, .int .i64 0, .int .i64 0, .slice none 0 0]) ?_ 2 _ rfl; refine wB ?_; refine bP_ (cs := #[.int .i64 0, .int .i64 0, .int .i64 0, .int .i64 0, .int .i64 0, .slice none 0 0]) ?_ 1 _ rfl; refine wB ?_; refine bP_ (cs := #[.int .i64 0, .int .i64 0, .int .i64 0, .int .i64 0, .int .i64 0, .slice none 0 0]) ?_ 0 _ rfl; refine wB ?_; exact BK1034.out⟩
            have n5_ : Aq (Below w.heap.size w ((((((w44.setCell ⟨gb1034, 0, none⟩ (.int .i64 0)).setCell ⟨gb1034, 1, none⟩ (.int .i64 0)).setCell ⟨gb1034, 2, none⟩ (.int .i64 0)).setCell ⟨gb1034, 3, none⟩ (.int .i64 0)).setCell ⟨gb1034, 4, none⟩ (.int .i64 0)).setCell ⟨gb1034, 5, none⟩ (.slice A0 l0.length c0))) := ⟨sB HB.out⟩
            (try clear HO1021)
            (try clear HO1025)
            (try clear HO1029)
            (try clear HO1033)
            (try clear BK1034)
            (try clear HB)
            generalize ((((((w44.setCell ⟨gb1034, 0, none⟩ (.int .i64 0)).setCell ⟨gb1034, 1, none⟩ (.int .i64 0)).setCell ⟨gb1034, 2, none⟩ (.int .i64 0)).setCell ⟨gb1034, 3, none⟩ (.int .i64 0)).setCell ⟨gb1034, 4, none⟩ (.int .i64 0)).setCell ⟨gb1034, 5, none⟩ (.slice A0 l0.length c0)) = w46 at n0_ n1_ n2_ n3_ n4_ n5_ ⊢
            have HO1021 := n0_
            have HO1025 := n1_
            have HO1029 := n2_
            have HO1033 := n3_
            have BK1034 := n4_
            have HB := n5_
            clear n0_ n1_ n2_ n3_ n4_ n5_
            replace HO1021 := Aq.mk (Kd.R_drew HO1021.out)
            replace HO1025 := Aq.mk (Kd.R_drew HO1025.out)
            replace HO1029 := Aq.mk (Kd.R_drew HO1029.out)
            replace HO1033 := Aq.mk (Kd.R_drew HO1033.out)
            replace BK1034 := Aq.mk (bD_ BK1034.out)
            replace HB := Aq.mk (bE_ HB.out)
            refine stT 31 (fun w' => w'.cell? ⟨gb1034, 0, none⟩ = some (.int .i64 0) ∧ w'.cell? ⟨gb1034, 1, none⟩ = some (.int .i64 0) ∧ w'.cell? ⟨gb1034, 2, none⟩ = some (.int .i64 0) ∧ w'.cell? ⟨gb1034, 3, none⟩ = some (.int .i64 0) ∧ w'.cell? ⟨gb1034, 4, none⟩ = some (.int .i64 0) ∧ w'.cell? ⟨gb1034, 5, none⟩ = some (.slice A0 l0.length c0)) ⟨(bC_ BK1034.out 0).trans rfl, (bC_ BK1034.out 1).trans rfl, (bC_ BK1034.out 2).trans rfl, (bC_ BK1034.out 3).trans rfl, (bC_ BK1034.out 4).trans rfl, (bC_ BK1034.out 5).trans rfl⟩ (fun hHeld => ?_); refine with_tabW laganlaw06_AwardMerges.tab13 laganlaw06_AwardMerges.bits13 (fun HT_ HW_ => ?_)
            generalize w46.drew = w47 at HO1021 HO1025 HO1029 HO1033 BK1034 HB hHeld ⊢
            refine one_ (i := 0) (N := some 95) #[true, false, false, false, false, false, false, false, false, false, false, false, false, false, false, false, false, false, false, false, false, false, false, false, false, false, false, false, false, false, false] rfl rfl (one_of HT_.out (by kernel_rfl)) (by decide) (fun K hK => ?_)
            refine goes_ Tryz.func16 (by kernel_rfl) rfl #[] (by rfl) rfl rfl sA ?_
            with_reducible refine (laganlaw06_paid.calls  true _ A30.out).mono ?_
            rintro e w48 ⟨rfl, hb⟩
            refine ⟨_, rfl, ?_⟩
            replace HO1021 := yR HO1021 hb
            replace HO1025 := yR HO1025 hb
            replace HO1029 := yR HO1029 hb
            replace HO1033 := yR HO1033 hb
            replace BK1034 := yb BK1034 hb
            replace HB := yB HB hb
            try clear hb
            obtain ⟨Ao49, co49, eo49⟩ := Kd.R_slice HO1021.out
            (first | subst eo49 | (injection eo49 with f1_ f2_ f3_; have f4_ := f1_.symm; have f5_ := f3_.symm; clear f1_ f2_ f3_; subst f4_; subst f5_))
            obtain ⟨Ao50, co50, eo50⟩ := Kd.R_slice HO1025.out
            (first | subst eo50 | (injection eo50 with f1_ f2_ f3_; have f4_ := f1_.symm; have f5_ := f3_.symm; clear f1_ f2_ f3_; subst f4_; subst f5_))
            refine hK.out _ _ ⟨(bC_ BK1034.out 0).trans rfl, (bC_ BK1034.out 1).trans rfl, (bC_ BK1034.out 2).trans rfl, (bC_ BK1034.out 3).trans rfl, (bC_ BK1034.out 4).trans rfl, (bC_ BK1034.out 5).trans rfl⟩ (fun hHeld => ?_)
            clear hK K
            refine nM 95 ?_
            refine pT 1 96 ?_
            refine pT 2 97 ?_
            refine pT 3 98 ?_
            refine pT 4 99 ?_
            refine pT 5 100 ?_
            refine pT 6 101 ?_
            refine pT 7 102 ?_
            refine pT 8 103 ?_
            refine one_ (i := 9) (N := some 104) #[true, true, true, true, true, true, true, true, true, true, false, false, false, false, false, false, false, false, false, false, false, false, false, false, false, false, false, false, false, false, false] rfl rfl (one_of HT_.out (by kernel_rfl)) (by decide) (fun K hK => ?_)
            refine goes_ Tryz.func30 (by kernel_rfl) rfl #[.slice Ao49 t1018.length co49, .slice Ao50 t1022.length co50] (by rfl) rfl rfl sA ?_
            with_reducible refine (laganref06_SameShares.calls k2 _ _ t1018 _ _ t1022 true _ ?side1 ?side2 ?side3 ?side4 A33.out).mono ?_
            (case side1 => exact sC (Kd.R_reads' HO1021.out).2.2)
            (case side2 => exact (Kd.R_reads' HO1021.out).2.1)
            (case side3 => exact sC (Kd.R_reads' HO1025.out).2.2)
            (case side4 => exact (Kd.R_reads' HO1025.out).2.1)
            rintro e w' ⟨rfl, ⟨nd, rfl⟩⟩
            refine ⟨_, rfl, ?_⟩
            obtain ⟨Ao51, co51, eo51⟩ := Kd.R_slice HO1029.out
            (first | subst eo51 | (injection eo51 with f1_ f2_ f3_; have f4_ := f1_.symm; have f5_ := f3_.symm; clear f1_ f2_ f3_; subst f4_; subst f5_))
            obtain ⟨Ao52, co52, eo52⟩ := Kd.R_slice HO1033.out
            (first | subst eo52 | (injection eo52 with f1_ f2_ f3_; have f4_ := f1_.symm; have f5_ := f3_.symm; clear f1_ f2_ f3_; subst f4_; subst f5_))
            refine hK.out _ _ ⟨(bC_ BK1034.out 0).trans rfl, (bC_ BK1034.out 1).trans rfl, (bC_ BK1034.out 2).trans rfl, (bC_ BK1034.out 3).trans rfl, (bC_ BK1034.out 4).trans rfl, (bC_ BK1034.out 5).trans rfl⟩ (fun hHeld => ?_)
            clear hK K
            refine nM 104 ?_
            refine pT 10 105 ?_
            refine pT 11 106 ?_
            refine pT 12 107 ?_
            refine pT 13 108 ?_
            refine pT 14 109 ?_
            refine pT 15 110 ?_
            refine pT 16 111 ?_
            refine pT 17 112 ?_
            refine pT 18 113 ?_
            refine one_ (i := 19) (N := some 114) #[true, true, true, true, true, true, true, true, true, true, true, true, true, true, true, true, true, true, true, true, false, false, false, false, false, false, false, false, false, false, false] rfl rfl (one_of HT_.out (by kernel_rfl)) (by decide) (fun K hK => ?_)
            refine goes_ Tryz.func30 (by kernel_rfl) rfl #[.slice Ao51 t1026.length co51, .slice Ao52 t1030.length co52] (by rfl) rfl rfl sA ?_
            with_reducible refine (laganref06_SameShares.calls k2 _ _ t1026 _ _ t1030 true _ ?side1 ?side2 ?side3 ?side4 A36.out).mono ?_
            (case side1 => exact sC (Kd.R_reads' HO1029.out).2.2)
            (case side2 => exact (Kd.R_reads' HO1029.out).2.1)
            (case side3 => exact sC (Kd.R_reads' HO1033.out).2.2)
            (case side4 => exact (Kd.R_reads' HO1033.out).2.1)
            rintro e w' ⟨rfl, ⟨nd, rfl⟩⟩
            refine ⟨_, rfl, ?_⟩
            refine hK.out _ _ ⟨(bC_ BK1034.out 0).trans rfl, (bC_ BK1034.out 1).trans rfl, (bC_ BK1034.out 2).trans rfl, (bC_ BK1034.out 3).trans rfl, (bC_ BK1034.out 4).trans rfl, (bC_ BK1034.out 5).trans rfl⟩ (fun hHeld => ?_)
            clear hK K
            refine nM 114 ?_
            refine pT 20 115 ?_
            refine pT 21 116 ?_
            refine pT 23 118 ?_
            refine pT 26 121 ?_
            refine tT 22 117 hHeld ?_
            refine tT 25 120 hHeld ?_
            refine one_ (i := 24) (N := some 119) #[true, true, true, true, true, true, true, true, true, true, true, true, true, true, true, true, true, true, true, true, true, true, true, true, true, true, true, false, false, false, false] rfl rfl (one_of HT_.out (by kernel_rfl)) (by decide) (fun K hK => ?_)
            refine goes_ Tryz.func40 (by kernel_rfl) rfl #[.agg #[.int .i64 0, .int .i64 0, .int .i64 0, .int .i64 0, .int .i64 0, .slice A0 l0.length c0], .int .i64 a2] (by rfl) rfl rfl sA ?_
            with_reducible refine (award_Of.calls k2 0 0 0 0 0 _ _ l0 a2 t1038 _ ?side1 ?side2 A38.out).mono ?_
            (case side1 => exact sC (Kd.C_below HR0.out (sB HB.out)))
            (case side2 => exact HC0.out)
            rintro e w53 ⟨rfl, hb⟩
            refine ⟨_, rfl, ?_⟩
            replace HO1021 := yR HO1021 hb
            replace HO1025 := yR HO1025 hb
            replace HO1029 := yR HO1029 hb
            replace HO1033 := yR HO1033 hb
            replace BK1034 := yb BK1034 hb
            replace HB := yB HB hb
            try clear hb
            refine hK.out _ _ ⟨(bC_ BK1034.out 0).trans rfl, (bC_ BK1034.out 1).trans rfl, (bC_ BK1034.out 2).trans rfl, (bC_ BK1034.out 3).trans rfl, (bC_ BK1034.out 4).trans rfl, (bC_ BK1034.out 5).trans rfl⟩ (fun hHeld => ?_)
            clear hK K
            refine nM 119 ?_
            refine one_ (i := 27) (N := some 122) #[true, true, true, true, true, true, true, true, true, true, true, true, true, true, true, true, true, true, true, true, true, true, true, true, true, true, true, true, false, false, false] rfl rfl (one_of HT_.out (by kernel_rfl)) (by decide) (fun K hK => ?_)
            refine goes_ Tryz.func41 (by kernel_rfl) rfl #[.agg #[.int .i64 0, .int .i64 0, .int .i64 0, .int .i64 0, .int .i64 0, .slice A0 l0.length c0], .int .i64 a2] (by rfl) rfl rfl sA ?_
            with_reducible refine (laganref06_Of.calls k2 0 0 0 0 0 _ _ l0 a2 t1039 _ ?side1 ?side2 A39.out).mono ?_
            (case side1 => exact yC HR0 HB)
            (case side2 => exact HC0.out)
            rintro e w54 ⟨rfl, hb⟩
            refine ⟨_, rfl, ?_⟩
            replace HO1021 := yR HO1021 hb
            replace HO1025 := yR HO1025 hb
            replace HO1029 := yR HO1029 hb
            replace HO1033 := yR HO1033 hb
            replace BK1034 := yb BK1034 hb
            replace HB := yB HB hb
            try clear hb
            refine hK.out _ _ ⟨(bC_ BK1034.out 0).trans rfl, (bC_ BK1034.out 1).trans rfl, (bC_ BK1034.out 2).trans rfl, (bC_ BK1034.out 3).trans rfl, (bC_ BK1034.out 4).trans rfl, (bC_ BK1034.out 5).trans rfl⟩ (fun hHeld => ?_)
            clear hK K
            refine nM 122 ?_
            refine pT 28 123 ?_
            refine pT 29 124 ?_
            refine pT 30 6 ?_
            refine done_ (done_of HT_.out (by kernel_rfl)) ?_
            try go_wp2
            go_ret
            exact ⟨sE, sB HB.out⟩
           ·obtain rfl := Option.some.inj H
            exact absurd hr_.out (by decide)
          ·have c35b0 := bF c35
           have c35b1 := bM c35
           obtain rfl := Option.some.inj H
           exact absurd hr_.out (by decide)
         ·obtain rfl := Option.some.inj H
          exact absurd hr_.out (by decide)
        ·have c32b0 := bF c32
         have c32b1 := bM c32
         obtain rfl := Option.some.inj H
         exact absurd hr_.out (by decide)
       ·obtain rfl := Option.some.inj H
        exact absurd hr_.out (by decide)
end
section
open Go.Shelf
theorem within_f (n a b : Int) : laganref06_within.f n a b = some (inB n a b) := by
 unfold laganref06_within.f inB
 by_cases h : n ≥ a
 ·rw [if_pos h, decide_eq_true h]; simp
 ·rw [if_neg h, decide_eq_false h]; simp
theorem sumOf_l0 (p : Int) : ∀ (rest pre : List S69) (k : Nat) (acc M : Int), rest.length < k → pre.length + rest.length ≤ 1000000 → (∀ x ∈ rest, -1000000000000 ≤ x.f1 ∧ x.f1 ≤ 1000000000000) → -M ≤ acc ∧ acc ≤ M → M + 1000000000000 * (rest.length : Int) ≤ 4000000000000000000 →
  laganref06_sumOf.l0 k (pre ++ rest) p acc (pre.length : Int) = some (acc + shT rest p)
 | [], pre, k, acc, M, hk, _, _, _, _ => by
  obtain ⟨k, rfl⟩ : ∃ m, k = m + 1 := ⟨k - 1, by omega⟩
  unfold laganref06_sumOf.l0
  rw [if_neg (by simp)]
  simp [shT]
 | x :: rest, pre, k, acc, M, hk, hl, h, hs, hb => by
  obtain ⟨k, rfl⟩ : ∃ m, k = m + 1 := ⟨k - 1, by omega⟩
  have hx := h x (by simp)
  simp only [List.length_cons] at hk hl hb
  have hw : ∀ z : Int, -9223372036854775808 ≤ z ∧ z ≤ 9223372036854775807 → wrap64 z = z := fun z hz => IntWalk.wrap64_in z hz
  unfold laganref06_sumOf.l0
  rw [if_pos (by simp; omega), if_pos (by omega), rdT_mid, hw ((pre.length : Int) + 1) (by omega)]
  have e : pre ++ x :: rest = (pre ++ [x]) ++ rest := by simp
  have en : (pre.length : Int) + 1 = ((pre ++ [x]).length : Int) := by simp
  rw [e, en]
  have ih := fun acc' ha => sumOf_l0 p rest (pre ++ [x]) k acc' (M + 1000000000000) (by omega) (by simp; omega) (fun y hy => h y (List.mem_cons_of_mem _ hy)) ha (by omega)
  by_cases hp : x.f0 = p
  ·rw [if_pos hp, hw _ (by omega), ih _ (by omega), shT, if_pos hp, Int.add_assoc]
  ·rw [if_neg hp, ih _ (by omega), shT, if_neg hp, Int.zero_add]
theorem sumOf_val (p : Int) (l : List S69) (k : Nat) (hk : l.length < k) (hl : l.length ≤ 1000000) (h : ∀ x ∈ l, -1000000000000 ≤ x.f1 ∧ x.f1 ≤ 1000000000000) : laganref06_sumOf.f k l p = some (shT l p) := by
 have := sumOf_l0 p l [] k 0 0 hk (by simpa using hl) h (by omega) (by omega)
 unfold laganref06_sumOf.f
 simpa using this
theorem merged_l0 (l : List S69) (hl : l.length ≤ 1000000) (h : ∀ x ∈ l, -1000000000000 ≤ x.f1 ∧ x.f1 ≤ 1000000000000) : ∀ (d p k : Nat) (out : List S69), 41 - p < d → d + l.length ≤ k → p ≤ 41 → out.length ≤ p →
  laganref06_merged.l0 k l out (p : Int) = some (out ++ ((((List.range' p (41 - p)).map Int.ofNat).filter fun q => shT l q != 0).map fun q => (⟨q, shT l q⟩ : S69)))
 | 0, p, k, out, h0, _, _, _ => by omega
 | d + 1, p, k, out, h0, hk, hp, ho => by
  obtain ⟨k, rfl⟩ : ∃ m, k = m + 1 := ⟨k - 1, by omega⟩
  unfold laganref06_merged.l0
  by_cases h40 : p ≤ 40
  ·rw [if_pos (by omega), sumOf_val p l k (by omega) hl h]
   simp only [Option.bind_some]
   rw [IntWalk.wrap64_in ((p : Int) + 1) (by omega), show (p : Int) + 1 = ((p + 1 : Nat) : Int) by omega]
   have hr : List.range' p (41 - p) = p :: List.range' (p + 1) (41 - (p + 1)) := by rw [show 41 - p = (41 - (p + 1)) + 1 by omega, List.range'_succ]
   rw [hr, List.map_cons, List.filter_cons]
   by_cases hz : shT l (p : Int) = 0
   ·rw [if_pos hz, merged_l0 l hl h d (p + 1) k out (by omega) (by omega) (by omega) (by omega), if_neg (by simp [hz])]
   ·rw [if_neg hz, if_pos (by omega), merged_l0 l hl h d (p + 1) k (out ++ [(⟨(p : Int), shT l p⟩ : S69)]) (by omega) (by omega) (by omega) (by simp; omega), if_pos (by simpa using hz)]
    simp
  ·obtain rfl : p = 41 := by omega
   rw [if_neg (by omega)]
   simp
theorem merged_val (l : List S69) (k : Nat) (hk : 50 + l.length ≤ k) (hl : l.length ≤ 1000000) (h : ∀ x ∈ l, -1000000000000 ≤ x.f1 ∧ x.f1 ≤ 1000000000000) : laganref06_merged.f k l = some (listF (shT l)) := by
 unfold laganref06_merged.f
 have := merged_l0 l hl h 50 0 k [] (by omega) (by omega) (by omega) (by simp)
 rw [show ((0 : Nat) : Int) = 0 from rfl] at this
 rw [this]
 unfold listF keysL
 rw [List.nil_append, List.range_eq_range']
theorem shared_l0 (l : List S69) (hl : l.length ≤ 1000000) : ∀ (rest pre : List S69) (k : Nat), l = pre ++ rest → rest.length < k →
  laganref06_shared.l0 k l (pre.length : Int) = some (if rest.any shareB then 1 else 0)
 | [], pre, k, e, hk => by
  obtain ⟨k, rfl⟩ : ∃ m, k = m + 1 := ⟨k - 1, by omega⟩
  unfold laganref06_shared.l0
  rw [e, if_neg (by simp)]
  simp
 | x :: rest, pre, k, e, hk => by
  obtain ⟨k, rfl⟩ : ∃ m, k = m + 1 := ⟨k - 1, by omega⟩
  simp only [List.length_cons] at hk
  have hlen : l.length = pre.length + (rest.length + 1) := by rw [e]; simp
  unfold laganref06_shared.l0
  have hrd : rd_T69 l (pre.length : Int) = x := by rw [e]; exact rdT_mid pre rest x
  rw [if_pos (by omega), if_pos (by omega), hrd, IntWalk.wrap64_in ((pre.length : Int) + 1) (by omega)]
  have ih := shared_l0 l hl rest (pre ++ [x]) k (by rw [e]; simp) (by omega)
  rw [show ((pre ++ [x]).length : Int) = (pre.length : Int) + 1 by simp] at ih
  rw [ih]
  simp only [within_f, Option.bind_some, List.any_cons]
  have hs : shareB x = (!inB x.f0 0 40 || !inB x.f1 (-1000000000) 1000000000) := rfl
  by_cases h1 : inB x.f0 0 40 = true
  ·by_cases h2 : inB x.f1 (-1000000000) 1000000000 = true
   ·rw [h1, h2] at hs
    simp [h1, h2, hs]
   ·rw [Bool.not_eq_true] at h2
    rw [h1, h2] at hs
    simp [h1, h2, hs]
  ·rw [Bool.not_eq_true] at h1
   rw [h1] at hs
   simp [h1, hs]
theorem shared_val (l : List S69) (k : Nat) (hk : l.length < k) (hl : l.length ≤ 1000000) : laganref06_shared.f k l = some (mergeS l) := by
 unfold laganref06_shared.f mergeS
 by_cases h : 1000 < l.length
 ·rw [if_pos (by omega), if_pos h]
 ·rw [if_neg (by omega), if_neg h]
  exact shared_l0 l hl l [] k rfl hk
theorem same_l0 (l : List S69) (hl : l.length ≤ 1000000) : ∀ (d i k : Nat), l.length - i < d → d ≤ k → laganref06_SameShares.l0 k l l (i : Int) = some true
 | 0, i, k, h, _ => by omega
 | d + 1, i, k, h, hk => by
  obtain ⟨k, rfl⟩ : ∃ m, k = m + 1 := ⟨k - 1, by omega⟩
  unfold laganref06_SameShares.l0
  by_cases hi : i < l.length
  ·rw [if_pos (by omega), if_pos (by omega), if_pos (by omega), if_neg (by simp), IntWalk.wrap64_in ((i : Int) + 1) (by omega), show (i : Int) + 1 = ((i + 1 : Nat) : Int) by omega]
   exact same_l0 l hl d (i + 1) k (by omega) (by omega)
  ·rw [if_neg (by omega)]
theorem same_val (l : List S69) (k : Nat) (hk : l.length < k) (hl : l.length ≤ 1000000) : laganref06_SameShares.f k l l = some true := by
 unfold laganref06_SameShares.f
 rw [if_pos rfl]
 exact same_l0 l hl (l.length + 1) 0 k (by omega) (by omega)
theorem merge_sum (l : List S69) (h : mergeS l = 0) : mergedL l = listF (shT l) := by
 unfold mergedL
 congr 1
 funext p
 rw [sums_val 1 (Or.inl rfl) l (fun _ => 0) 0 (mergeS_bd h) (fun _ => by omega) (by have := (mergeS_ok h).1; omega)]
 omega
theorem merge_val (l : List S69) : award_Merge.f l = some (if mergeS l = 0 then (listF (shT l), 0) else ([], mergeS l)) := by
 unfold award_Merge.f award_mergeable.f award_merged.f
 simp only [Option.bind_some]
 by_cases h : mergeS l = 0
 ·have ho := mergeS_ok h
  rw [if_pos h, if_pos h, if_pos (by unfold mergedOk; rw [Bool.and_eq_true, decide_eq_true_eq, List.all_eq_true]; exact ⟨by omega, ho.2⟩), merge_sum l h]
  rfl
 ·rw [if_neg h, if_neg h]
theorem merge_ref (l : List S69) (k : Nat) (hk : 50 + l.length ≤ k) (hl : l.length ≤ 1000000) : laganref06_Merge.f k l = some (if mergeS l = 0 then (listF (shT l), 0) else ([], mergeS l)) := by
 unfold laganref06_Merge.f
 rw [shared_val l k (by omega) hl]
 simp only [Option.bind_some]
 by_cases h : mergeS l = 0
 ·rw [if_pos h, if_pos h, merged_val l k hk hl (fun x hx => by have := mergeS_bd h x hx; omega)]
  rfl
 ·rw [if_neg h, if_neg h]
theorem change_ref_l0 (a : List S69) (ha : a.length ≤ 1000) (hba : ∀ x ∈ a, -1000000000 ≤ x.f1 ∧ x.f1 ≤ 1000000000) : ∀ (rest pre out : List S69) (k : Nat), a = pre ++ rest → out.length + rest.length ≤ 100000 → (∀ x ∈ out, -1000000000000 ≤ x.f1 ∧ x.f1 ≤ 1000000000000) → out.length + 2 * rest.length + 60 ≤ k →
  laganref06_Change.l0 k a out (pre.length : Int) = some (listF (fun p => shT out p - shT rest p), 0)
 | [], pre, out, k, e, ho, hb, hk => by
  obtain ⟨k, rfl⟩ : ∃ m, k = m + 1 := ⟨k - 1, by omega⟩
  simp only [List.length_nil] at hk ho
  unfold laganref06_Change.l0
  rw [e, if_neg (by simp), merged_val out k (by omega) (by omega) hb]
  simp [shT]
 | x :: rest, pre, out, k, e, ho, hb, hk => by
  obtain ⟨k, rfl⟩ : ∃ m, k = m + 1 := ⟨k - 1, by omega⟩
  simp only [List.length_cons] at hk ho
  have hx : -1000000000 ≤ x.f1 ∧ x.f1 ≤ 1000000000 := hba x (by rw [e]; simp)
  have hlen : a.length = pre.length + (rest.length + 1) := by rw [e]; simp
  have hrd : rd_T69 a (pre.length : Int) = x := by rw [e]; exact rdT_mid pre rest x
  unfold laganref06_Change.l0
  rw [if_pos (by omega), if_pos (by omega), if_pos (by omega), hrd, IntWalk.wrap64_in ((pre.length : Int) + 1) (by omega), IntWalk.wrap64_in (-x.f1) (by omega)]
  have ih := change_ref_l0 a ha hba rest (pre ++ [x]) (out ++ [⟨x.f0, -x.f1⟩]) k (by rw [e]; simp) (by simp; omega) (fun y hy => by
   rcases List.mem_append.1 hy with hy | hy
   ·exact hb y hy
   ·rw [List.mem_singleton.1 hy]; show _ ≤ -x.f1 ∧ -x.f1 ≤ _; omega) (by simp; omega)
  rw [show ((pre ++ [x]).length : Int) = (pre.length : Int) + 1 by simp] at ih
  rw [ih]
  congr 3
  funext p
  simp only [shT_app, shT]
  split <;> omega
theorem change_ref (a b : List S69) (k : Nat) (hk : 6000 ≤ k) (ha : a.length ≤ 1003) (hb : b.length ≤ 1003) : laganref06_Change.f k a b = award_Change.f a b := by
 unfold laganref06_Change.f award_Change.f
 rw [shared_val a k (by omega) (by omega), shared_val b k (by omega) (by omega)]
 simp only [Option.bind_some]
 have hj : ∀ x6 : Int, x6 ≠ 0 → laganref06_Change.j0 k a b x6 = some ([], x6) := by
  intro x6 h
  obtain ⟨k, rfl⟩ : ∃ m, k = m + 1 := ⟨k - 1, by omega⟩
  simp only [laganref06_Change.j0, if_neg h]
 by_cases h1 : mergeS a = 0
 ·rw [if_pos h1, if_neg (by simpa using h1)]
  by_cases h2 : mergeS b = 0
  ·rw [if_neg (by simpa using h2), h2]
   obtain ⟨k, rfl⟩ : ∃ m, k = m + 1 := ⟨k - 1, by omega⟩
   have la := (mergeS_ok h1).1
   have lb := (mergeS_ok h2).1
   simp only [laganref06_Change.j0, if_true]
   rw [if_pos (by simp; omega), List.nil_append, change_val h1 h2]
   exact change_ref_l0 a la (mergeS_bd h1) a [] b k rfl (by omega) (fun x hx => by have := mergeS_bd h2 x hx; omega) (by omega)
  ·rw [if_pos (by simpa using h2)]
   exact hj _ h2
 ·rw [if_neg h1, if_pos (by simpa using h1)]
  exact hj _ h1
theorem mergeFails_val (l : List S69) (x : S69) (hx : x ∈ l) (h : ¬(-1000000000 ≤ x.f1 ∧ x.f1 ≤ 1000000000)) : laganlaw06_mergeFails.f l = some true := by
 have hne : mergeS l ≠ 0 := fun e => h (mergeS_bd e x hx)
 unfold laganlaw06_mergeFails.f
 rw [merge_val, if_neg hne]
 simp only [Option.bind_some, List.length_nil, Int.natCast_zero, if_true]
 unfold mergeS at hne ⊢
 by_cases h1 : 1000 < l.length
 ·rw [if_pos h1, if_neg (by decide), if_pos rfl]
  have : (l.length : Int) > 1000 := by omega
  simp [this]
 ·rw [if_neg h1] at hne ⊢
  by_cases h2 : l.any shareB = true
  ·rw [if_pos h2, if_pos rfl]
  ·rw [if_neg h2] at hne
   exact absurd rfl hne
theorem merges_l0 (a b : List S69) (p : Int) (ha : a.length ≤ 1003) (hb : b.length ≤ 1003) : ∀ (rest pre : List S69) (k : Nat), a = pre ++ rest → (∀ x ∈ pre, -1000000000000 ≤ x.f1 ∧ x.f1 ≤ 1000000000000) → 2 * rest.length + 7000 ≤ k →
  laganlaw06_AwardMerges.l0 k a b p (pre.length : Int) = some true
 | [], pre, k, e, hp, hk => by
  obtain ⟨k, rfl⟩ : ∃ m, k = m + 1 := ⟨k - 1, by omega⟩
  have hpa : ∀ x ∈ a, -1000000000000 ≤ x.f1 ∧ x.f1 ≤ 1000000000000 := by rw [e, List.append_nil]; exact hp
  simp only [List.length_nil] at hk
  have hlen : a.length = pre.length := by rw [e]; simp
  unfold laganlaw06_AwardMerges.l0
  rw [if_neg (by omega), merge_val, merge_ref a k (by omega) (by omega), change_ref a b k (by omega) ha hb]
  obtain ⟨r, hr, hrl⟩ : ∃ r : List S69 × Int, award_Change.f a b = some r ∧ r.1.length ≤ 41 := by
   unfold award_Change.f
   refine ⟨_, rfl, ?_⟩
   split
   ·simp
   ·split
    ·simp
    ·show (listF _).length ≤ 41
     unfold listF
     rw [List.length_map]
     exact keysL_len _
  rw [hr]
  have hml : (if mergeS a = 0 then (listF (shT a), 0) else (([] : List S69), mergeS a)).1.length ≤ 41 := by
   split
   ·show (listF _).length ≤ 41
    unfold listF
    rw [List.length_map]
    exact keysL_len _
   ·simp
  generalize (if mergeS a = 0 then (listF (shT a), 0) else (([] : List S69), mergeS a)) = m at hml
  simp only [Option.bind_some, laganlaw06_paid.f, if_true]
  rw [same_val m.1 k (by omega) (by omega), same_val r.1 k (by omega) (by omega), of_val 0 0 0 0 0 p a k (by omega) (by omega) hpa]
  unfold laganref06_Of.f
  rw [sumOf_val p a k (by omega) (by omega) hpa]
  simp
 | x :: rest, pre, k, e, hp, hk => by
  obtain ⟨k, rfl⟩ : ∃ m, k = m + 1 := ⟨k - 1, by omega⟩
  simp only [List.length_cons] at hk
  have hlen : a.length = pre.length + (rest.length + 1) := by rw [e]; simp
  have hrd : rd_T69 a (pre.length : Int) = x := by rw [e]; exact rdT_mid pre rest x
  obtain ⟨k, rfl⟩ : ∃ m, k = m + 1 := ⟨k - 1, by omega⟩
  unfold laganlaw06_AwardMerges.l0
  rw [if_pos (by omega), if_pos (by omega), hrd]
  have hbad : ¬(-1000000000 ≤ x.f1 ∧ x.f1 ≤ 1000000000) → laganlaw06_AwardMerges.j2 (k + 1) a b p (pre.length : Int) true = some true := by
   intro h
   unfold laganlaw06_AwardMerges.j2
   rw [if_pos rfl, mergeFails_val a x (by rw [e]; simp) h]
   simp [laganlaw06_paid.f]
  by_cases h1 : x.f1 > 1000000000000
  ·rw [if_pos h1]
   exact hbad (by omega)
  ·rw [if_neg h1]
   by_cases h2 : x.f1 < -1000000000000
   ·rw [show decide (x.f1 < -1000000000000) = true by simpa using h2]
    exact hbad (by omega)
   ·rw [show decide (x.f1 < -1000000000000) = false by simpa using h2]
    unfold laganlaw06_AwardMerges.j2
    rw [if_neg (by decide), IntWalk.wrap64_in ((pre.length : Int) + 1) (by omega), show (pre.length : Int) + 1 = ((pre ++ [x]).length : Int) by simp]
    exact merges_l0 a b p ha hb rest (pre ++ [x]) k (by rw [e]; simp) (fun y hy => by
     rcases List.mem_append.1 hy with hy | hy
     ·exact hp y hy
     ·rw [List.mem_singleton.1 hy]; omega) (by omega)
theorem awardMerges_true (a b : List S69) (p : Int) : laganlaw06_AwardMerges.f 9500 a b p = some true := by
 have hj : ∀ x44 : Bool, (x44 = false → a.length ≤ 1003 ∧ b.length ≤ 1003) → laganlaw06_AwardMerges.j0 9500 a b p x44 = some true := by
  intro x44 h
  obtain ⟨k, hk⟩ : ∃ k, k = 9499 := ⟨_, rfl⟩
  rw [show 9500 = k + 1 by omega]
  cases x44 with
  | true => simp [laganlaw06_AwardMerges.j0, laganlaw06_paid.f]
  | false =>
   simp only [laganlaw06_AwardMerges.j0, Bool.false_eq_true, if_false]
   exact merges_l0 a b p (h rfl).1 (h rfl).2 a [] k rfl (fun x hx => by simp at hx) (by have := (h rfl).1; omega)
 unfold laganlaw06_AwardMerges.f
 have ht := hj true (fun h => by cases h)
 have hd : ∀ c : Prop, [Decidable c] → (¬ c → a.length ≤ 1003 ∧ b.length ≤ 1003) → laganlaw06_AwardMerges.j0 9500 a b p (decide c) = some true := fun c _ h => hj (decide c) (fun e => h (by simpa using e))
 repeat' split
 all_goals first
  | exact ht
  | exact hd _ (fun h => by omega)
end
end Go.Proofs.YtbicfbnempiocaaGreat.G
