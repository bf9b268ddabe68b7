/- Part 14 of what the law's proof rests on: what each function of the program computes, and that the machine's call of it comes to just that. -/
import Derived.Test.YtbicfbnempiocaaGreatZB0
import Derived.Test.YtbicfbnempiocaaGreatZB1
import Derived.Test.YtbicfbnempiocaaGreatZB2
import Derived.Test.YtbicfbnempiocaaGreatZB3
import Derived.Test.YtbicfbnempiocaaGreatZB4
import Derived.Test.YtbicfbnempiocaaGreatZB5
import Derived.Test.YtbicfbnempiocaaGreatZB6
import Derived.Test.YtbicfbnempiocaaGreatZB7
import Derived.Test.YtbicfbnempiocaaGreatZB8
import Derived.Test.YtbicfbnempiocaaGreatZB9
import Derived.Test.YtbicfbnempiocaaGreatZB12
set_option linter.unusedVariables false
set_option linter.unusedSimpArgs false
namespace Go.Proofs.YtbicfbnempiocaaGreat.G
open Go.RowKit Go.Proofs.YtbicfbnempiocaaGreatW.PrintWords Go.Proofs.YtbicfbnempiocaaGreatW.PrintLast Go.Proofs.YtbicfbnempiocaaGreatW.PrintMore
section
attribute [local go_sem] max2_int min2_int max_two min_two max_three min_three max_four min_four
mutual
def laganlaw06_AwardChange.j0 : Nat → List (S69) → List (S69) → Bool → Option (Bool)
 | 0, _, _, _ => none
 | k + 1, x0, x1, x18 => if x18 = true then ((laganlaw06_paid.f).bind fun t965 => (some t965)) else ((award_Change.f x0 x1).bind fun bt966 => ((award_Change.f x1 x0).bind fun bt970 => (if bt966.2 = 0 then (laganlaw06_AwardChange.j1 k x0 x1 bt966.1 bt966.2 bt970.1 bt970.2 (bt970.2 != 0)) else (laganlaw06_AwardChange.j1 k x0 x1 bt966.1 bt966.2 bt970.1 bt970.2 true))))
def laganlaw06_AwardChange.j1 : Nat → List (S69) → List (S69) → List (S69) → Int → List (S69) → Int → Bool → Option (Bool)
 | 0, _, _, _, _, _, _, _ => none
 | k + 1, x0, x1, x5, x6, x7, x8, x37 => if x37 = true then ((laganlaw06_paid.f).bind fun t974 => (if t974 = true then (if x6 = 0 then (some false) else (if x8 = 0 then (some false) else (some ((wrap64 ((x5.length : Int) + (x7.length : Int))) == 0)))) else (some false))) else (if (x5.length : Int) = (x7.length : Int) then (laganlaw06_AwardChange.l0 k x0 x1 x5 x7 0) else (some false))
def laganlaw06_AwardChange.l0 : Nat → List (S69) → List (S69) → List (S69) → List (S69) → Int → Option (Bool)
 | 0, _, _, _, _, _ => none
 | k + 1, x0, x1, x5, x7, x9 => if x9 < (x5.length : Int) then (if 0 ≤ x9 then (if ((rd_T69 x5 x9).f1) = 0 then (some false) else (if x9 < (x7.length : Int) then (if ((rd_T69 x7 x9).f0) = ((rd_T69 x5 x9).f0) then (if ((rd_T69 x7 x9).f1) = (wrap64 (-((rd_T69 x5 x9).f1))) then (laganlaw06_AwardChange.l0 k x0 x1 x5 x7 (wrap64 (x9 + 1))) else (some false)) else (some false)) else (none))) else (none)) else (laganlaw06_AwardChange.l1 k x0 x1 x5 0)
def laganlaw06_AwardChange.l1 : Nat → List (S69) → List (S69) → List (S69) → Int → Option (Bool)
 | 0, _, _, _, _ => none
 | k + 1, x0, x1, x5, x10 => if x10 ≤ 40 then ((award_Of.f k 0 0 0 0 0 x0 x10).bind fun t981 => ((award_Of.f k 0 0 0 0 0 x5 x10).bind fun t982 => ((award_Of.f k 0 0 0 0 0 x1 x10).bind fun t983 => (if (wrap64 (t981 + t982)) = t983 then (laganlaw06_AwardChange.l1 k x0 x1 x5 (wrap64 (x10 + 1))) else (some false))))) else ((laganlaw06_paid.f).bind fun t980 => (some t980))
end
def laganlaw06_AwardChange.f (k : Nat) (l0 : List (S69)) (l1 : List (S69)) : Option (Bool) := if (l0.length : Int) > 60 then (laganlaw06_AwardChange.j0 k l0 l1 true) else (laganlaw06_AwardChange.j0 k l0 l1 (decide ((l1.length : Int) > 60)))
set_option maxHeartbeats 8000000 in
set_option maxRecDepth 100000 in
theorem laganlaw06_AwardChange.calls (k : Nat) (A0 : Option Addr) (c0 : Nat) (l0 : List (S69)) (A1 : Option Addr) (c1 : Nat) (l1 : List (S69)) (r : Bool) (w : World) (hr_ : Aq (r = true)) (hr0 : Kd.C k69 w A0 l0.length l0) (hc0 : l0.length ≤ c0) (hr1 : Kd.C k69 w A1 l1.length l1) (hc1 : l1.length ≤ c1) (h : laganlaw06_AwardChange.f k l0 l1 = some r) :
  Calls Tryz.prog 11 #[.slice A0 l0.length c0, .slice A1 l1.length c1] w fun e w' => e = .returned (.bool r) ∧ Below w.heap.size w w' := by
 have hu59 := Tryz.underlying59
 have HR0 := Aq.mk hr0
 have HC0 := Aq.mk hc0
 clear hr0 hc0
 have HR1 := Aq.mk hr1
 have HC1 := Aq.mk hc1
 clear hr1 hc1
 have HB := Aq.mk (Below.refl w.heap.size w)
 have H : (if (l0.length : Int) > 60 then (laganlaw06_AwardChange.j0 k l0 l1 true) else (laganlaw06_AwardChange.j0 k l0 l1 (decide ((l1.length : Int) > 60)))) = some r := h
 clear h
 have HC3 := Aq.mk H
 clear H
 go_enter Tryz.func11, Tryz.ntmps11
 go_upto_region 1 with (fail)
 repeat (go_quiet (fail); go_upto_region 1 with (fail))
 go_cut [18] (fun v18 wc => ∃ (kq : Nat) (x18_2 : Bool), v18 = .bool x18_2 ∧ Aq (laganlaw06_AwardChange.j0 kq l0 l1 x18_2 = some r) ∧ Aq (kq ≤ k) ∧ Aq (Below w.heap.size w wc))
 case first =>
  have H := HC3.out
  clear HC3
  replace H := oI H; rcases H with ⟨c4, H⟩ | ⟨c4, H⟩
  ·have c4b0 : decide (60 < (l0.length : Int)) = true := decide_eq_true c4
   have c4b1 : decide (60 < l0.length) = true := decide_eq_true (by omega)
   clear c4
   (first | rw [c4b0] | (simp only [i64_w, i32_w]; rw [c4b0]) | skip)
   have H' := Aq.mk H
   clear H
   go_wp2
   repeat (go_quiet (fail); try go_wp2)
   go_meet
   case rel => exact ⟨_, (true), sS, H', ⟨by first | omega | exact Nat.le_refl _⟩, ⟨sB HB.out⟩⟩
  ·have c4b0 : decide (60 < (l0.length : Int)) = false := decide_eq_false c4
   have c4b1 : decide (60 < l0.length) = false := decide_eq_false (by omega)
   clear c4
   (first | rw [c4b0] | (simp only [i64_w, i32_w]; rw [c4b0]) | skip)
   have H' := Aq.mk H
   clear H
   go_wp2
   repeat (go_quiet (fail); try go_wp2)
   go_meet
   case rel => exact ⟨_, (decide ((l1.length : Int) > 60)), sS, H', ⟨by first | omega | exact Nat.le_refl _⟩, ⟨sB HB.out⟩⟩
 case rest =>
  clear HC3
  try clear c1
  obtain ⟨kq, x18_2, rfl, HA, HJ2, HB⟩ := hcut
  cases kq with
  | zero => exact absurd HA.out (by simp [laganlaw06_AwardChange.j0])
  | succ kj2 =>
   have H := HA.out
   clear HA
   simp only [laganlaw06_AwardChange.j0] at H
   replace H := oT H; rcases H with ⟨rfl, H⟩ | ⟨rfl, H⟩
   ·replace H := oB H; obtain ⟨t965, A6, H⟩ := H
    obtain rfl := Option.some.inj H
    go_wp2_with (first | (go_at_call 16; (with_reducible refine cX (laganlaw06_paid.calls  t965 _ A6.out) ?_); intro w7 hb; replace HB := yB HB hb; try clear hb))
    repeat (go_quiet (first | (go_at_call 16; (with_reducible refine cX (laganlaw06_paid.calls  t965 _ A6.out) ?_); intro w7 hb; replace HB := yB HB hb; try clear hb)); try go_wp2_with (first | (go_at_call 16; (with_reducible refine cX (laganlaw06_paid.calls  t965 _ A6.out) ?_); intro w7 hb; replace HB := yB HB hb; try clear hb)))
    go_ret
    exact ⟨sE, sB HB.out⟩
   ·replace H := oB H; obtain ⟨⟨t966, t967⟩, A8, H⟩ := H
    dsimp only at H
    replace H := oB H; obtain ⟨⟨t970, t971⟩, A9, H⟩ := H
    dsimp only at H
    have HC10 := Aq.mk H
    clear H
    go_upto_region 5 with (first | (go_at_call 42; (with_reducible refine (award_Change.calls _ _ l0 _ _ l1 t966 t967 _ ?side1 ?side2 ?side3 ?side4 A8.out).mono ?_); (case side1 => exact yC HR0 HB); (case side2 => exact HC0.out); (case side3 => exact yC HR1 HB); (case side4 => exact HC1.out); rintro e w11 ⟨v968, rfl, ho0, hb⟩; have HO969 := Aq.mk (Kd.R_lower ho0 (bZ_ (sB HB.out))); replace HB := yB HB hb; try clear hb; (try clear ho0)) | (go_at_call 42; (with_reducible refine (award_Change.calls _ _ l1 _ _ l0 t970 t971 _ ?side1 ?side2 ?side3 ?side4 A9.out).mono ?_); (case side1 => exact yC HR1 HB); (case side2 => exact HC1.out); (case side3 => exact yC HR0 HB); (case side4 => exact HC0.out); rintro e w12 ⟨v972, rfl, ho0, hb⟩; have HO973 := Aq.mk (Kd.R_lower (Kd.R_new' ho0 (Kd.R_lt (sR HO969.out))) (bZ_ (sB HB.out))); replace HO969 := Aq.mk (Kd.R_elder' (sR HO969.out) (Kd.R_base ho0) hb); replace HB := yB HB hb; try clear hb; (try clear ho0)))
    repeat (go_quiet (first | (go_at_call 42; (with_reducible refine (award_Change.calls _ _ l0 _ _ l1 t966 t967 _ ?side1 ?side2 ?side3 ?side4 A8.out).mono ?_); (case side1 => exact yC HR0 HB); (case side2 => exact HC0.out); (case side3 => exact yC HR1 HB); (case side4 => exact HC1.out); rintro e w11 ⟨v968, rfl, ho0, hb⟩; have HO969 := Aq.mk (Kd.R_lower ho0 (bZ_ (sB HB.out))); replace HB := yB HB hb; try clear hb; (try clear ho0)) | (go_at_call 42; (with_reducible refine (award_Change.calls _ _ l1 _ _ l0 t970 t971 _ ?side1 ?side2 ?side3 ?side4 A9.out).mono ?_); (case side1 => exact yC HR1 HB); (case side2 => exact HC1.out); (case side3 => exact yC HR0 HB); (case side4 => exact HC0.out); rintro e w12 ⟨v972, rfl, ho0, hb⟩; have HO973 := Aq.mk (Kd.R_lower (Kd.R_new' ho0 (Kd.R_lt (sR HO969.out))) (bZ_ (sB HB.out))); replace HO969 := Aq.mk (Kd.R_elder' (sR HO969.out) (Kd.R_base ho0) hb); replace HB := yB HB hb; try clear hb; (try clear ho0))); go_upto_region 5 with (first | (go_at_call 42; (with_reducible refine (award_Change.calls _ _ l0 _ _ l1 t966 t967 _ ?side1 ?side2 ?side3 ?side4 A8.out).mono ?_); (case side1 => exact yC HR0 HB); (case side2 => exact HC0.out); (case side3 => exact yC HR1 HB); (case side4 => exact HC1.out); rintro e w11 ⟨v968, rfl, ho0, hb⟩; have HO969 := Aq.mk (Kd.R_lower ho0 (bZ_ (sB HB.out))); replace HB := yB HB hb; try clear hb; (try clear ho0)) | (go_at_call 42; (with_reducible refine (award_Change.calls _ _ l1 _ _ l0 t970 t971 _ ?side1 ?side2 ?side3 ?side4 A9.out).mono ?_); (case side1 => exact yC HR1 HB); (case side2 => exact HC1.out); (case side3 => exact yC HR0 HB); (case side4 => exact HC0.out); rintro e w12 ⟨v972, rfl, ho0, hb⟩; have HO973 := Aq.mk (Kd.R_lower (Kd.R_new' ho0 (Kd.R_lt (sR HO969.out))) (bZ_ (sB HB.out))); replace HO969 := Aq.mk (Kd.R_elder' (sR HO969.out) (Kd.R_base ho0) hb); replace HB := yB HB hb; try clear hb; (try clear ho0))))
    (try simp only [Act.put, List.setIfInBounds_toArray, List.set_cons_zero, List.set_cons_succ])
    go_cut [37] (fun v37 wc => ∃ (kq : Nat) (x37_9 : Bool), v37 = .bool x37_9 ∧ Aq (laganlaw06_AwardChange.j1 kq l0 l1 t966 t967 t970 t971 x37_9 = some r) ∧ Aq (kq ≤ kj2) ∧ Aq (Kd.R k69 69 wc w.heap.size (fun k_ => some k_ ≠ (v972 : Value).ownBlock) v968 t966) ∧ Aq (Kd.R k69 69 wc w.heap.size (fun k_ => some k_ ≠ (v968 : Value).ownBlock) v972 t970) ∧ Aq (Below w.heap.size w wc))
    case first =>
     have H := HC10.out
     clear HC10
     replace H := oI H; rcases H with ⟨c13, H⟩ | ⟨c13, H⟩
     ·have c13b0 := bT c13
      have c13b1 := bN c13
      clear c13
      (first | rw [c13b0] | (simp only [i64_w, i32_w]; rw [c13b0]) | skip)
      have H' := Aq.mk H
      clear H
      go_wp2
      repeat (go_quiet (fail); try go_wp2)
      go_meet
      case rel => exact ⟨_, ((t971 != 0)), sS, H', ⟨by have := HJ2.out; first | omega | exact Nat.le_refl _⟩, ⟨by refine wR ?_; exact Kd.R_mono HO969.out (fun _ hk => hk.2)⟩, ⟨by refine wR ?_; exact Kd.R_mono HO973.out (fun _ hk => hk.2)⟩, ⟨sB HB.out⟩⟩
     ·have c13b0 := bF c13
      have c13b1 := bM c13
      (first | rw [c13b0] | (simp only [i64_w, i32_w]; rw [c13b0]) | skip)
      have H' := Aq.mk H
      clear H
      go_wp2
      repeat (go_quiet (fail); try go_wp2)
      go_meet
      case rel => exact ⟨_, (true), sS, H', ⟨by have := HJ2.out; first | omega | exact Nat.le_refl _⟩, ⟨by refine wR ?_; exact Kd.R_mono HO969.out (fun _ hk => hk.2)⟩, ⟨by refine wR ?_; exact Kd.R_mono HO973.out (fun _ hk => hk.2)⟩, ⟨sB HB.out⟩⟩
    case rest =>
     clear HC10
     try clear c1
     obtain ⟨kq, x37_9, rfl, HA, HJ9, HO_5, HO_7, HB⟩ := hcut
     cases kq with
     | zero => exact absurd HA.out (by simp [laganlaw06_AwardChange.j1])
     | succ kj9 =>
      have H := HA.out
      clear HA
      simp only [laganlaw06_AwardChange.j1] at H
      replace H := oT H; rcases H with ⟨rfl, H⟩ | ⟨rfl, H⟩
      ·replace H := oB H; obtain ⟨t974, A15, H⟩ := H
       replace H := oT H; rcases H with ⟨rfl, H⟩ | ⟨rfl, H⟩
       ·replace H := oI H; rcases H with ⟨c17, H⟩ | ⟨c17, H⟩
        ·have c17b0 := bT c17
         have c17b1 := bN c17
         clear c17
         obtain rfl := Option.some.inj H
         exact absurd hr_.out (by decide)
        ·have c17b0 := bF c17
         have c17b1 := bM c17
         replace H := oI H; rcases H with ⟨c18, H⟩ | ⟨c18, H⟩
         ·have c18b0 := bT c18
          have c18b1 := bN c18
          clear c18
          obtain rfl := Option.some.inj H
          exact absurd hr_.out (by decide)
         ·have c18b0 := bF c18
          have c18b1 := bM c18
          obtain rfl := Option.some.inj H
          go_wp2_with (first | (go_at_call 16; (with_reducible refine cX (laganlaw06_paid.calls  true _ A15.out) ?_); intro w19 hb; replace HO_5 := yR HO_5 hb; replace HO_7 := yR HO_7 hb; replace HB := yB HB hb; try clear hb; obtain ⟨Ao20, co20, eo20⟩ := Kd.R_slice HO_5.out; subst eo20; obtain ⟨Ao21, co21, eo21⟩ := Kd.R_slice HO_7.out; subst eo21))
          repeat (go_quiet (first | (go_at_call 16; (with_reducible refine cX (laganlaw06_paid.calls  true _ A15.out) ?_); intro w19 hb; replace HO_5 := yR HO_5 hb; replace HO_7 := yR HO_7 hb; replace HB := yB HB hb; try clear hb; obtain ⟨Ao20, co20, eo20⟩ := Kd.R_slice HO_5.out; subst eo20; obtain ⟨Ao21, co21, eo21⟩ := Kd.R_slice HO_7.out; subst eo21)); try go_wp2_with (first | (go_at_call 16; (with_reducible refine cX (laganlaw06_paid.calls  true _ A15.out) ?_); intro w19 hb; replace HO_5 := yR HO_5 hb; replace HO_7 := yR HO_7 hb; replace HB := yB HB hb; try clear hb; obtain ⟨Ao20, co20, eo20⟩ := Kd.R_slice HO_5.out; subst eo20; obtain ⟨Ao21, co21, eo21⟩ := Kd.R_slice HO_7.out; subst eo21)))
          go_ret
          exact ⟨sE, sB HB.out⟩
       ·obtain rfl := Option.some.inj H
        exact absurd hr_.out (by decide)
      ·replace H := oI H; rcases H with ⟨c22, H⟩ | ⟨c22, H⟩
       ·have c22b0 := bT c22
        have c22b1 := bN c22
        have c22b2 : (t966.length == t970.length) = true := by first | simpa using c22 | (simp at c22 ⊢; omega)
        clear c22
        have H' := Aq.mk H
        clear H
        obtain ⟨Ao23, co23, eo23⟩ := Kd.R_slice HO_5.out
        subst eo23
        obtain ⟨Ao24, co24, eo24⟩ := Kd.R_slice HO_7.out
        subst eo24
        go_wp2
        repeat (go_quiet (fail); try go_wp2)
        go_loopg [9] kj9 (fun kq v9 w' => ∃ (x9_3 : Int), v9 = .int .i64 x9_3 ∧ Aq (laganlaw06_AwardChange.l0 kq l0 l1 t966 t970 x9_3 = some r) ∧ Aq (kq ≤ kj9) ∧ Aq (Kd.R k69 69 w' w.heap.size (fun k_ => some k_ ≠ ((.slice Ao24 t970.length co24) : Value).ownBlock) (.slice Ao23 t966.length co23) t966) ∧ Aq (Kd.R k69 69 w' w.heap.size (fun k_ => some k_ ≠ ((.slice Ao23 t966.length co23) : Value).ownBlock) (.slice Ao24 t970.length co24) t970) ∧ Aq (Below w.heap.size w w'))
        case atStart => exact ⟨(0), sS, H', ⟨Nat.le_refl _⟩, ⟨sR HO_5.out⟩, ⟨sR HO_7.out⟩, ⟨sB HB.out⟩⟩
        case round =>
         clear H'
         try clear c1
         try clear c22
         try clear c22b0
         obtain ⟨x9_3, rfl, HA, HK3, HO_5, HO_7, HB⟩ := hrel
         cases gk with
         | zero => exact absurd HA.out (by simp [laganlaw06_AwardChange.l0])
         | succ k3 =>
          have H := HA.out
          clear HA
          simp only [laganlaw06_AwardChange.l0] at H
          replace H := oI H; rcases H with ⟨c25, H⟩ | ⟨c25, H⟩
          ·have c25b0 := dT c25
           clear c25
           replace H := oI H; rcases H with ⟨c26, H⟩ | ⟨c26, H⟩
           ·have c26b0 := dT c26
            clear c26
            replace H := oI H; rcases H with ⟨c27, H⟩ | ⟨c27, H⟩
            ·have c27b0 := bT c27
             have c27b1 := bN c27
             clear c27
             obtain rfl := Option.some.inj H
             exact absurd hr_.out (by decide)
            ·have c27b0 := bF c27
             have c27b1 := bM c27
             replace H := oI H; rcases H with ⟨c28, H⟩ | ⟨c28, H⟩
             ·have c28b0 := dT c28
              clear c28
              replace H := oI H; rcases H with ⟨c29, H⟩ | ⟨c29, H⟩
              ·have c29b0 := bT c29
               have c29b1 := bN c29
               clear c29
               replace H := oI H; rcases H with ⟨c30, H⟩ | ⟨c30, H⟩
               ·have c30b0 := bT c30
                have c30b1 := bN c30
                clear c30
                have H' := Aq.mk H
                clear H
                have p975 : 0 ≤ (x9_3 : Int) := oA
                have q975 : x9_3 < (t966.length : Int) := oA
                obtain ⟨ad975, e975, hx975_0, hx975_1⟩ := at_T69 (Kd.R_reads' HO_5.out).2.2 x9_3 p975 q975
                cases e975
                replace p975 := eq_true p975
                replace q975 := eq_true q975
                have p976 : 0 ≤ (x9_3 : Int) := oA
                have q976 : x9_3 < (t970.length : Int) := oA
                obtain ⟨ad976, e976, hx976_0, hx976_1⟩ := at_T69 (Kd.R_reads' HO_7.out).2.2 x9_3 p976 q976
                cases e976
                replace p976 := eq_true p976
                replace q976 := eq_true q976
                go_wp2
                repeat (go_quiet (fail); try go_wp2)
                go_roundg k3
                case measure => have := HJ2.out; have := HJ9.out; have := HK3.out; omega
                case rel => exact ⟨(wrap64 (x9_3 + 1)), sS, H', ⟨by have := HJ2.out; have := HJ9.out; have := HK3.out; omega⟩, ⟨sR HO_5.out⟩, ⟨sR HO_7.out⟩, ⟨sB HB.out⟩⟩
               ·have c30b0 := bF c30
                have c30b1 := bM c30
                obtain rfl := Option.some.inj H
                exact absurd hr_.out (by decide)
              ·have c29b0 := bF c29
               have c29b1 := bM c29
               obtain rfl := Option.some.inj H
               exact absurd hr_.out (by decide)
             ·exact absurd H (by simp)
           ·exact absurd H (by simp)
          ·have c25b0 := dF c25
           clear c25
           have H' := Aq.mk H
           clear H
           go_wp2
           repeat (go_quiet (fail); try go_wp2)
           go_loopg [10] k3 (fun kq v10 w' => ∃ (x10_4 : Int), v10 = .int .i64 x10_4 ∧ Aq (laganlaw06_AwardChange.l1 kq l0 l1 t966 x10_4 = some r) ∧ Aq (kq ≤ k3) ∧ Aq (Kd.R k69 69 w' w.heap.size (fun _ => True) (.slice Ao23 t966.length co23) t966) ∧ Aq (Below w.heap.size w w'))
           case atStart => exact ⟨(0), sS, H', ⟨Nat.le_refl _⟩, ⟨by refine wR ?_; exact Kd.R_mono HO_5.out (fun _ hk => trivial)⟩, ⟨sB HB.out⟩⟩
           case round =>
            clear H'
            try clear c1
            try clear c22
            try clear c22b0
            try clear c25
            try clear c25b0
            obtain ⟨x10_4, rfl, HA, HK4, HO_5, HB⟩ := hrel
            cases gk with
            | zero => exact absurd HA.out (by simp [laganlaw06_AwardChange.l1])
            | succ k4 =>
             have H := HA.out
             clear HA
             simp only [laganlaw06_AwardChange.l1] at H
             replace H := oI H; rcases H with ⟨c31, H⟩ | ⟨c31, H⟩
             ·have c31b0 := dT c31
              clear c31
              replace H := oB H; obtain ⟨t981, A32, H⟩ := H
              replace H := oB H; obtain ⟨t982, A33, H⟩ := H
              replace H := oB H; obtain ⟨t983, A34, H⟩ := H
              replace H := oI H; rcases H with ⟨c35, H⟩ | ⟨c35, H⟩
              ·have c35b0 := bT c35
               have c35b1 := bN c35
               clear c35
               have H' := Aq.mk H
               clear H
               go_wp2_with (first | (go_at_call 40; (with_reducible refine (award_Of.calls k4 0 0 0 0 0 _ _ l0 x10_4 t981 _ ?side1 ?side2 A32.out).mono ?_); (case side1 => exact yC HR0 HB); (case side2 => exact HC0.out); rintro e w36 ⟨rfl, hb⟩; replace HO_5 := yR HO_5 hb; replace HB := yB HB hb; try clear hb) | (go_at_call 40; (with_reducible refine (award_Of.calls k4 0 0 0 0 0 _ _ t966 x10_4 t982 _ ?side1 ?side2 A33.out).mono ?_); (case side1 => exact sC (Kd.R_reads' HO_5.out).2.2); (case side2 => exact (Kd.R_reads' HO_5.out).2.1); rintro e w37 ⟨rfl, hb⟩; replace HO_5 := yR HO_5 hb; replace HB := yB HB hb; try clear hb) | (go_at_call 40; (with_reducible refine (award_Of.calls k4 0 0 0 0 0 _ _ l1 x10_4 t983 _ ?side1 ?side2 A34.out).mono ?_); (case side1 => exact yC HR1 HB); (case side2 => exact HC1.out); rintro e w38 ⟨rfl, hb⟩; replace HO_5 := yR HO_5 hb; replace HB := yB HB hb; try clear hb))
               repeat (go_quiet (first | (go_at_call 40; (with_reducible refine (award_Of.calls k4 0 0 0 0 0 _ _ l0 x10_4 t981 _ ?side1 ?side2 A32.out).mono ?_); (case side1 => exact yC HR0 HB); (case side2 => exact HC0.out); rintro e w36 ⟨rfl, hb⟩; replace HO_5 := yR HO_5 hb; replace HB := yB HB hb; try clear hb) | (go_at_call 40; (with_reducible refine (award_Of.calls k4 0 0 0 0 0 _ _ t966 x10_4 t982 _ ?side1 ?side2 A33.out).mono ?_); (case side1 => exact sC (Kd.R_reads' HO_5.out).2.2); (case side2 => exact (Kd.R_reads' HO_5.out).2.1); rintro e w37 ⟨rfl, hb⟩; replace HO_5 := yR HO_5 hb; replace HB := yB HB hb; try clear hb) | (go_at_call 40; (with_reducible refine (award_Of.calls k4 0 0 0 0 0 _ _ l1 x10_4 t983 _ ?side1 ?side2 A34.out).mono ?_); (case side1 => exact yC HR1 HB); (case side2 => exact HC1.out); rintro e w38 ⟨rfl, hb⟩; replace HO_5 := yR HO_5 hb; replace HB := yB HB hb; try clear hb)); try go_wp2_with (first | (go_at_call 40; (with_reducible refine (award_Of.calls k4 0 0 0 0 0 _ _ l0 x10_4 t981 _ ?side1 ?side2 A32.out).mono ?_); (case side1 => exact yC HR0 HB); (case side2 => exact HC0.out); rintro e w36 ⟨rfl, hb⟩; replace HO_5 := yR HO_5 hb; replace HB := yB HB hb; try clear hb) | (go_at_call 40; (with_reducible refine (award_Of.calls k4 0 0 0 0 0 _ _ t966 x10_4 t982 _ ?side1 ?side2 A33.out).mono ?_); (case side1 => exact sC (Kd.R_reads' HO_5.out).2.2); (case side2 => exact (Kd.R_reads' HO_5.out).2.1); rintro e w37 ⟨rfl, hb⟩; replace HO_5 := yR HO_5 hb; replace HB := yB HB hb; try clear hb) | (go_at_call 40; (with_reducible refine (award_Of.calls k4 0 0 0 0 0 _ _ l1 x10_4 t983 _ ?side1 ?side2 A34.out).mono ?_); (case side1 => exact yC HR1 HB); (case side2 => exact HC1.out); rintro e w38 ⟨rfl, hb⟩; replace HO_5 := yR HO_5 hb; replace HB := yB HB hb; try clear hb)))
               go_roundg k4
               case measure => have := HJ2.out; have := HJ9.out; have := HK3.out; have := HK4.out; omega
               case rel => exact ⟨(wrap64 (x10_4 + 1)), sS, H', ⟨by have := HJ2.out; have := HJ9.out; have := HK3.out; have := HK4.out; omega⟩, ⟨sR HO_5.out⟩, ⟨sB HB.out⟩⟩
              ·have c35b0 := bF c35
               have c35b1 := bM c35
               obtain rfl := Option.some.inj H
               exact absurd hr_.out (by decide)
             ·have c31b0 := dF c31
              clear c31
              replace H := oB H; obtain ⟨t980, A39, H⟩ := H
              obtain rfl := Option.some.inj H
              go_wp2_with (first | (go_at_call 16; (with_reducible refine cX (laganlaw06_paid.calls  t980 _ A39.out) ?_); intro w40 hb; replace HO_5 := yR HO_5 hb; replace HB := yB HB hb; try clear hb))
              repeat (go_quiet (first | (go_at_call 16; (with_reducible refine cX (laganlaw06_paid.calls  t980 _ A39.out) ?_); intro w40 hb; replace HO_5 := yR HO_5 hb; replace HB := yB HB hb; try clear hb)); try go_wp2_with (first | (go_at_call 16; (with_reducible refine cX (laganlaw06_paid.calls  t980 _ A39.out) ?_); intro w40 hb; replace HO_5 := yR HO_5 hb; replace HB := yB HB hb; try clear hb)))
              go_ret
              exact ⟨sE, sB HB.out⟩
       ·have c22b0 := bF c22
        have c22b1 := bM c22
        have c22b2 : (t966.length == t970.length) = false := by first | simpa using c22 | (simp at c22 ⊢; omega)
        obtain rfl := Option.some.inj H
        exact absurd hr_.out (by decide)
end
section
open Go.Shelf
theorem rdT_get (l : List S69) (i : Nat) (h : i < l.length) : rd_T69 l (i : Int) = l[i] := by
 unfold rd_T69
 rw [Int.toNat_natCast, List.getD_eq_getElem?_getD, List.getElem?_eq_getElem h]
 rfl
theorem change_l1 (a b x : List S69) (D : Int → Int) (ha : a.length ≤ 60) (hb : b.length ≤ 60) (hx : x.length ≤ 41) (ba : ∀ y ∈ a, -1000000000000 ≤ y.f1 ∧ y.f1 ≤ 1000000000000) (bb : ∀ y ∈ b, -1000000000000 ≤ y.f1 ∧ y.f1 ≤ 1000000000000) (bx : ∀ y ∈ x, -1000000000000 ≤ y.f1 ∧ y.f1 ≤ 1000000000000)
  (hD : ∀ p, D p = shT b p - shT a p) (hxD : ∀ p, 0 ≤ p → p ≤ 40 → shT x p = D p) : ∀ (d p k : Nat), 41 - p < d → d + 70 ≤ k → p ≤ 41 → laganlaw06_AwardChange.l1 k a b x (p : Int) = some true
 | 0, p, k, h, _, _ => by omega
 | d + 1, p, k, h, hk, hp => by
  obtain ⟨k, rfl⟩ : ∃ m, k = m + 1 := ⟨k - 1, by omega⟩
  unfold laganlaw06_AwardChange.l1
  have hw : ∀ z : Int, -9223372036854775808 ≤ z ∧ z ≤ 9223372036854775807 → wrap64 z = z := fun z hz => IntWalk.wrap64_in z hz
  by_cases h40 : (p : Int) ≤ 40
  ·rw [if_pos h40, of_val 0 0 0 0 0 p a k (by omega) (by omega) ba, of_val 0 0 0 0 0 p x k (by omega) (by omega) bx, of_val 0 0 0 0 0 p b k (by omega) (by omega) bb]
   simp only [Option.bind_some]
   have hs := hxD p (by omega) h40
   rw [hD] at hs
   have b1 := shT_bd 1000000000000 (by decide) p b bb
   rw [if_pos (by rw [hw _ (by rw [hs]; omega), hs]; omega), hw _ (by omega), show (p : Int) + 1 = ((p + 1 : Nat) : Int) by omega]
   exact change_l1 a b x D ha hb hx ba bb bx hD hxD d (p + 1) k (by omega) (by omega) (by omega)
  ·rw [if_neg h40]
   rfl
theorem change_l0 (a b : List S69) (D E : Int → Int) (ha : a.length ≤ 60) (hb : b.length ≤ 60) (ba : ∀ y ∈ a, -1000000000 ≤ y.f1 ∧ y.f1 ≤ 1000000000) (bb : ∀ y ∈ b, -1000000000 ≤ y.f1 ∧ y.f1 ≤ 1000000000)
  (hD : ∀ p, D p = shT b p - shT a p) (hE : ∀ p, E p = shT a p - shT b p) : ∀ (d i k : Nat), (listF D).length - i < d → d + 120 ≤ k → i ≤ (listF D).length → laganlaw06_AwardChange.l0 k a b (listF D) (listF E) (i : Int) = some true := by
 have hK : keysL E = keysL D := by
  unfold keysL
  congr 1
  funext p
  have h1 := hD p
  have h2 := hE p
  by_cases h : D p = 0
  ·have : E p = 0 := by omega
   rw [h, this]
  ·have : E p ≠ 0 := by omega
   rw [bne_iff_ne.2 h, bne_iff_ne.2 this]
 have hlen : (listF E).length = (listF D).length := by unfold listF; rw [List.length_map, List.length_map, hK]
 have hl41 : (listF D).length ≤ 41 := by unfold listF; rw [List.length_map]; exact keysL_len D
 have bD : ∀ p, -120000000000 ≤ D p ∧ D p ≤ 120000000000 := fun p => by
  have h1 := shT_bd 1000000000 (by decide) p a ba
  have h2 := shT_bd 1000000000 (by decide) p b bb
  rw [hD]
  omega
 have bx : ∀ y ∈ listF D, -1000000000000 ≤ y.f1 ∧ y.f1 ≤ 1000000000000 := fun y hy => by
  unfold listF at hy
  obtain ⟨q, _, rfl⟩ := List.mem_map.1 hy
  have := bD q
  show -1000000000000 ≤ D q ∧ D q ≤ 1000000000000
  omega
 have hw : ∀ z : Int, -9223372036854775808 ≤ z ∧ z ≤ 9223372036854775807 → wrap64 z = z := fun z hz => IntWalk.wrap64_in z hz
 intro d
 induction d with
 | zero => intro i k h; omega
 | succ d ih =>
  intro i k h hk hi
  obtain ⟨k, rfl⟩ : ∃ m, k = m + 1 := ⟨k - 1, by omega⟩
  unfold laganlaw06_AwardChange.l0
  by_cases hlt : i < (listF D).length
  ·have hi' : i < (keysL D).length := by unfold listF at hlt; rwa [List.length_map] at hlt
   have g1 : rd_T69 (listF D) (i : Int) = ⟨(keysL D)[i], D (keysL D)[i]⟩ := by rw [rdT_get _ i hlt]; simp [listF]
   have g2 : rd_T69 (listF E) (i : Int) = ⟨(keysL D)[i], E (keysL D)[i]⟩ := by rw [rdT_get _ i (by omega)]; simp [listF, hK]
   have hmem : (keysL D)[i] ∈ keysL D := List.getElem_mem _
   generalize (keysL D)[i] = q at g1 g2 hmem
   have hne : D q ≠ 0 := by
    unfold keysL at hmem
    exact bne_iff_ne.1 (List.mem_filter.1 hmem).2
   have h1 := hD q
   have h2 := hE q
   have h3 := bD q
   rw [g1, g2, hlen, if_pos (by omega), if_pos (by omega), if_neg hne, if_pos (by omega), if_pos rfl, if_pos (by rw [hw _ (by show _ ≤ -(D q) ∧ -(D q) ≤ _; omega)]; show E q = -(D q); omega), hw _ (by omega), show (i : Int) + 1 = ((i + 1 : Nat) : Int) by omega]
   exact ih (i + 1) k (by omega) (by omega) (by omega)
  ·rw [if_neg (by omega)]
   exact change_l1 a b (listF D) D ha hb hl41 (fun y hy => by have := ba y hy; omega) (fun y hy => by have := bb y hy; omega) bx hD (fun p h0 h1 => shT_listF D p h0 h1) 50 0 k (by omega) (by omega) (by omega)
theorem awardChange_true (a b : List S69) : laganlaw06_AwardChange.f 300 a b = some true := by
 have hj : ∀ x18 : Bool, (x18 = false → a.length ≤ 60 ∧ b.length ≤ 60) → laganlaw06_AwardChange.j0 300 a b x18 = some true := by
  intro x18 h
  obtain ⟨k, hk⟩ : ∃ k, k = 298 := ⟨_, rfl⟩
  rw [show 300 = k + 1 + 1 by omega]
  cases x18 with
  | true => simp [laganlaw06_AwardChange.j0, laganlaw06_paid.f]
  | false =>
   obtain ⟨ha, hb⟩ := h rfl
   simp only [laganlaw06_AwardChange.j0, Bool.false_eq_true, if_false]
   unfold award_Change.f
   simp only [Option.bind_some]
   have hbad : ∀ (x6 x8 : Int), x6 ≠ 0 → x8 ≠ 0 → laganlaw06_AwardChange.j1 (k + 1) a b [] x6 [] x8 true = some true := by
    intro x6 x8 h6 h8
    simp [laganlaw06_AwardChange.j1, laganlaw06_paid.f, h6, h8]
    exact IntWalk.wrap64_in 0 (by omega)
   by_cases h1 : mergeS a = 0
   ·by_cases h2 : mergeS b = 0
    ·simp only [h1, h2, ne_eq, not_true_eq_false, if_false, if_true]
     show laganlaw06_AwardChange.j1 (k + 1) a b (changeL a b) 0 (changeL b a) 0 (0 != 0) = some true
     simp only [laganlaw06_AwardChange.j1, bne_self_eq_false, Bool.false_eq_true, if_false]
     rw [change_val h1 h2, change_val h2 h1]
     have hK : (listF fun p => shT a p - shT b p).length = (listF fun p => shT b p - shT a p).length := by
      unfold listF
      rw [List.length_map, List.length_map]
      congr 1
      unfold keysL
      congr 1
      funext p
      show (shT a p - shT b p != 0) = (shT b p - shT a p != 0)
      by_cases h : shT a p = shT b p
      ·rw [h]
      ·rw [bne_iff_ne.2 (show shT a p - shT b p ≠ 0 by omega), bne_iff_ne.2 (show shT b p - shT a p ≠ 0 by omega)]
     have hl41 : (listF fun p => shT b p - shT a p).length ≤ 41 := by unfold listF; rw [List.length_map]; exact keysL_len _
     rw [if_pos (by rw [hK])]
     exact change_l0 a b _ _ ha hb (mergeS_bd h1) (mergeS_bd h2) (fun _ => rfl) (fun _ => rfl) 100 0 k (by omega) (by omega) (by omega)
    ·simp only [h1, h2, ne_eq, not_true_eq_false, not_false_eq_true, if_false, if_true]
     exact hbad _ _ h2 h2
   ·by_cases h2 : mergeS b = 0
    ·simp only [h1, h2, ne_eq, not_true_eq_false, not_false_eq_true, if_false, if_true]
     exact hbad _ _ h1 h1
    ·simp only [h1, h2, ne_eq, not_false_eq_true, if_false, if_true]
     exact hbad _ _ h1 h2
 unfold laganlaw06_AwardChange.f
 split
 ·exact hj true (fun h => by cases h)
 ·exact hj _ (fun h => by rw [decide_eq_false_iff_not] at h; omega)
end
end Go.Proofs.YtbicfbnempiocaaGreat.G
