/- Part 9 of what the law's proof rests on: what each function of the program computes, and that the machine's call of it comes to just that. -/
import Derived.Test.YtbicfbnempiocaaGreatZB0
import Derived.Test.YtbicfbnempiocaaGreatZB1
import Derived.Test.YtbicfbnempiocaaGreatZB2
import Derived.Test.YtbicfbnempiocaaGreatZB3
import Derived.Test.YtbicfbnempiocaaGreatZB4
import Derived.Test.YtbicfbnempiocaaGreatZB5
import Derived.Test.YtbicfbnempiocaaGreatZB6
import Derived.Test.YtbicfbnempiocaaGreatZB7
set_option linter.unusedVariables false
set_option linter.unusedSimpArgs false
namespace Go.Proofs.YtbicfbnempiocaaGreat.G
open Go.RowKit Go.Proofs.YtbicfbnempiocaaGreatW.PrintWords Go.Proofs.YtbicfbnempiocaaGreatW.PrintLast Go.Proofs.YtbicfbnempiocaaGreatW.PrintMore
section
attribute [local go_sem] max2_int min2_int max_two min_two max_three min_three max_four min_four
def award_RateOf.f (l0 : List (S26)) (a1 : ByteArray) (a2 : Int) (a3 : Int) : Option (Int × Int × Int × ByteArray × Int × Int × Int × Int × Int × Int) := (award_CheckRates.f l0).bind fun bt103 => (if bt103.2 = 0 then ((award_inForce.f l0 a1 a2 a3).bind fun bt105 => (if bt105.2.2.2.2.2.2.2.2.2 = true then (some (bt105.1, bt105.2.1, bt105.2.2.1, bt105.2.2.2.1, bt105.2.2.2.2.1, bt105.2.2.2.2.2.1, bt105.2.2.2.2.2.2.1, bt105.2.2.2.2.2.2.2.1, bt105.2.2.2.2.2.2.2.2.1, 0)) else (some (0, 0, 0, (⟨#[]⟩ : ByteArray), 0, 0, 0, 0, 0, 60)))) else (some (0, 0, 0, (⟨#[]⟩ : ByteArray), 0, 0, 0, 0, 0, bt103.2)))
set_option maxHeartbeats 8000000 in
set_option maxRecDepth 100000 in
theorem award_RateOf.calls (A0 : Option Addr) (c0 : Nat) (l0 : List (S26)) (a1 : ByteArray) (a2 : Int) (a3 : Int) (r1 : Int) (r2 : Int) (r3 : Int) (r4 : ByteArray) (r5 : Int) (r6 : Int) (r7 : Int) (r8 : Int) (r9 : Int) (r10 : Int) (w : World) (hr0 : Kd.C k26 w A0 l0.length l0) (hc0 : l0.length ≤ c0) (h : award_RateOf.f l0 a1 a2 a3 = some (r1, r2, r3, r4, r5, r6, r7, r8, r9, r10)) :
  Calls Tryz.prog 17 #[.slice A0 l0.length c0, .string a1, .int .i64 a2, .int .i64 a3] w fun e w' => e = .returned (.tuple #[.agg #[.int .i64 r1, .int .i64 r2, .int .i64 r3, .string r4, .int .i64 r5, .int .i64 r6, .int .i64 r7, .int .i64 r8, .int .i64 r9], .int .i64 r10]) ∧ Below w.heap.size w w' := by
 have hu26 := Tryz.underlying26
 have HR0 := Aq.mk hr0
 have HC0 := Aq.mk hc0
 clear hr0 hc0
 have HB := Aq.mk (Below.refl w.heap.size w)
 have H : ((award_CheckRates.f l0).bind fun bt103 => (if bt103.2 = 0 then ((award_inForce.f l0 a1 a2 a3).bind fun bt105 => (if bt105.2.2.2.2.2.2.2.2.2 = true then (some (bt105.1, bt105.2.1, bt105.2.2.1, bt105.2.2.2.1, bt105.2.2.2.2.1, bt105.2.2.2.2.2.1, bt105.2.2.2.2.2.2.1, bt105.2.2.2.2.2.2.2.1, bt105.2.2.2.2.2.2.2.2.1, 0)) else (some (0, 0, 0, (⟨#[]⟩ : ByteArray), 0, 0, 0, 0, 0, 60)))) else (some (0, 0, 0, (⟨#[]⟩ : ByteArray), 0, 0, 0, 0, 0, bt103.2)))) = some (r1, r2, r3, r4, r5, r6, r7, r8, r9, r10) := h
 clear h
 replace H := oB H; obtain ⟨⟨t103, t104⟩, A5, H⟩ := H
 dsimp only at H
 replace H := oI H; rcases H with ⟨c6, H⟩ | ⟨c6, H⟩
 ·have c6b0 := bT c6
  have c6b1 := bN c6
  clear c6
  replace H := oB H; obtain ⟨⟨t105, t106, t107, t108, t109, t110, t111, t112, t113, t114⟩, A7, H⟩ := H
  dsimp only at H
  replace H := oT H; rcases H with ⟨rfl, H⟩ | ⟨rfl, H⟩
  ·simp only [Option.some.injEq, Prod.mk.injEq] at H
   obtain ⟨rfl, rfl, rfl, rfl, rfl, rfl, rfl, rfl, rfl, rfl⟩ := H
   go_enter Tryz.func17, Tryz.ntmps17
   go_wp2_with (first | ((with_reducible refine gD_ (N := 8) rfl ?_); refine bxE (N := 8) #[.int .i64 0, .int .i64 0, .int .i64 0, .string (⟨#[]⟩ : ByteArray), .int .i64 0, .int .i64 0, .int .i64 0, .int .i64 0, .int .i64 0] 26 ?_; intro gb102 hg w9 hbox hb; have BK102 := Aq.mk hbox; have GW102 := yS HB hg; have GE102 := yS HB hg; replace HB := yB HB hb; clear hb hbox hg) | ((with_reducible refine gD_ (N := 16) rfl ?_); refine gX 16 rfl #[.slice A0 l0.length c0] (award_CheckRates.calls _ _ l0 t103 t104 _ (yC HR0 HB) HC0.out A5.out) ?_; intro w10 hb; replace BK102 := yb BK102 hb; replace HB := yB HB hb; try clear hb) | ((with_reducible refine gD_ (N := 28) rfl ?_); refine gX 28 rfl #[.slice A0 l0.length c0, .string a1, .int .i64 a2, .int .i64 a3] (award_inForce.calls _ _ l0 a1 a2 a3 t105 t106 t107 t108 t109 t110 t111 t112 t113 true _ (yC HR0 HB) HC0.out A7.out) ?_; intro w11 hb; replace BK102 := yb BK102 hb; replace HB := yB HB hb; try clear hb) | ((with_reducible refine gD_ (N := 12) rfl ?_); refine bxE (N := 12) #[.int .i64 0, .int .i64 0, .int .i64 0, .string (⟨#[]⟩ : ByteArray), .int .i64 0, .int .i64 0, .int .i64 0, .int .i64 0, .int .i64 0] 26 ?_; intro gb115 hg w12 hbox hb; have BK115 := Aq.mk hbox; have GW115 := yS HB hg; have GE115 := yS HB hg; have NB102_115 := yN BK102 hg; have NB115_102 := yM BK102 hg; replace BK102 := yb BK102 hb; replace HB := yB HB hb; clear hb hbox hg; have hnb13 := NB115_102.out; have hnc13 := NB102_115.out; obtain ⟨hcz14_0, hcz14_1, hcz14_2, hcz14_3, hcz14_4, hcz14_5, hcz14_6, hcz14_7, hcz14_8, hfz14_0, hfz14_1, hfz14_2, hfz14_3, hfz14_4, hfz14_5, hfz14_6, hfz14_7, hfz14_8⟩ := cf9 BK115.out; obtain ⟨hcz15_0, hcz15_1, hcz15_2, hcz15_3, hcz15_4, hcz15_5, hcz15_6, hcz15_7, hcz15_8, hfz15_0, hfz15_1, hfz15_2, hfz15_3, hfz15_4, hfz15_5, hfz15_6, hfz15_7, hfz15_8⟩ := cf9 BK102.out))
   refine bodyPost_ret (results_ct rfl _ _ gb102 26 #[.int .i64 t105, .int .i64 t106, .int .i64 t107, .string t108, .int .i64 t109, .int .i64 t110, .int .i64 t111, .int .i64 t112, .int .i64 t113] (0, 0) _ rfl (by refine wB ?_; refine pt9 (u0 := .int .i64 0) (u1 := .int .i64 0) (u2 := .int .i64 0) (u3 := .string (⟨#[]⟩ : ByteArray)) (u4 := .int .i64 0) (u5 := .int .i64 0) (u6 := .int .i64 0) (u7 := .int .i64 0) (u8 := .int .i64 0) ?_; refine wB ?_; (repeat refine bF_ ?_ NB102_115.out _); refine wB ?_; exact BK102.out) Tryz.underlying26 rfl (by kernel_rfl)) rfl ?_
   exact ⟨sE, sB HB.out⟩
  ·simp only [Option.some.injEq, Prod.mk.injEq] at H
   obtain ⟨rfl, rfl, rfl, rfl, rfl, rfl, rfl, rfl, rfl, rfl⟩ := H
   go_enter Tryz.func17, Tryz.ntmps17
   go_wp2_with (first | ((with_reducible refine gD_ (N := 8) rfl ?_); refine bxE (N := 8) #[.int .i64 0, .int .i64 0, .int .i64 0, .string (⟨#[]⟩ : ByteArray), .int .i64 0, .int .i64 0, .int .i64 0, .int .i64 0, .int .i64 0] 26 ?_; intro gb102 hg w16 hbox hb; have BK102 := Aq.mk hbox; have GW102 := yS HB hg; have GE102 := yS HB hg; replace HB := yB HB hb; clear hb hbox hg) | ((with_reducible refine gD_ (N := 16) rfl ?_); refine gX 16 rfl #[.slice A0 l0.length c0] (award_CheckRates.calls _ _ l0 t103 t104 _ (yC HR0 HB) HC0.out A5.out) ?_; intro w17 hb; replace BK102 := yb BK102 hb; replace HB := yB HB hb; try clear hb) | ((with_reducible refine gD_ (N := 28) rfl ?_); refine gX 28 rfl #[.slice A0 l0.length c0, .string a1, .int .i64 a2, .int .i64 a3] (award_inForce.calls _ _ l0 a1 a2 a3 t105 t106 t107 t108 t109 t110 t111 t112 t113 false _ (yC HR0 HB) HC0.out A7.out) ?_; intro w18 hb; replace BK102 := yb BK102 hb; replace HB := yB HB hb; try clear hb) | ((with_reducible refine gD_ (N := 12) rfl ?_); refine bxE (N := 12) #[.int .i64 0, .int .i64 0, .int .i64 0, .string (⟨#[]⟩ : ByteArray), .int .i64 0, .int .i64 0, .int .i64 0, .int .i64 0, .int .i64 0] 26 ?_; intro gb115 hg w19 hbox hb; have BK115 := Aq.mk hbox; have GW115 := yS HB hg; have GE115 := yS HB hg; have NB102_115 := yN BK102 hg; have NB115_102 := yM BK102 hg; replace BK102 := yb BK102 hb; replace HB := yB HB hb; clear hb hbox hg; have hnb20 := NB115_102.out; have hnc20 := NB102_115.out; obtain ⟨hcz21_0, hcz21_1, hcz21_2, hcz21_3, hcz21_4, hcz21_5, hcz21_6, hcz21_7, hcz21_8, hfz21_0, hfz21_1, hfz21_2, hfz21_3, hfz21_4, hfz21_5, hfz21_6, hfz21_7, hfz21_8⟩ := cf9 BK115.out; obtain ⟨hcz22_0, hcz22_1, hcz22_2, hcz22_3, hcz22_4, hcz22_5, hcz22_6, hcz22_7, hcz22_8, hfz22_0, hfz22_1, hfz22_2, hfz22_3, hfz22_4, hfz22_5, hfz22_6, hfz22_7, hfz22_8⟩ := cf9 BK102.out))
   refine bodyPost_ret (results_ct rfl _ _ gb102 26 #[.int .i64 0, .int .i64 0, .int .i64 0, .string (⟨#[]⟩ : ByteArray), .int .i64 0, .int .i64 0, .int .i64 0, .int .i64 0, .int .i64 0] (0, 0) _ rfl (by refine wB ?_; refine pt9 (u0 := .int .i64 0) (u1 := .int .i64 0) (u2 := .int .i64 0) (u3 := .string (⟨#[]⟩ : ByteArray)) (u4 := .int .i64 0) (u5 := .int .i64 0) (u6 := .int .i64 0) (u7 := .int .i64 0) (u8 := .int .i64 0) ?_; refine wB ?_; (repeat refine bF_ ?_ NB102_115.out _); refine wB ?_; exact BK102.out) Tryz.underlying26 rfl (by kernel_rfl)) rfl ?_
   exact ⟨sE, sB HB.out⟩
 ·have c6b0 := bF c6
  have c6b1 := bM c6
  simp only [Option.some.injEq, Prod.mk.injEq] at H
  obtain ⟨rfl, rfl, rfl, rfl, rfl, rfl, rfl, rfl, rfl, rfl⟩ := H
  go_enter Tryz.func17, Tryz.ntmps17
  go_wp2_with (first | ((with_reducible refine gD_ (N := 8) rfl ?_); refine bxE (N := 8) #[.int .i64 0, .int .i64 0, .int .i64 0, .string (⟨#[]⟩ : ByteArray), .int .i64 0, .int .i64 0, .int .i64 0, .int .i64 0, .int .i64 0] 26 ?_; intro gb102 hg w23 hbox hb; have BK102 := Aq.mk hbox; have GW102 := yS HB hg; have GE102 := yS HB hg; replace HB := yB HB hb; clear hb hbox hg) | ((with_reducible refine gD_ (N := 16) rfl ?_); refine gX 16 rfl #[.slice A0 l0.length c0] (award_CheckRates.calls _ _ l0 t103 t104 _ (yC HR0 HB) HC0.out A5.out) ?_; intro w24 hb; replace BK102 := yb BK102 hb; replace HB := yB HB hb; try clear hb; obtain ⟨hcz25_0, hcz25_1, hcz25_2, hcz25_3, hcz25_4, hcz25_5, hcz25_6, hcz25_7, hcz25_8, hfz25_0, hfz25_1, hfz25_2, hfz25_3, hfz25_4, hfz25_5, hfz25_6, hfz25_7, hfz25_8⟩ := cf9 BK102.out))
  refine bodyPost_ret (results_ct rfl _ _ gb102 26 #[.int .i64 0, .int .i64 0, .int .i64 0, .string (⟨#[]⟩ : ByteArray), .int .i64 0, .int .i64 0, .int .i64 0, .int .i64 0, .int .i64 0] (0, 0) _ rfl (by refine wB ?_; refine pt9 (u0 := .int .i64 0) (u1 := .int .i64 0) (u2 := .int .i64 0) (u3 := .string (⟨#[]⟩ : ByteArray)) (u4 := .int .i64 0) (u5 := .int .i64 0) (u6 := .int .i64 0) (u7 := .int .i64 0) (u8 := .int .i64 0) ?_; refine wB ?_; exact BK102.out) Tryz.underlying26 rfl (by kernel_rfl)) rfl ?_
  exact ⟨sE, sB HB.out⟩
end
section
open Go.Shelf
set_option maxRecDepth 100000 in
set_option maxHeartbeats 1000000 in
theorem clone_rate (A : Option Addr) (c : Nat) (l : List S26) (w : World) (hr : Kd.C k26 w A l.length l) (hl : l.length ≤ 1000000) :
  Calls Tryz.prog 73 #[.slice A l.length c] w fun e w' => ∃ v : Value, e = .returned v ∧ Kd.R k26 26 w' w.heap.size (fun _ => True) v l ∧ Below w.heap.size w w' := by
 have HR := Aq.mk hr
 clear hr
 have qT : ∀ (w : World) (a : Option Addr) (n c n' c' : Nat), (binOp .eql 22 (.slice a n c) (.slice none n' c')).run Tryz.prog w = .ok (.bool a.isNone) w := fun w a n c n' c' => Lib.run_eql_slice_nil w _ _ a n c n' c' Tryz.underlying22
 cases A with
 | none =>
  have hn : l = [] := by
   cases l with
   | nil => rfl
   | cons x r =>
    obtain ⟨ad, e, _⟩ := HR.out.2.2 (by simp)
    cases e
  subst hn
  clear HR
  go_enter Tryz.func73, Tryz.ntmps73
  go_wp2
  go_ret
  exact ⟨_, rfl, Kd.R_nil _ _ _ _ _, Below.refl _ _⟩
 | some ad =>
  have HB := Aq.mk (Below.refl w.heap.size w)
  go_enter Tryz.func73, Tryz.ntmps73
  go_wp2_with (first
   | ((with_reducible refine gD_ (N := 5) rfl ?_); refine Kd.R_lit k26 (w0 := w) w.heap.size 26 ?hg (N := 5) ?hd (xs := ([] : List S26)) (inner := []) (ok := fun _ => True) (okp := fun _ => True) ?hr ?hp (fun _ hk => hk) trivial HB.out (Nat.le_refl _) (by simp) ?_; (case hd => rfl); (case hg => rfl); (case hr => first | (go_simp; done) | (go_simp; rfl)); (case hp => exact (Reps.none _ _)); intro v1 w1 ho hb _ _; have HO := Aq.mk ho; replace HB := Aq.mk hb; clear ho hb; obtain ⟨Ao, co, eo⟩ := Kd.R_slice HO.out; subst eo)
   | ((with_reducible refine gD_ (N := 7) rfl ?_); refine Kd.R_append_rows k26 (w0 := w) w.heap.size (by rfl) (.tmp 5) (.tmp 6) 22 26 (.agg #[.int .i64 0, .int .i64 0, .int .i64 0, .string ⟨#[]⟩, .int .i64 0, .int .i64 0, .int .i64 0, .int .i64 0, .int .i64 0]) 80 rfl Tryz.underlying22 info26 rfl (by decide) (by omega) (.slice Ao ([] : List S26).length co) [] l _ _ _ (fun _ => True) (fun _ => False) rfl rfl HO.out (Kd.C_below HR.out HB.out) (fun _ _ h => h) (fun _ h => h.elim) (fun _ _ => trivial) HB.out HB.out.size (by simp; omega) ?_; intro v2 w2 ho2 hb2 _ _; have HO2 := Aq.mk ho2; replace HB := Aq.mk hb2; clear ho2 hb2))
  go_ret
  exact ⟨_, rfl, by simpa using HO2.out, HB.out⟩
def slices_CloneRate.f (l : List S26) : Option (List S26) := if l.length ≤ 1000000 then some l else none
theorem slices_CloneRate.calls (A0 : Option Addr) (c0 : Nat) (l0 : List S26) (r : List S26) (w : World) (hr0 : Kd.C k26 w A0 l0.length l0) (hc0 : l0.length ≤ c0) (h : slices_CloneRate.f l0 = some r) :
  Calls Tryz.prog 73 #[.slice A0 l0.length c0] w fun e w' => ∃ v0_ : Value, e = .returned (v0_) ∧ Kd.R k26 26 w' w.heap.size (fun _ => True) v0_ r ∧ Below w.heap.size w w' := by
 unfold slices_CloneRate.f at h
 by_cases hl : l0.length ≤ 1000000
 ·rw [if_pos hl] at h
  obtain rfl := Option.some.inj h
  exact clone_rate A0 c0 l0 w hr0 hl
 ·rw [if_neg hl] at h
  cases h
end
section
attribute [local go_sem] max2_int min2_int max_two min_two max_three min_three max_four min_four
def award_AppendRate.f (l0 : List (S26)) (a1_0 : Int) (a1_1 : Int) (a1_2 : Int) (a1_3 : ByteArray) (a1_4 : Int) (a1_5 : Int) (a1_6 : Int) (a1_7 : Int) (a1_8 : Int) : Option ((List (S26)) × Int) := (award_CheckRates.f l0).bind fun bt193 => (if bt193.2 = 0 then ((award_followsRate.f l0 a1_0 a1_1 a1_2 a1_3 a1_4 a1_5 a1_6 a1_7 a1_8).bind fun t195 => (if t195 = 0 then ((slices_CloneRate.f l0).bind fun t196 => ((some (([(⟨a1_0, a1_1, a1_2, a1_3, (⟨a1_4, a1_5⟩ : S24), a1_6, a1_7, a1_8⟩ : S26)] : List (S26)) : List (S26))).bind fun y199 => (if t196.length + y199.length < 1759218604441 then (some ((t196 ++ y199), 0)) else (none)))) else (some (([] : List (S26)), t195)))) else (some (([] : List (S26)), bt193.2)))
set_option maxHeartbeats 8000000 in
set_option maxRecDepth 100000 in
theorem award_AppendRate.calls (A0 : Option Addr) (c0 : Nat) (l0 : List (S26)) (a1_0 : Int) (a1_1 : Int) (a1_2 : Int) (a1_3 : ByteArray) (a1_4 : Int) (a1_5 : Int) (a1_6 : Int) (a1_7 : Int) (a1_8 : Int) (r1 : List (S26)) (r2 : Int) (w : World) (hr0 : Kd.C k26 w A0 l0.length l0) (hc0 : l0.length ≤ c0) (h : award_AppendRate.f l0 a1_0 a1_1 a1_2 a1_3 a1_4 a1_5 a1_6 a1_7 a1_8 = some (r1, r2)) :
  Calls Tryz.prog 31 #[.slice A0 l0.length c0, .agg #[.int .i64 a1_0, .int .i64 a1_1, .int .i64 a1_2, .string a1_3, .int .i64 a1_4, .int .i64 a1_5, .int .i64 a1_6, .int .i64 a1_7, .int .i64 a1_8]] w fun e w' => ∃ v0_ : Value, e = .returned (.tuple #[v0_, .int .i64 r2]) ∧ Kd.R k26 26 w' w.heap.size (fun _ => True) v0_ r1 ∧ Below w.heap.size w w' := by
 have hu26 := Tryz.underlying26
 have HR0 := Aq.mk hr0
 have HC0 := Aq.mk hc0
 clear hr0 hc0
 have HB := Aq.mk (Below.refl w.heap.size w)
 have H : ((award_CheckRates.f l0).bind fun bt193 => (if bt193.2 = 0 then ((award_followsRate.f l0 a1_0 a1_1 a1_2 a1_3 a1_4 a1_5 a1_6 a1_7 a1_8).bind fun t195 => (if t195 = 0 then ((slices_CloneRate.f l0).bind fun t196 => ((some (([(⟨a1_0, a1_1, a1_2, a1_3, (⟨a1_4, a1_5⟩ : S24), a1_6, a1_7, a1_8⟩ : S26)] : List (S26)) : List (S26))).bind fun y199 => (if t196.length + y199.length < 1759218604441 then (some ((t196 ++ y199), 0)) else (none)))) else (some (([] : List (S26)), t195)))) else (some (([] : List (S26)), bt193.2)))) = some (r1, r2) := h
 clear h
 replace H := oB H; obtain ⟨⟨t193, t194⟩, A3, H⟩ := H
 dsimp only at H
 replace H := oI H; rcases H with ⟨c4, H⟩ | ⟨c4, H⟩
 ·have c4b0 := bT c4
  have c4b1 := bN c4
  clear c4
  replace H := oB H; obtain ⟨t195, A5, H⟩ := H
  replace H := oI H; rcases H with ⟨c6, H⟩ | ⟨c6, H⟩
  ·have c6b0 := bT c6
   have c6b1 := bN c6
   clear c6
   replace H := oB H; obtain ⟨t196, A7, H⟩ := H
   obtain ⟨y199, hy199⟩ : ∃ y_ : List (S26), y_ = (([(⟨a1_0, a1_1, a1_2, a1_3, (⟨a1_4, a1_5⟩ : S24), a1_6, a1_7, a1_8⟩ : S26)] : List (S26))) := ⟨_, rfl⟩
   replace H : (if t196.length + y199.length < 1759218604441 then (some ((t196 ++ y199), 0)) else (none)) = some (r1, r2) := by first | (rw [hy199]; with_reducible exact H) | (have H2_ := (Option.bind_some _ _).symm.trans H; rw [hy199]; with_reducible exact H2_) | (have H2_ := (Option.bind_some _ _).symm.trans H; with_reducible exact H2_) | with_reducible exact H | (rw [hy199]; exact H) | exact H
   have Ny199 := Aq.mk hy199
   clear hy199
   replace H := oI H; rcases H with ⟨c8, H⟩ | ⟨c8, H⟩
   ·have LMc8 := Aq.mk c8
    clear c8
    obtain ⟨y202, hy202⟩ : ∃ y_ : List (S26), y_ = (t196 ++ y199) := ⟨_, rfl⟩
    replace H : (some (y202, 0)) = some (r1, r2) := by first | (rw [hy202]; with_reducible exact H) | (have H2_ := (Option.bind_some _ _).symm.trans H; rw [hy202]; with_reducible exact H2_) | (have H2_ := (Option.bind_some _ _).symm.trans H; with_reducible exact H2_) | with_reducible exact H | (rw [hy202]; exact H) | exact H
    have Ny202 := Aq.mk hy202
    clear hy202
    simp only [Option.some.injEq, Prod.mk.injEq] at H
    obtain ⟨rfl, rfl⟩ := H
    go_enter Tryz.func31, Tryz.ntmps31
    try go_wp2_with (first | ((with_reducible refine gD_ (N := 3) rfl ?_); refine bxE (N := 3) #[.int .i64 a1_0, .int .i64 a1_1, .int .i64 a1_2, .string a1_3, .int .i64 a1_4, .int .i64 a1_5, .int .i64 a1_6, .int .i64 a1_7, .int .i64 a1_8] 26 ?_; intro gb192 hg w9 hbox hb; have BK192 := Aq.mk hbox; have GW192 := yS HB hg; have GE192 := yS HB hg; replace HB := yB HB hb; clear hb hbox hg) | ((with_reducible refine gD_ (N := 11) rfl ?_); refine gX 11 rfl #[.slice A0 l0.length c0] (award_CheckRates.calls _ _ l0 t193 t194 _ (yC HR0 HB) HC0.out A3.out) ?_; intro w10 hb; replace BK192 := Aq.mk (bB_ (g := gb192) (o := .cells #[.int .i64 a1_0, .int .i64 a1_1, .int .i64 a1_2, .string a1_3, .int .i64 a1_4, .int .i64 a1_5, .int .i64 a1_6, .int .i64 a1_7, .int .i64 a1_8] 26 (0, 0)) (sK BK192.out) hb); replace HB := yB HB hb; try clear hb; obtain ⟨hcz11_0, hcz11_1, hcz11_2, hcz11_3, hcz11_4, hcz11_5, hcz11_6, hcz11_7, hcz11_8, hfz11_0, hfz11_1, hfz11_2, hfz11_3, hfz11_4, hfz11_5, hfz11_6, hfz11_7, hfz11_8⟩ := cf9 BK192.out) | ((with_reducible refine gD_ (N := 19) rfl ?_); refine gX 19 rfl #[.slice A0 l0.length c0, .agg #[.int .i64 a1_0, .int .i64 a1_1, .int .i64 a1_2, .string a1_3, .int .i64 a1_4, .int .i64 a1_5, .int .i64 a1_6, .int .i64 a1_7, .int .i64 a1_8], .int .i64 100, .func (.func 62) #[] #[]] (award_followsRate.calls _ _ l0 a1_0 a1_1 a1_2 a1_3 a1_4 a1_5 a1_6 a1_7 a1_8 t195 _ (yC HR0 HB) HC0.out A5.out) ?_; intro w12 hb; replace BK192 := Aq.mk (bB_ (g := gb192) (o := .cells #[.int .i64 a1_0, .int .i64 a1_1, .int .i64 a1_2, .string a1_3, .int .i64 a1_4, .int .i64 a1_5, .int .i64 a1_6, .int .i64 a1_7, .int .i64 a1_8] 26 (0, 0)) (sK BK192.out) hb); replace HB := yB HB hb; try clear hb))
    replace BK192 := Aq.mk (bD_ BK192.out)
    replace HB := Aq.mk (bE_ HB.out)
    refine stT 7 (fun w' => w'.cell? ⟨gb192, 0, none⟩ = some (.int .i64 a1_0) ∧ w'.cell? ⟨gb192, 1, none⟩ = some (.int .i64 a1_1) ∧ w'.cell? ⟨gb192, 2, none⟩ = some (.int .i64 a1_2) ∧ w'.cell? ⟨gb192, 3, none⟩ = some (.string a1_3) ∧ w'.cell? ⟨gb192, 4, none⟩ = some (.int .i64 a1_4) ∧ w'.cell? ⟨gb192, 5, none⟩ = some (.int .i64 a1_5) ∧ w'.cell? ⟨gb192, 6, none⟩ = some (.int .i64 a1_6) ∧ w'.cell? ⟨gb192, 7, none⟩ = some (.int .i64 a1_7) ∧ w'.cell? ⟨gb192, 8, none⟩ = some (.int .i64 a1_8)) ⟨(bC_ BK192.out 0).trans rfl, (bC_ BK192.out 1).trans rfl, (bC_ BK192.out 2).trans rfl, (bC_ BK192.out 3).trans rfl, (bC_ BK192.out 4).trans rfl, (bC_ BK192.out 5).trans rfl, (bC_ BK192.out 6).trans rfl, (bC_ BK192.out 7).trans rfl, (bC_ BK192.out 8).trans rfl⟩ (fun hHeld => ?_)
    generalize w12.drew = w13 at BK192 HB hHeld ⊢
    refine pI 0 23 ?_
    refine tI 2 25 hHeld ?_
    refine join_ (σ := Value × Value) 3 #[true, true, true, true, false, false, false] (fun s_ => [(24, s_.1), (26, s_.2)]) (fun s_ w' => (w'.cell? ⟨gb192, 0, none⟩ = some (.int .i64 a1_0) ∧ w'.cell? ⟨gb192, 1, none⟩ = some (.int .i64 a1_1) ∧ w'.cell? ⟨gb192, 2, none⟩ = some (.int .i64 a1_2) ∧ w'.cell? ⟨gb192, 3, none⟩ = some (.string a1_3) ∧ w'.cell? ⟨gb192, 4, none⟩ = some (.int .i64 a1_4) ∧ w'.cell? ⟨gb192, 5, none⟩ = some (.int .i64 a1_5) ∧ w'.cell? ⟨gb192, 6, none⟩ = some (.int .i64 a1_6) ∧ w'.cell? ⟨gb192, 7, none⟩ = some (.int .i64 a1_7) ∧ w'.cell? ⟨gb192, 8, none⟩ = some (.int .i64 a1_8)) ∧ (Kd.R k26 26 w' w.heap.size (fun k_ => some k_ ≠ (s_.2 : Value).ownBlock ∧ k_ ≠ gb192) s_.1 t196) ∧ (Kd.R k26 26 w' w.heap.size (fun k_ => some k_ ≠ (s_.1 : Value).ownBlock ∧ k_ ≠ gb192) s_.2 y199) ∧ (w'.heap[gb192]? = some (.cells #[.int .i64 a1_0, .int .i64 a1_1, .int .i64 a1_2, .string a1_3, .int .i64 a1_4, .int .i64 a1_5, .int .i64 a1_6, .int .i64 a1_7, .int .i64 a1_8] 26 (0, 0))) ∧ (Below w.heap.size w w')) ?_ ?_
    rotate_left
    ·intro hCont
     refine two_ (i := 1) (j := 3) (Ni := some 24) (Nj := some 26) #[true, true, true, false, false, false, false] #[true, false, true, true, false, false, false] rfl rfl rfl rfl (by kernel_rfl) (by decide) (by decide) (fun K hK => ?_) (fun K hK => ?_)
     ·skip
      refine goes_ Tryz.func73 (by kernel_rfl) rfl #[.slice A0 l0.length c0] (by rfl) rfl rfl sA ?_
      with_reducible refine (slices_CloneRate.calls _ _ l0 t196 _ ?side1 ?side2 A7.out).mono ?_
      (case side1 => exact yC HR0 HB)
      (case side2 => exact HC0.out)
      rintro e w14 ⟨v197, rfl, ho0, hb⟩
      refine ⟨_, rfl, ?_⟩
      have HO198 := Aq.mk (Kd.R_lower (Kd.R_newB ho0 (g := gb192) (o := .cells #[.int .i64 a1_0, .int .i64 a1_1, .int .i64 a1_2, .string a1_3, .int .i64 a1_4, .int .i64 a1_5, .int .i64 a1_6, .int .i64 a1_7, .int .i64 a1_8] 26 (0, 0)) (sK BK192.out)) (bZ_ (sB HB.out)))
      replace BK192 := Aq.mk (bB_ (g := gb192) (o := .cells #[.int .i64 a1_0, .int .i64 a1_1, .int .i64 a1_2, .string a1_3, .int .i64 a1_4, .int .i64 a1_5, .int .i64 a1_6, .int .i64 a1_7, .int .i64 a1_8] 26 (0, 0)) (sK BK192.out) hb)
      replace HB := yB HB hb
      try clear hb
      (try clear ho0)
      refine hK.out _ _ ⟨(bC_ BK192.out 0).trans rfl, (bC_ BK192.out 1).trans rfl, (bC_ BK192.out 2).trans rfl, (bC_ BK192.out 3).trans rfl, (bC_ BK192.out 4).trans rfl, (bC_ BK192.out 5).trans rfl, (bC_ BK192.out 6).trans rfl, (bC_ BK192.out 7).trans rfl, (bC_ BK192.out 8).trans rfl⟩ (fun hHeld => ?_)
      clear hK K
      refine nM 24 ?_
      refine one_ (i := 3) (N := some 26) #[true, true, true, true, false, false, false] rfl rfl (by kernel_rfl) (by decide) (fun K hK => ?_)
      refine Kd.R_lit_step k26 _ 26 ?hg (N := 26) ?hd (xs := ([(⟨a1_0, a1_1, a1_2, a1_3, (⟨a1_4, a1_5⟩ : S24), a1_6, a1_7, a1_8⟩ : S26)] : List (S26))) (inner := [.int .i64 a1_0, .int .i64 a1_1, .int .i64 a1_2, .string a1_3, .int .i64 a1_4, .int .i64 a1_5, .int .i64 a1_6, .int .i64 a1_7, .int .i64 a1_8]) (ok := fun _ => True) (okp := fun _ => True) ?hr ?hp (fun _ hk => hk) trivial (Below.refl _ _) (Nat.le_refl _) (by simp) ?_; (case hd => rfl); (case hg => rfl); (case hr => first | (go_simp; done) | (go_simp; rfl)); (case hp => exact (Reps.c9 (show Kd.M k26 _ _ _ (⟨a1_0, a1_1, a1_2, a1_3, (⟨a1_4, a1_5⟩ : S24), a1_6, a1_7, a1_8⟩ : S26) [.int .i64 a1_0, .int .i64 a1_1, .int .i64 a1_2, .string a1_3, .int .i64 a1_4, .int .i64 a1_5, .int .i64 a1_6, .int .i64 a1_7, .int .i64 a1_8] from (k26_mkM _ _ _ (⟨a1_0, a1_1, a1_2, a1_3, (⟨a1_4, a1_5⟩ : S24), a1_6, a1_7, a1_8⟩ : S26) )) (Reps.none _ _)))
      intro v200 w15 ho16 hb hg_ hnew_
      clear hg_ hnew_
      (first | rw [← Ny199.out] at ho16 | (simp only [Int.reduceToNat] at ho16; rw [← Ny199.out] at ho16))
      have HO201 := Aq.mk (Kd.R_lower (Kd.R_newB (Kd.R_new' ho16 (Kd.R_lt (sR HO198.out))) (g := gb192) (o := .cells #[.int .i64 a1_0, .int .i64 a1_1, .int .i64 a1_2, .string a1_3, .int .i64 a1_4, .int .i64 a1_5, .int .i64 a1_6, .int .i64 a1_7, .int .i64 a1_8] 26 (0, 0)) (sK BK192.out)) (bZ_ (sB HB.out)))
      replace HO198 := Aq.mk (Kd.R_elder' (sR HO198.out) (Kd.R_base ho16) hb)
      replace BK192 := Aq.mk (bB_ (g := gb192) (o := .cells #[.int .i64 a1_0, .int .i64 a1_1, .int .i64 a1_2, .string a1_3, .int .i64 a1_4, .int .i64 a1_5, .int .i64 a1_6, .int .i64 a1_7, .int .i64 a1_8] 26 (0, 0)) (sK BK192.out) hb)
      replace HB := yB HB hb
      clear hb ho16
      refine hK.out _ _ ⟨(bC_ BK192.out 0).trans rfl, (bC_ BK192.out 1).trans rfl, (bC_ BK192.out 2).trans rfl, (bC_ BK192.out 3).trans rfl, (bC_ BK192.out 4).trans rfl, (bC_ BK192.out 5).trans rfl, (bC_ BK192.out 6).trans rfl, (bC_ BK192.out 7).trans rfl, (bC_ BK192.out 8).trans rfl⟩ (fun hHeld => ?_)
      clear hK K
      refine nM 26 ?_
      exact norm_ (by simp only [putAll, Act.put, List.setIfInBounds_toArray, List.set_cons_zero, List.set_cons_succ]) (hCont (v197, v200) _ ⟨hHeld, (by refine wR ?_; exact Kd.R_mono HO198.out (fun _ hk => ⟨hk.2, hk.1.2⟩)), (by refine wR ?_; exact Kd.R_mono HO201.out (fun _ hk => ⟨hk.1.2, hk.2⟩)), (sK BK192.out), (sB HB.out)⟩)
     ·skip
      refine Kd.R_lit_step k26 _ 26 ?hg (N := 26) ?hd (xs := ([(⟨a1_0, a1_1, a1_2, a1_3, (⟨a1_4, a1_5⟩ : S24), a1_6, a1_7, a1_8⟩ : S26)] : List (S26))) (inner := [.int .i64 a1_0, .int .i64 a1_1, .int .i64 a1_2, .string a1_3, .int .i64 a1_4, .int .i64 a1_5, .int .i64 a1_6, .int .i64 a1_7, .int .i64 a1_8]) (ok := fun _ => True) (okp := fun _ => True) ?hr ?hp (fun _ hk => hk) trivial (Below.refl _ _) (Nat.le_refl _) (by simp) ?_; (case hd => rfl); (case hg => rfl); (case hr => first | (go_simp; done) | (go_simp; rfl)); (case hp => exact (Reps.c9 (show Kd.M k26 _ _ _ (⟨a1_0, a1_1, a1_2, a1_3, (⟨a1_4, a1_5⟩ : S24), a1_6, a1_7, a1_8⟩ : S26) [.int .i64 a1_0, .int .i64 a1_1, .int .i64 a1_2, .string a1_3, .int .i64 a1_4, .int .i64 a1_5, .int .i64 a1_6, .int .i64 a1_7, .int .i64 a1_8] from (k26_mkM _ _ _ (⟨a1_0, a1_1, a1_2, a1_3, (⟨a1_4, a1_5⟩ : S24), a1_6, a1_7, a1_8⟩ : S26) )) (Reps.none _ _)))
      intro v200 w14 ho15 hb hg_ hnew_
      clear hg_ hnew_
      (first | rw [← Ny199.out] at ho15 | (simp only [Int.reduceToNat] at ho15; rw [← Ny199.out] at ho15))
      have HO201 := Aq.mk (Kd.R_lower (Kd.R_newB ho15 (g := gb192) (o := .cells #[.int .i64 a1_0, .int .i64 a1_1, .int .i64 a1_2, .string a1_3, .int .i64 a1_4, .int .i64 a1_5, .int .i64 a1_6, .int .i64 a1_7, .int .i64 a1_8] 26 (0, 0)) (sK BK192.out)) (bZ_ (sB HB.out)))
      replace BK192 := Aq.mk (bB_ (g := gb192) (o := .cells #[.int .i64 a1_0, .int .i64 a1_1, .int .i64 a1_2, .string a1_3, .int .i64 a1_4, .int .i64 a1_5, .int .i64 a1_6, .int .i64 a1_7, .int .i64 a1_8] 26 (0, 0)) (sK BK192.out) hb)
      replace HB := yB HB hb
      clear hb ho15
      refine hK.out _ _ ⟨(bC_ BK192.out 0).trans rfl, (bC_ BK192.out 1).trans rfl, (bC_ BK192.out 2).trans rfl, (bC_ BK192.out 3).trans rfl, (bC_ BK192.out 4).trans rfl, (bC_ BK192.out 5).trans rfl, (bC_ BK192.out 6).trans rfl, (bC_ BK192.out 7).trans rfl, (bC_ BK192.out 8).trans rfl⟩ (fun hHeld => ?_)
      clear hK K
      refine nM 26 ?_
      refine one_ (i := 1) (N := some 24) #[true, true, true, true, false, false, false] rfl rfl (by kernel_rfl) (by decide) (fun K hK => ?_)
      refine goes_ Tryz.func73 (by kernel_rfl) rfl #[.slice A0 l0.length c0] (by rfl) rfl rfl sA ?_
      with_reducible refine (slices_CloneRate.calls _ _ l0 t196 _ ?side1 ?side2 A7.out).mono ?_
      (case side1 => exact yC HR0 HB)
      (case side2 => exact HC0.out)
      rintro e w16 ⟨v197, rfl, ho0, hb⟩
      refine ⟨_, rfl, ?_⟩
      have HO198 := Aq.mk (Kd.R_lower (Kd.R_newB (Kd.R_new' ho0 (Kd.R_lt (sR HO201.out))) (g := gb192) (o := .cells #[.int .i64 a1_0, .int .i64 a1_1, .int .i64 a1_2, .string a1_3, .int .i64 a1_4, .int .i64 a1_5, .int .i64 a1_6, .int .i64 a1_7, .int .i64 a1_8] 26 (0, 0)) (sK BK192.out)) (bZ_ (sB HB.out)))
      replace HO201 := Aq.mk (Kd.R_elder' (sR HO201.out) (Kd.R_base ho0) hb)
      replace BK192 := Aq.mk (bB_ (g := gb192) (o := .cells #[.int .i64 a1_0, .int .i64 a1_1, .int .i64 a1_2, .string a1_3, .int .i64 a1_4, .int .i64 a1_5, .int .i64 a1_6, .int .i64 a1_7, .int .i64 a1_8] 26 (0, 0)) (sK BK192.out) hb)
      replace HB := yB HB hb
      try clear hb
      (try clear ho0)
      refine hK.out _ _ ⟨(bC_ BK192.out 0).trans rfl, (bC_ BK192.out 1).trans rfl, (bC_ BK192.out 2).trans rfl, (bC_ BK192.out 3).trans rfl, (bC_ BK192.out 4).trans rfl, (bC_ BK192.out 5).trans rfl, (bC_ BK192.out 6).trans rfl, (bC_ BK192.out 7).trans rfl, (bC_ BK192.out 8).trans rfl⟩ (fun hHeld => ?_)
      clear hK K
      refine nM 24 ?_
      exact norm_ (by simp only [putAll, Act.put, List.setIfInBounds_toArray, List.set_cons_zero, List.set_cons_succ]) (hCont (v197, v200) _ ⟨hHeld, (by refine wR ?_; exact Kd.R_mono HO198.out (fun _ hk => ⟨hk.1.2, hk.2⟩)), (by refine wR ?_; exact Kd.R_mono HO201.out (fun _ hk => ⟨hk.2, hk.1.2⟩)), (sK BK192.out), (sB HB.out)⟩)
    rintro ⟨v197, v200⟩ w17 ⟨hS_, h0_, h1_, h2_, h3_⟩
    have HO198 : Aq (Kd.R k26 26 w17 w.heap.size (fun k_ => some k_ ≠ (v200 : Value).ownBlock ∧ k_ ≠ gb192) v197 t196) := ⟨h0_⟩
    have HO201 : Aq (Kd.R k26 26 w17 w.heap.size (fun k_ => some k_ ≠ (v197 : Value).ownBlock ∧ k_ ≠ gb192) v200 y199) := ⟨h1_⟩
    replace BK192 : Aq (w17.heap[gb192]? = some (.cells #[.int .i64 a1_0, .int .i64 a1_1, .int .i64 a1_2, .string a1_3, .int .i64 a1_4, .int .i64 a1_5, .int .i64 a1_6, .int .i64 a1_7, .int .i64 a1_8] 26 (0, 0))) := ⟨h2_⟩
    replace HB : Aq (Below w.heap.size w w17) := ⟨h3_⟩
    clear h0_ h1_ h2_ h3_
    have hHeld := hS_
    obtain ⟨Ao19, co19, eo19⟩ := Kd.R_slice HO201.out
    (first | subst eo19 | (injection eo19 with f1_ f2_ f3_; have f4_ := f1_.symm; have f5_ := f3_.symm; clear f1_ f2_ f3_; subst f4_; subst f5_))
    refine norm_ (a' := ?_) ?_ ?_
    rotate_left
    ·simp only [putAll, Act.put, List.setIfInBounds_toArray, List.set_cons_zero, List.set_cons_succ]
     rfl
    refine one_ (i := 4) (N := some 27) #[true, true, true, true, true, false, false] rfl rfl (by kernel_rfl) (by decide) (fun K hK => ?_)
    refine Kd.R_append_rows_step k26 (w0 := w) w.heap.size (by rfl) (.tmp 24) (.tmp 26) 22 26 (.agg #[(.int .i64 0), (.int .i64 0), (.int .i64 0), (.string ⟨#[]⟩), (.int .i64 0), (.int .i64 0), (.int .i64 0), (.int .i64 0), (.int .i64 0)]) 80 rfl Tryz.underlying22 info26 rfl (by decide) (by omega) v197 t196 y199 _ _ _ (fun k_ => some k_ ≠ (.slice Ao19 y199.length co19 : Value).ownBlock ∧ k_ ≠ gb192) (fun _ => False) rfl rfl ?aO ?aR (fun _ _ h => h) (fun _ h => h.elim) ?aF ?aB ?aS ?aL ?_
    (case aR => repeat (first | exact (Kd.R_reads' HO201.out).2.2 | (with_reducible refine Kd.C_alloc ?_ _) | (with_reducible refine Kd.C_drewN ?_ _) | (with_reducible refine Kd.C_drew ?_)))
    (case aB => exact (sB HB.out))
    (case aF => exact (fun k_ hk => ⟨Kd.fresh' (Kd.R_lt (sR HO201.out)) k_ hk, Kd.freshB (g := gb192) (o := .cells #[.int .i64 a1_0, .int .i64 a1_1, .int .i64 a1_2, .string a1_3, .int .i64 a1_4, .int .i64 a1_5, .int .i64 a1_6, .int .i64 a1_7, .int .i64 a1_8] 26 (0, 0)) (sK BK192.out) k_ hk⟩))
    (case aO => exact (sR HO198.out))
    (case aS => exact (bZ_ (sB HB.out)))
    (case aL => have := LMc8.out; omega)
    intro v203 w18 ho hb hg hat
    rw [← Ny202.out] at ho
    have HO204 := Aq.mk ho
    replace BK192 := Aq.mk (blk_grown (g := gb192) (o := .cells #[.int .i64 a1_0, .int .i64 a1_1, .int .i64 a1_2, .string a1_3, .int .i64 a1_4, .int .i64 a1_5, .int .i64 a1_6, .int .i64 a1_7, .int .i64 a1_8] 26 (0, 0)) (sK BK192.out) hg (Kd.R_away HO198.out (fun _ hk => hk.2)))
    replace HO201 := Aq.mk (Kd.R_after (ok := (fun k_ => k_ ≠ gb192)) (by refine wR ?_; exact Kd.R_mono HO201.out (fun _ hk => ⟨hk.2, hk.1⟩)) hg hat)
    replace HB := Aq.mk hb
    clear HO198
    clear ho hb hg hat
    refine hK.out _ _ ⟨(bC_ BK192.out 0).trans rfl, (bC_ BK192.out 1).trans rfl, (bC_ BK192.out 2).trans rfl, (bC_ BK192.out 3).trans rfl, (bC_ BK192.out 4).trans rfl, (bC_ BK192.out 5).trans rfl, (bC_ BK192.out 6).trans rfl, (bC_ BK192.out 7).trans rfl, (bC_ BK192.out 8).trans rfl⟩ (fun hHeld => ?_)
    clear hK K
    refine nM 27 ?_
    refine pI 5 4 ?_
    refine pI 6 5 ?_
    refine done_ (by kernel_rfl) ?_
    try go_wp2
    go_ret2
    exact ⟨_, sE, by refine wR ?_; exact Kd.R_mono HO204.out (fun _ hk => trivial), sB HB.out⟩
   ·exact absurd H (by simp)
  ·have c6b0 := bF c6
   have c6b1 := bM c6
   simp only [Option.some.injEq, Prod.mk.injEq] at H
   obtain ⟨rfl, rfl⟩ := H
   go_enter Tryz.func31, Tryz.ntmps31
   go_wp2_with (first | ((with_reducible refine gD_ (N := 3) rfl ?_); refine bxE (N := 3) #[.int .i64 a1_0, .int .i64 a1_1, .int .i64 a1_2, .string a1_3, .int .i64 a1_4, .int .i64 a1_5, .int .i64 a1_6, .int .i64 a1_7, .int .i64 a1_8] 26 ?_; intro gb192 hg w20 hbox hb; have BK192 := Aq.mk hbox; have GW192 := yS HB hg; have GE192 := yS HB hg; replace HB := yB HB hb; clear hb hbox hg) | ((with_reducible refine gD_ (N := 11) rfl ?_); refine gX 11 rfl #[.slice A0 l0.length c0] (award_CheckRates.calls _ _ l0 t193 t194 _ (yC HR0 HB) HC0.out A3.out) ?_; intro w21 hb; replace BK192 := Aq.mk (bB_ (g := gb192) (o := .cells #[.int .i64 a1_0, .int .i64 a1_1, .int .i64 a1_2, .string a1_3, .int .i64 a1_4, .int .i64 a1_5, .int .i64 a1_6, .int .i64 a1_7, .int .i64 a1_8] 26 (0, 0)) (sK BK192.out) hb); replace HB := yB HB hb; try clear hb; obtain ⟨hcz22_0, hcz22_1, hcz22_2, hcz22_3, hcz22_4, hcz22_5, hcz22_6, hcz22_7, hcz22_8, hfz22_0, hfz22_1, hfz22_2, hfz22_3, hfz22_4, hfz22_5, hfz22_6, hfz22_7, hfz22_8⟩ := cf9 BK192.out) | ((with_reducible refine gD_ (N := 19) rfl ?_); refine gX 19 rfl #[.slice A0 l0.length c0, .agg #[.int .i64 a1_0, .int .i64 a1_1, .int .i64 a1_2, .string a1_3, .int .i64 a1_4, .int .i64 a1_5, .int .i64 a1_6, .int .i64 a1_7, .int .i64 a1_8], .int .i64 100, .func (.func 62) #[] #[]] (award_followsRate.calls _ _ l0 a1_0 a1_1 a1_2 a1_3 a1_4 a1_5 a1_6 a1_7 a1_8 t195 _ (yC HR0 HB) HC0.out A5.out) ?_; intro w23 hb; replace BK192 := Aq.mk (bB_ (g := gb192) (o := .cells #[.int .i64 a1_0, .int .i64 a1_1, .int .i64 a1_2, .string a1_3, .int .i64 a1_4, .int .i64 a1_5, .int .i64 a1_6, .int .i64 a1_7, .int .i64 a1_8] 26 (0, 0)) (sK BK192.out) hb); replace HB := yB HB hb; try clear hb))
   go_ret2
   exact ⟨_, sE, by first | exact Kd.R_nil _ _ _ _ _ | exact Kd.N_nil _ _ _ _ _ | exact Kd.V_nil _ _ _ _ _ | exact Kd.Q_nil _ _ _ _ _ | exact Kd.S_nil _ _ _ _ _, sB HB.out⟩
 ·have c4b0 := bF c4
  have c4b1 := bM c4
  simp only [Option.some.injEq, Prod.mk.injEq] at H
  obtain ⟨rfl, rfl⟩ := H
  go_enter Tryz.func31, Tryz.ntmps31
  go_wp2_with (first | ((with_reducible refine gD_ (N := 3) rfl ?_); refine bxE (N := 3) #[.int .i64 a1_0, .int .i64 a1_1, .int .i64 a1_2, .string a1_3, .int .i64 a1_4, .int .i64 a1_5, .int .i64 a1_6, .int .i64 a1_7, .int .i64 a1_8] 26 ?_; intro gb192 hg w24 hbox hb; have BK192 := Aq.mk hbox; have GW192 := yS HB hg; have GE192 := yS HB hg; replace HB := yB HB hb; clear hb hbox hg) | ((with_reducible refine gD_ (N := 11) rfl ?_); refine gX 11 rfl #[.slice A0 l0.length c0] (award_CheckRates.calls _ _ l0 t193 t194 _ (yC HR0 HB) HC0.out A3.out) ?_; intro w25 hb; replace BK192 := Aq.mk (bB_ (g := gb192) (o := .cells #[.int .i64 a1_0, .int .i64 a1_1, .int .i64 a1_2, .string a1_3, .int .i64 a1_4, .int .i64 a1_5, .int .i64 a1_6, .int .i64 a1_7, .int .i64 a1_8] 26 (0, 0)) (sK BK192.out) hb); replace HB := yB HB hb; try clear hb))
  go_ret2
  exact ⟨_, sE, by first | exact Kd.R_nil _ _ _ _ _ | exact Kd.N_nil _ _ _ _ _ | exact Kd.V_nil _ _ _ _ _ | exact Kd.Q_nil _ _ _ _ _ | exact Kd.S_nil _ _ _ _ _, sB HB.out⟩
end
section
open Go.Shelf
def startsOf.l0 : Nat → List Int → List (S26) → Int → Int → Option (List Int)
 | 0, _, _, _, _ => none
 | k + 1, x3, x6, x7, x8 => if x8 < x7 then (if 0 ≤ x8 then (if x8 < (x6.length : Int) then (if ((rd_T26 x6 x8).f7) = 0 then (if x3.length < 17592186044416 then (startsOf.l0 k (x3 ++ [(rd_T26 x6 x8).f2]) x6 x7 (wrap64 (x8 + 1))) else (none)) else (startsOf.l0 k x3 x6 x7 (wrap64 (x8 + 1)))) else (none)) else (none)) else (some x3)
def startsOf.f (k : Nat) (l0 : List (S26)) : Option (List Int) := startsOf.l0 k ([] : List Int) l0 (l0.length : Int) 0
set_option maxHeartbeats 8000000 in
set_option maxRecDepth 100000 in
theorem starts_any (k : Nat) (A0 : Option Addr) (c0 : Nat) (l0 : List (S26)) (r : List Int) (w : World) (hr0 : Kd.C k26 w A0 l0.length l0) (hc0 : l0.length ≤ c0) (h : startsOf.f k l0 = some r) (hrl : r.length < 4611686018427387904) :
  Calls Tryz.prog 58 #[.slice A0 l0.length c0] w fun e w' => ∃ v0_ : Value, e = .returned (v0_) ∧ Kd.R (Kd.int .i64) 3 w' w.heap.size (fun _ => True) v0_ (Lib.compact (r.mergeSort fun x y => decide (x ≤ y))) ∧ Below w.heap.size w w' := by
 have hu26 := Tryz.underlying26
 have HR0 := Aq.mk hr0
 have HC0 := Aq.mk hc0
 clear hr0 hc0
 have HB := Aq.mk (Below.refl w.heap.size w)
 have H : (startsOf.l0 k ([] : List Int) l0 (l0.length : Int) 0) = some r := h
 clear h
 have H' := Aq.mk H
 clear H
 go_enter Tryz.func58, Tryz.ntmps58
 go_wp2
 go_loopg [3, 8] k (fun kq v3 v8 w' => ∃ (x3_1 : List Int) (x8_1 : Int), v8 = .int .i64 x8_1 ∧ Aq (startsOf.l0 kq x3_1 l0 (l0.length : Int) x8_1 = some r) ∧ Aq (kq ≤ k) ∧ Aq (Kd.R (Kd.int .i64) 3 w' w.heap.size (fun _ => True) v3 x3_1) ∧ Aq (Below w.heap.size w w'))
 case atStart => exact ⟨(([] : List Int)), (0), (by first | rfl | (simp; done) | (simp [*]; done)), H', ⟨Nat.le_refl _⟩, ⟨by first | exact Kd.R_nil _ _ _ _ _ | exact Kd.N_nil _ _ _ _ _ | exact Kd.V_nil _ _ _ _ _ | exact Kd.Q_nil _ _ _ _ _ | exact Kd.S_nil _ _ _ _ _⟩, ⟨by repeat (first | (with_reducible first | exact HB.out | apply bA_ | apply pN_ | apply bE_) | exact HB.out)⟩⟩
 case round =>
  clear H'
  obtain ⟨x3_1, x8_1, rfl, HA, HK1, HO_3, HB⟩ := hrel
  cases gk with
  | zero => exact absurd HA.out (by simp [startsOf.l0])
  | succ k1 =>
   have H := HA.out
   clear HA
   simp only [startsOf.l0] at H
   by_cases c2 : x8_1 < (l0.length : Int)
   ·rw [if_pos c2] at H
    have c2b0 : decide (x8_1 < (l0.length : Int)) = true := decide_eq_true c2
    clear c2
    by_cases c3 : 0 ≤ x8_1
    ·rw [if_pos c3] at H
     have c3b0 : decide (0 ≤ x8_1) = true := decide_eq_true c3
     clear c3
     by_cases c4 : x8_1 < (l0.length : Int)
     ·rw [if_pos c4] at H
      have c4b0 : decide (x8_1 < (l0.length : Int)) = true := decide_eq_true c4
      clear c4
      by_cases c5 : ((rd_T26 l0 x8_1).f7) = 0
      ·rw [if_pos c5] at H
       have c5b0 : (((rd_T26 l0 x8_1).f7) == 0) = true := beq_iff_eq.mpr c5
       have c5b1 : (((rd_T26 l0 x8_1).f7) != 0) = false := bne_eq_false_iff_eq.mpr c5
       clear c5
       by_cases c6 : x3_1.length < 17592186044416
       ·rw [if_pos c6] at H
        have LMc6 := Aq.mk c6
        clear c6
        obtain ⟨y237, hy237⟩ : ∃ y_ : List Int, y_ = (x3_1 ++ [(rd_T26 l0 x8_1).f2]) := ⟨_, rfl⟩
        replace H : (startsOf.l0 k1 y237 l0 (l0.length : Int) (wrap64 (x8_1 + 1))) = some r := by first | (rw [hy237]; with_reducible exact H) | (have H2_ := (Option.bind_some _ _).symm.trans H; rw [hy237]; with_reducible exact H2_) | (have H2_ := (Option.bind_some _ _).symm.trans H; with_reducible exact H2_) | with_reducible exact H | (rw [hy237]; exact H) | exact H
        have Ny237 := Aq.mk hy237
        clear hy237
        have H' := Aq.mk H
        clear H
        have p235 : 0 ≤ (x8_1 : Int) := of_decide_eq_true (by first | (with_reducible assumption) | assumption)
        have q235 : x8_1 < (l0.length : Int) := of_decide_eq_true (by first | (with_reducible assumption) | assumption)
        obtain ⟨ad235, e235, hx235_0, hx235_1, hx235_2, hx235_3, hx235_4, hx235_5, hx235_6, hx235_7, hx235_8⟩ := at_T26 HR0.out x8_1 p235 q235
        cases e235
        replace hx235_0 := (HB.out.cell (World.block_lt_of_cell? w _ hx235_0)).trans hx235_0
        replace hx235_1 := (HB.out.cell (World.block_lt_of_cell? w _ hx235_1)).trans hx235_1
        replace hx235_2 := (HB.out.cell (World.block_lt_of_cell? w _ hx235_2)).trans hx235_2
        replace hx235_3 := (HB.out.cell (World.block_lt_of_cell? w _ hx235_3)).trans hx235_3
        replace hx235_4 := (HB.out.cell (World.block_lt_of_cell? w _ hx235_4)).trans hx235_4
        replace hx235_5 := (HB.out.cell (World.block_lt_of_cell? w _ hx235_5)).trans hx235_5
        replace hx235_6 := (HB.out.cell (World.block_lt_of_cell? w _ hx235_6)).trans hx235_6
        replace hx235_7 := (HB.out.cell (World.block_lt_of_cell? w _ hx235_7)).trans hx235_7
        replace hx235_8 := (HB.out.cell (World.block_lt_of_cell? w _ hx235_8)).trans hx235_8
        replace p235 := eq_true p235
        replace q235 := eq_true q235
        go_wp2_with (first | ((with_reducible refine gD_ (N := 5) rfl ?_); refine xE_ ?hg (N := 5) ?hd (cs := #[.int .i64 0, .int .i64 0, .int .i64 0, .string (⟨#[]⟩ : ByteArray), .int .i64 0, .int .i64 0, .int .i64 0, .int .i64 0, .int .i64 0]) (t := 26) ?hr ?_; (case hd => rfl); (case hg => rfl); (case hr => first | (go_simp; done) | (go_simp; rfl)); intro gb236 hg w7 hbox hb; have n0_ := Aq.mk (Kd.R_below (by (with_reducible repeat (first | apply Kd.R_alloc | apply Kd.R_drewN | apply Kd.R_drew)); exact HO_3.out) hb); have n1_ := Aq.mk (bS_ (by repeat (first | (with_reducible first | exact HB.out | apply bA_ | apply pN_ | apply bE_) | exact HB.out)) hb); have n2_ := Aq.mk (hbox); have n3_ := Aq.mk ((by rw [hg]; exact (bZ_ (by repeat (first | (with_reducible first | exact HB.out | apply bA_ | apply pN_ | apply bE_) | exact HB.out))) : w.heap.size ≤ gb236)); have n4_ := Aq.mk ((by rw [hg]; exact (bZ_ (by repeat (first | (with_reducible first | exact HB.out | apply bA_ | apply pN_ | apply bE_) | exact HB.out))) : w.heap.size ≤ gb236)); clear HO_3; clear HB; have HO_3 := n0_; have HB := n1_; have BK236 := n2_; have GW236 := n3_; have GE236 := n4_; clear n0_ n1_ n2_ n3_ n4_; clear hb hbox hg; have hcz8_0 : w7.cell? ⟨gb236, 0, none⟩ = some (.int .i64 0) := (bC_ BK236.out 0).trans rfl; have hcz8_1 : w7.cell? ⟨gb236, 1, none⟩ = some (.int .i64 0) := (bC_ BK236.out 1).trans rfl; have hcz8_2 : w7.cell? ⟨gb236, 2, none⟩ = some (.int .i64 0) := (bC_ BK236.out 2).trans rfl; have hcz8_3 : w7.cell? ⟨gb236, 3, none⟩ = some (.string (⟨#[]⟩ : ByteArray)) := (bC_ BK236.out 3).trans rfl; have hcz8_4 : w7.cell? ⟨gb236, 4, none⟩ = some (.int .i64 0) := (bC_ BK236.out 4).trans rfl; have hcz8_5 : w7.cell? ⟨gb236, 5, none⟩ = some (.int .i64 0) := (bC_ BK236.out 5).trans rfl; have hcz8_6 : w7.cell? ⟨gb236, 6, none⟩ = some (.int .i64 0) := (bC_ BK236.out 6).trans rfl; have hcz8_7 : w7.cell? ⟨gb236, 7, none⟩ = some (.int .i64 0) := (bC_ BK236.out 7).trans rfl; have hcz8_8 : w7.cell? ⟨gb236, 8, none⟩ = some (.int .i64 0) := (bC_ BK236.out 8).trans rfl; have hfz8_0 := bR_ BK236.out 0; have hfz8_1 := bR_ BK236.out 1; have hfz8_2 := bR_ BK236.out 2; have hfz8_3 := bR_ BK236.out 3; have hfz8_4 := bR_ BK236.out 4; have hfz8_5 := bR_ BK236.out 5; have hfz8_6 := bR_ BK236.out 6; have hfz8_7 := bR_ BK236.out 7; have hfz8_8 := bR_ BK236.out 8) | ((with_reducible refine gate_builtin (b := .append) (xs := #[.tmp 15, .tmp 18]) rfl ?_); at_builtin; refine Kd.R_append (Kd.int .i64) (w0 := w) w.heap.size rfl (.tmp 15) (.tmp 18) 35 3 (.int .i64 0) 8 rfl Tryz.underlying35 info3 rfl (by decide) (by omega) u3 x3_1 ((rd_T26 l0 x8_1).f2) [.int .i64 ((rd_T26 l0 x8_1).f2)] (fun _ => True) (fun _ => False) rfl (by first | (go_simp; done) | (go_simp; rfl)) ?aP (fun _ hk => hk.elim) ?aF ?aO ?aB ?aS ?aL ?_; (case aP => exact rfl); (case aB => exact (by repeat (first | (with_reducible first | exact HB.out | apply bA_ | apply pN_ | apply bE_ | refine bT_ ?_ GE236.out) | exact HB.out))); (case aF => exact (fun _ _ => trivial)); (case aO => exact (by (with_reducible repeat (first | apply Kd.R_alloc | apply Kd.R_drewN | apply Kd.R_drew)); exact Kd.R_mono (Kd.R_far (p := ⟨gb236, 8, none⟩) (Kd.R_far (p := ⟨gb236, 7, none⟩) (Kd.R_far (p := ⟨gb236, 6, none⟩) (Kd.R_far (p := ⟨gb236, 5, none⟩) (Kd.R_far (p := ⟨gb236, 4, none⟩) (Kd.R_far (p := ⟨gb236, 3, none⟩) (Kd.R_far (p := ⟨gb236, 2, none⟩) (Kd.R_far (p := ⟨gb236, 1, none⟩) (Kd.R_far (p := ⟨gb236, 0, none⟩) (Kd.R_types HO_3.out BK236.out (by decide)) (fun _ hk => hk.2) (.int .i64 ((rd_T26 l0 x8_1).f0))) (fun _ hk => hk.2) (.int .i64 ((rd_T26 l0 x8_1).f1))) (fun _ hk => hk.2) (.int .i64 ((rd_T26 l0 x8_1).f2))) (fun _ hk => hk.2) (.string ((rd_T26 l0 x8_1).f3))) (fun _ hk => hk.2) (.int .i64 ((rd_T26 l0 x8_1).f4.f0))) (fun _ hk => hk.2) (.int .i64 ((rd_T26 l0 x8_1).f4.f1))) (fun _ hk => hk.2) (.int .i64 ((rd_T26 l0 x8_1).f5))) (fun _ hk => hk.2) (.int .i64 ((rd_T26 l0 x8_1).f6))) (fun _ hk => hk.2) (.int .i64 ((rd_T26 l0 x8_1).f7))) (fun _ hk => trivial))); (case aS => exact (bZ_ (by repeat (first | (with_reducible first | exact HB.out | apply bA_ | apply pN_ | apply bE_ | refine bT_ ?_ GE236.out) | exact HB.out)))); (case aL => have := LMc6.out; omega); intro v238 w9 ho hb hg hat; rw [← Ny237.out] at ho; have n0_ := Aq.mk (blk_grown (g := gb236) (o := .cells #[.int .i64 ((rd_T26 l0 x8_1).f0), .int .i64 ((rd_T26 l0 x8_1).f1), .int .i64 ((rd_T26 l0 x8_1).f2), .string ((rd_T26 l0 x8_1).f3), .int .i64 ((rd_T26 l0 x8_1).f4.f0), .int .i64 ((rd_T26 l0 x8_1).f4.f1), .int .i64 ((rd_T26 l0 x8_1).f5), .int .i64 ((rd_T26 l0 x8_1).f6), .int .i64 ((rd_T26 l0 x8_1).f7)] 26 (0, 0)) (by (with_reducible repeat (first | refine bN_ ?_ _ | refine bD_ ?_ | refine bL_ ?_ _)); refine bP_ (cs := #[.int .i64 ((rd_T26 l0 x8_1).f0), .int .i64 ((rd_T26 l0 x8_1).f1), .int .i64 ((rd_T26 l0 x8_1).f2), .string ((rd_T26 l0 x8_1).f3), .int .i64 ((rd_T26 l0 x8_1).f4.f0), .int .i64 ((rd_T26 l0 x8_1).f4.f1), .int .i64 ((rd_T26 l0 x8_1).f5), .int .i64 ((rd_T26 l0 x8_1).f6), .int .i64 0]) ?_ 8 _ rfl; (with_reducible repeat (first | refine bN_ ?_ _ | refine bD_ ?_ | refine bL_ ?_ _)); refine bP_ (cs := #[.int .i64 ((rd_T26 l0 x8_1).f0), .int .i64 ((rd_T26 l0 x8_1).f1), .int .i64 ((rd_T26 l0 x8_1).f2), .string ((rd_T26 l0 x8_1).f3), .int .i64 ((rd_T26 l0 x8_1).f4.f0), .int .i64 ((rd_T26 l0 x8_1).f4.f1), .int .i64 ((rd_T26 l0 x8_1).f5), .int .i64 0, .int .i64 0]) ?_ 7 _ rfl; (with_reducible repeat (first | refine bN_ ?_ _ | refine bD_ ?_ | refine bL_ ?_ _)); refine bP_ (cs := #[.int .i64 ((rd_T26 l0 x8_1).f0), .int .i64 ((rd_T26 l0 x8_1).f1), .int .i64 ((rd_T26 l0 x8_1).f2), .string ((rd_T26 l0 x8_1).f3), .int .i64 ((rd_T26 l0 x8_1).f4.f0), .int .i64 ((rd_T26 l0 x8_1).f4.f1), .int .i64 0, .int .i64 0, .int .i64 0]) ?_ 6 _ rfl; (with_reducible repeat (first | refine bN_ ?_ _ | refine bD_ ?_ | refine bL_ ?_ _)); refine bP_ (cs := #[.int .i64 ((rd_T26 l0 x8_1).f0), .int .i64 ((rd_T26 l0 x8_1).f1), .int .i64 ((rd_T26 l0 x8_1).f2), .string ((rd_T26 l0 x8_1).f3), .int .i64 ((rd_T26 l0 x8_1).f4.f0), .int .i64 0, .int .i64 0, .int .i64 0, .int .i64 0]) ?_ 5 _ rfl; (with_reducible repeat (first | refine bN_ ?_ _ | refine bD_ ?_ | refine bL_ ?_ _)); refine bP_ (cs := #[.int .i64 ((rd_T26 l0 x8_1).f0), .int .i64 ((rd_T26 l0 x8_1).f1), .int .i64 ((rd_T26 l0 x8_1).f2), .string ((rd_T26 l0 x8_1).f3), .int .i64 0, .int .i64 0, .int .i64 0, .int .i64 0, .int .i64 0]) ?_ 4 _ rfl; (with_reducible repeat (first | refine bN_ ?_ _ | refine bD_ ?_ | refine bL_ ?_ _)); refine bP_ (cs := #[.int .i64 ((rd_T26 l0 x8_1).f0), .int .i64 ((rd_T26 l0 x8_1).f1), .int .i64 ((rd_T26 l0 x8_1).f2), .string (⟨#[]⟩ : ByteArray), .int .i64 0, .int .i64 0, .int .i64 0, .int .i64 0, .int .i64 0]) ?_ 3 _ rfl; (with_reducible repeat (first | refine bN_ ?_ _ | refine bD_ ?_ | refine bL_ ?_ _)); refine bP_ (cs := #[.int .i64 ((rd_T26 l0 x8_1).f0), .int .i64 ((rd_T26 l0 x8_1).f1), .int .i64 0, .string (⟨#[]⟩ : ByteArray), .int .i64 0, .int .i64 0, .int .i64 0, .int .i64 0, .int .i64 0]) ?_ 2 _ rfl; (with_reducible repeat (first | refine bN_ ?_ _ | refine bD_ ?_ | refine bL_ ?_ _)); refine bP_ (cs := #[.int .i64 ((rd_T26 l0 x8_1).f0), .int .i64 0, .int .i64 0, .string (⟨#[]⟩ : ByteArray), .int .i64 0, .int .i64 0, .int .i64 0, .int .i64 0, .int .i64 0]) ?_ 1 _ rfl; (with_reducible repeat (first | refine bN_ ?_ _ | refine bD_ ?_ | refine bL_ ?_ _)); refine bP_ (cs := #[.int .i64 0, .int .i64 0, .int .i64 0, .string (⟨#[]⟩ : ByteArray), .int .i64 0, .int .i64 0, .int .i64 0, .int .i64 0, .int .i64 0]) ?_ 0 _ rfl; (with_reducible repeat (first | refine bN_ ?_ _ | refine bD_ ?_ | refine bL_ ?_ _)); exact BK236.out) hg (Kd.R_ne HO_3.out BK236.out (by decide))); have n1_ := Aq.mk (hb); have n2_ := Aq.mk (ho); clear BK236; clear HB; clear HO_3; have BK236 := n0_; have HB := n1_; have HO239 := n2_; clear n0_ n1_ n2_; clear ho hb hg hat))
        go_roundg k1
        case measure => have := HK1.out; omega
        case rel => exact ⟨(y237), (wrap64 (x8_1 + 1)), (by first | rfl | (simp; done) | (simp [*]; done)), H', ⟨by have := HK1.out; omega⟩, ⟨by (with_reducible repeat (first | apply Kd.R_alloc | apply Kd.R_drewN | apply Kd.R_drew)); exact HO239.out⟩, ⟨by repeat (first | (with_reducible first | exact HB.out | apply bA_ | apply pN_ | apply bE_ | refine bT_ ?_ GE236.out) | exact HB.out)⟩⟩
       ·rw [if_neg c6] at H
        exact absurd H (by simp)
      ·rw [if_neg c5] at H
       have c5b0 : (((rd_T26 l0 x8_1).f7) == 0) = false := beq_eq_false_iff_ne.mpr c5
       have c5b1 : (((rd_T26 l0 x8_1).f7) != 0) = true := bne_iff_ne.mpr c5
       have H' := Aq.mk H
       clear H
       have p235 : 0 ≤ (x8_1 : Int) := of_decide_eq_true (by first | (with_reducible assumption) | assumption)
       have q235 : x8_1 < (l0.length : Int) := of_decide_eq_true (by first | (with_reducible assumption) | assumption)
       obtain ⟨ad235, e235, hx235_0, hx235_1, hx235_2, hx235_3, hx235_4, hx235_5, hx235_6, hx235_7, hx235_8⟩ := at_T26 HR0.out x8_1 p235 q235
       cases e235
       replace hx235_0 := (HB.out.cell (World.block_lt_of_cell? w _ hx235_0)).trans hx235_0
       replace hx235_1 := (HB.out.cell (World.block_lt_of_cell? w _ hx235_1)).trans hx235_1
       replace hx235_2 := (HB.out.cell (World.block_lt_of_cell? w _ hx235_2)).trans hx235_2
       replace hx235_3 := (HB.out.cell (World.block_lt_of_cell? w _ hx235_3)).trans hx235_3
       replace hx235_4 := (HB.out.cell (World.block_lt_of_cell? w _ hx235_4)).trans hx235_4
       replace hx235_5 := (HB.out.cell (World.block_lt_of_cell? w _ hx235_5)).trans hx235_5
       replace hx235_6 := (HB.out.cell (World.block_lt_of_cell? w _ hx235_6)).trans hx235_6
       replace hx235_7 := (HB.out.cell (World.block_lt_of_cell? w _ hx235_7)).trans hx235_7
       replace hx235_8 := (HB.out.cell (World.block_lt_of_cell? w _ hx235_8)).trans hx235_8
       replace p235 := eq_true p235
       replace q235 := eq_true q235
       go_wp2_with (first | ((with_reducible refine gD_ (N := 5) rfl ?_); refine xE_ ?hg (N := 5) ?hd (cs := #[.int .i64 0, .int .i64 0, .int .i64 0, .string (⟨#[]⟩ : ByteArray), .int .i64 0, .int .i64 0, .int .i64 0, .int .i64 0, .int .i64 0]) (t := 26) ?hr ?_; (case hd => rfl); (case hg => rfl); (case hr => first | (go_simp; done) | (go_simp; rfl)); intro gb236 hg w10 hbox hb; have n0_ := Aq.mk (Kd.R_below (by (with_reducible repeat (first | apply Kd.R_alloc | apply Kd.R_drewN | apply Kd.R_drew)); exact HO_3.out) hb); have n1_ := Aq.mk (bS_ (by repeat (first | (with_reducible first | exact HB.out | apply bA_ | apply pN_ | apply bE_) | exact HB.out)) hb); have n2_ := Aq.mk (hbox); have n3_ := Aq.mk ((by rw [hg]; exact (bZ_ (by repeat (first | (with_reducible first | exact HB.out | apply bA_ | apply pN_ | apply bE_) | exact HB.out))) : w.heap.size ≤ gb236)); have n4_ := Aq.mk ((by rw [hg]; exact (bZ_ (by repeat (first | (with_reducible first | exact HB.out | apply bA_ | apply pN_ | apply bE_) | exact HB.out))) : w.heap.size ≤ gb236)); clear HO_3; clear HB; have HO_3 := n0_; have HB := n1_; have BK236 := n2_; have GW236 := n3_; have GE236 := n4_; clear n0_ n1_ n2_ n3_ n4_; clear hb hbox hg; have hcz11_0 : w10.cell? ⟨gb236, 0, none⟩ = some (.int .i64 0) := (bC_ BK236.out 0).trans rfl; have hcz11_1 : w10.cell? ⟨gb236, 1, none⟩ = some (.int .i64 0) := (bC_ BK236.out 1).trans rfl; have hcz11_2 : w10.cell? ⟨gb236, 2, none⟩ = some (.int .i64 0) := (bC_ BK236.out 2).trans rfl; have hcz11_3 : w10.cell? ⟨gb236, 3, none⟩ = some (.string (⟨#[]⟩ : ByteArray)) := (bC_ BK236.out 3).trans rfl; have hcz11_4 : w10.cell? ⟨gb236, 4, none⟩ = some (.int .i64 0) := (bC_ BK236.out 4).trans rfl; have hcz11_5 : w10.cell? ⟨gb236, 5, none⟩ = some (.int .i64 0) := (bC_ BK236.out 5).trans rfl; have hcz11_6 : w10.cell? ⟨gb236, 6, none⟩ = some (.int .i64 0) := (bC_ BK236.out 6).trans rfl; have hcz11_7 : w10.cell? ⟨gb236, 7, none⟩ = some (.int .i64 0) := (bC_ BK236.out 7).trans rfl; have hcz11_8 : w10.cell? ⟨gb236, 8, none⟩ = some (.int .i64 0) := (bC_ BK236.out 8).trans rfl; have hfz11_0 := bR_ BK236.out 0; have hfz11_1 := bR_ BK236.out 1; have hfz11_2 := bR_ BK236.out 2; have hfz11_3 := bR_ BK236.out 3; have hfz11_4 := bR_ BK236.out 4; have hfz11_5 := bR_ BK236.out 5; have hfz11_6 := bR_ BK236.out 6; have hfz11_7 := bR_ BK236.out 7; have hfz11_8 := bR_ BK236.out 8))
       go_roundg k1
       case measure => have := HK1.out; omega
       case rel => exact ⟨(x3_1), (wrap64 (x8_1 + 1)), (by first | rfl | (simp; done) | (simp [*]; done)), H', ⟨by have := HK1.out; omega⟩, ⟨by (with_reducible repeat (first | apply Kd.R_alloc | apply Kd.R_drewN | apply Kd.R_drew)); exact Kd.R_mono (Kd.R_far (p := ⟨gb236, 8, none⟩) (Kd.R_far (p := ⟨gb236, 7, none⟩) (Kd.R_far (p := ⟨gb236, 6, none⟩) (Kd.R_far (p := ⟨gb236, 5, none⟩) (Kd.R_far (p := ⟨gb236, 4, none⟩) (Kd.R_far (p := ⟨gb236, 3, none⟩) (Kd.R_far (p := ⟨gb236, 2, none⟩) (Kd.R_far (p := ⟨gb236, 1, none⟩) (Kd.R_far (p := ⟨gb236, 0, none⟩) (Kd.R_types HO_3.out BK236.out (by decide)) (fun _ hk => hk.2) (.int .i64 ((rd_T26 l0 x8_1).f0))) (fun _ hk => hk.2) (.int .i64 ((rd_T26 l0 x8_1).f1))) (fun _ hk => hk.2) (.int .i64 ((rd_T26 l0 x8_1).f2))) (fun _ hk => hk.2) (.string ((rd_T26 l0 x8_1).f3))) (fun _ hk => hk.2) (.int .i64 ((rd_T26 l0 x8_1).f4.f0))) (fun _ hk => hk.2) (.int .i64 ((rd_T26 l0 x8_1).f4.f1))) (fun _ hk => hk.2) (.int .i64 ((rd_T26 l0 x8_1).f5))) (fun _ hk => hk.2) (.int .i64 ((rd_T26 l0 x8_1).f6))) (fun _ hk => hk.2) (.int .i64 ((rd_T26 l0 x8_1).f7))) (fun _ hk => trivial)⟩, ⟨by repeat (first | (with_reducible first | exact HB.out | apply bA_ | apply pN_ | apply bE_ | refine bT_ ?_ GE236.out) | exact HB.out)⟩⟩
     ·rw [if_neg c4] at H
      exact absurd H (by simp)
    ·rw [if_neg c3] at H
     exact absurd H (by simp)
   ·rw [if_neg c2] at H
    have c2b0 : decide (x8_1 < (l0.length : Int)) = false := decide_eq_false c2
    clear c2
    obtain rfl := Option.some.inj H
    have hsl : ((x3_1.mergeSort fun x y => decide (x ≤ y))).length ≤ 9223372036854775807 := by rw [List.length_mergeSort]; omega
    go_wp2_with (first | (go_at_call 90; (with_reducible refine (sort_any HO_3.out HB.out hrl).mono ?_); rintro e wS ⟨rfl, hR, hb⟩; have n0_ := Aq.mk hb; have n1_ := Aq.mk hR; clear HB HO_3 hb hR; have HB := n0_; have HO_3 := n1_; clear n0_ n1_) | (go_at_call 95; (with_reducible refine (compact_any HO_3.out HB.out hsl).mono ?_); rintro e wT ⟨vT, rfl, hR, hb⟩; have n0_ := Aq.mk hb; have n1_ := Aq.mk hR; clear HB HO_3 hb hR; have HB := n0_; have HO_3 := n1_; clear n0_ n1_))
    go_ret
    exact ⟨_, rfl, HO_3.out, HB.out⟩
def startsL (l : List S26) : List Int := Lib.compact (((l.filter fun x => x.f7 == 0).map fun x => x.f2).mergeSort fun x y => decide (x ≤ y))
def award_starts.f (l0 : List (S26)) : Option (List Int) := if l0.length < 17592186044416 then some (startsL l0) else none
theorem startsOf_l0 (l : List S26) (hl : l.length < 17592186044416) : ∀ (n k : Nat) (pre : List Int), l.length - k < n → k ≤ l.length → pre.length ≤ k →
  startsOf.l0 n pre l (l.length : Int) (k : Int) = some (pre ++ ((l.drop k).filter fun x => x.f7 == 0).map fun x => x.f2)
 | 0, k, pre, h, _, _ => by omega
 | n + 1, k, pre, h, hk, hp => by
  unfold startsOf.l0
  by_cases hlt : k < l.length
  ·obtain ⟨_, hd⟩ := rdT26_drop l k hlt
   have hw : wrap64 ((k : Int) + 1) = ((k + 1 : Nat) : Int) := by have z := IntWalk.wrap64_in ((k : Int) + 1) (by omega); rw [show ((k + 1 : Nat) : Int) = (k : Int) + 1 by omega]; exact z
   rw [if_pos (by omega), if_pos (by omega), if_pos (by omega), hd, hw]
   by_cases hf : (rd_T26 l (k : Int)).f7 = 0
   ·rw [if_pos hf, if_pos (by omega), startsOf_l0 l hl n (k + 1) _ (by omega) (by omega) (by simp; omega), List.filter_cons_of_pos (by simpa using hf)]
    simp
   ·rw [if_neg hf, startsOf_l0 l hl n (k + 1) _ (by omega) (by omega) (by omega), List.filter_cons_of_neg (by simpa using hf)]
  ·rw [if_neg (by omega), List.drop_eq_nil_of_le (by omega)]
   simp
theorem award_starts.calls (A0 : Option Addr) (c0 : Nat) (l0 : List (S26)) (r : List Int) (w : World) (hr0 : Kd.C k26 w A0 l0.length l0) (hc0 : l0.length ≤ c0) (h : award_starts.f l0 = some r) :
  Calls Tryz.prog 58 #[.slice A0 l0.length c0] w fun e w' => ∃ v0_ : Value, e = .returned (v0_) ∧ Kd.R (Kd.int .i64) 3 w' w.heap.size (fun _ => True) v0_ r ∧ Below w.heap.size w w' := by
 unfold award_starts.f at h
 by_cases hl : l0.length < 17592186044416
 ·rw [if_pos hl] at h
  obtain rfl := Option.some.inj h
  have hf := startsOf_l0 l0 hl (l0.length + 1) 0 [] (by omega) (by omega) (by simp)
  refine starts_any (l0.length + 1) A0 c0 l0 _ w hr0 hc0 hf ?_
  have := List.length_filter_le (fun x : S26 => x.f7 == 0) l0
  simp
  omega
 ·rw [if_neg hl] at h
  exact absurd h (by simp)
end
section
attribute [local go_sem] max2_int min2_int max_two min_two max_three min_three max_four min_four
def award_Touched.l0 : Nat → List (S26) → ByteArray → Int → Int → Bool → List (S26) → List Int → List Int → Int → Int → Int → Int → Int → ByteArray → Int → Int → Int → Int → Int → Option (Int × Int × Bool × Int)
 | 0, _, _, _, _, _, _, _, _, _, _, _, _, _, _, _, _, _, _, _ => none
 | k + 1, x0, x2, x6, x7, x8, x10, x11, x29, x30, x31, x206000, x206001, x206002, x206003, x206004, x206005, x206006, x206007, x206008 => if x31 < x30 then (if 0 ≤ x31 then (if x31 < (x29.length : Int) then ((award_inForce.f x0 x2 (rd x29 x31) x206001).bind fun bt214 => ((award_inForce.f x10 x2 (rd x29 x31) x206001).bind fun bt225 => (if bt214.1 = bt225.1 then (award_Touched.l0 k x0 x2 x6 x7 x8 x10 x11 x29 x30 (wrap64 (x31 + 1)) x206000 x206001 x206002 x206003 x206004 x206005 x206006 x206007 x206008) else (if x8 = true then (if (wrap64 (x31 + 1)) < (x11.length : Int) then (if 0 ≤ (wrap64 (x31 + 1)) then (award_Touched.l0 k x0 x2 x6 (wrap64 ((rd x11 (wrap64 (x31 + 1))) - 1)) x8 x10 x11 x29 x30 (wrap64 (x31 + 1)) x206000 x206001 x206002 x206003 x206004 x206005 x206006 x206007 x206008) else (none)) else (award_Touched.l0 k x0 x2 x6 1000000 x8 x10 x11 x29 x30 (wrap64 (x31 + 1)) x206000 x206001 x206002 x206003 x206004 x206005 x206006 x206007 x206008)) else (if (wrap64 (x31 + 1)) < (x11.length : Int) then (if 0 ≤ (wrap64 (x31 + 1)) then (award_Touched.l0 k x0 x2 (rd x29 x31) (wrap64 ((rd x11 (wrap64 (x31 + 1))) - 1)) true x10 x11 x29 x30 (wrap64 (x31 + 1)) x206000 x206001 x206002 x206003 x206004 x206005 x206006 x206007 x206008) else (none)) else (award_Touched.l0 k x0 x2 (rd x29 x31) 1000000 true x10 x11 x29 x30 (wrap64 (x31 + 1)) x206000 x206001 x206002 x206003 x206004 x206005 x206006 x206007 x206008)))))) else (none)) else (none)) else (some (x6, x7, x8, 0))
def award_Touched.f (k : Nat) (l0 : List (S26)) (a1_0 : Int) (a1_1 : Int) (a1_2 : Int) (a1_3 : ByteArray) (a1_4 : Int) (a1_5 : Int) (a1_6 : Int) (a1_7 : Int) (a1_8 : Int) (a2 : ByteArray) : Option (Int × Int × Bool × Int) := (award_AppendRate.f l0 a1_0 a1_1 a1_2 a1_3 a1_4 a1_5 a1_6 a1_7 a1_8).bind fun bt206 => (if bt206.2 = 0 then ((award_starts.f bt206.1).bind fun t210 => (award_Touched.l0 k l0 a2 0 0 false bt206.1 t210 t210 (t210.length : Int) 0 a1_0 a1_1 a1_2 a1_3 a1_4 a1_5 a1_6 a1_7 a1_8)) else (some (0, 0, false, bt206.2)))
set_option maxHeartbeats 8000000 in
set_option maxRecDepth 100000 in
theorem award_Touched.calls (k : Nat) (A0 : Option Addr) (c0 : Nat) (l0 : List (S26)) (a1_0 : Int) (a1_1 : Int) (a1_2 : Int) (a1_3 : ByteArray) (a1_4 : Int) (a1_5 : Int) (a1_6 : Int) (a1_7 : Int) (a1_8 : Int) (a2 : ByteArray) (r1 : Int) (r2 : Int) (r3 : Bool) (r4 : Int) (w : World) (hr0 : Kd.C k26 w A0 l0.length l0) (hc0 : l0.length ≤ c0) (h : award_Touched.f k l0 a1_0 a1_1 a1_2 a1_3 a1_4 a1_5 a1_6 a1_7 a1_8 a2 = some (r1, r2, r3, r4)) :
  Calls Tryz.prog 19 #[.slice A0 l0.length c0, .agg #[.int .i64 a1_0, .int .i64 a1_1, .int .i64 a1_2, .string a1_3, .int .i64 a1_4, .int .i64 a1_5, .int .i64 a1_6, .int .i64 a1_7, .int .i64 a1_8], .string a2] w fun e w' => e = .returned (.tuple #[.int .i64 r1, .int .i64 r2, .bool r3, .int .i64 r4]) ∧ Below w.heap.size w w' := by
 have hu26 := Tryz.underlying26
 have HR0 := Aq.mk hr0
 have HC0 := Aq.mk hc0
 clear hr0 hc0
 have HB := Aq.mk (Below.refl w.heap.size w)
 have H : ((award_AppendRate.f l0 a1_0 a1_1 a1_2 a1_3 a1_4 a1_5 a1_6 a1_7 a1_8).bind fun bt206 => (if bt206.2 = 0 then ((award_starts.f bt206.1).bind fun t210 => (award_Touched.l0 k l0 a2 0 0 false bt206.1 t210 t210 (t210.length : Int) 0 a1_0 a1_1 a1_2 a1_3 a1_4 a1_5 a1_6 a1_7 a1_8)) else (some (0, 0, false, bt206.2)))) = some (r1, r2, r3, r4) := h
 clear h
 replace H := oB H; obtain ⟨⟨t206, t209⟩, A4, H⟩ := H
 dsimp only at H
 replace H := oI H; rcases H with ⟨c5, H⟩ | ⟨c5, H⟩
 ·have c5b0 := bT c5
  have c5b1 := bN c5
  clear c5
  replace H := oB H; obtain ⟨t210, A6, H⟩ := H
  have H' := Aq.mk H
  clear H
  go_enter Tryz.func19, Tryz.ntmps19
  go_wp2_with (first | ((with_reducible refine gD_ (N := 4) rfl ?_); refine bxE (N := 4) #[.int .i64 a1_0, .int .i64 a1_1, .int .i64 a1_2, .string a1_3, .int .i64 a1_4, .int .i64 a1_5, .int .i64 a1_6, .int .i64 a1_7, .int .i64 a1_8] 26 ?_; intro gb205 hg w7 hbox hb; have BK205 := Aq.mk hbox; have GW205 := yS HB hg; have GE205 := yS HB hg; replace HB := yB HB hb; clear hb hbox hg; obtain ⟨hcz8_0, hcz8_1, hcz8_2, hcz8_3, hcz8_4, hcz8_5, hcz8_6, hcz8_7, hcz8_8, hfz8_0, hfz8_1, hfz8_2, hfz8_3, hfz8_4, hfz8_5, hfz8_6, hfz8_7, hfz8_8⟩ := cf9 BK205.out) | ((with_reducible refine gC_ (f := 31) rfl ?_); refine gL (some 21) #[.slice A0 l0.length c0, .agg #[.int .i64 a1_0, .int .i64 a1_1, .int .i64 a1_2, .string a1_3, .int .i64 a1_4, .int .i64 a1_5, .int .i64 a1_6, .int .i64 a1_7, .int .i64 a1_8]] ?_; (with_reducible refine (award_AppendRate.calls _ _ l0 a1_0 a1_1 a1_2 a1_3 a1_4 a1_5 a1_6 a1_7 a1_8 t206 t209 _ ?side1 ?side2 A4.out).mono ?_); (case side1 => exact yC HR0 HB); (case side2 => exact HC0.out); rintro e w9 ⟨v207, rfl, ho0, hb⟩; refine ⟨_, rfl, ?_⟩; have HO208 := Aq.mk (Kd.R_lower (Kd.R_newB ho0 (sL BK205.out)) (bZ_ (sB HB.out))); replace BK205 := yb BK205 hb; replace HB := yB HB hb; try clear hb; (try clear ho0); obtain ⟨Ao10, co10, eo10⟩ := Kd.R_slice HO208.out; subst eo10) | ((with_reducible refine gC_ (f := 58) rfl ?_); refine gL (some 28) #[.slice Ao10 t206.length co10] ?_; (with_reducible refine (award_starts.calls _ _ t206 t210 _ ?side1 ?side2 A6.out).mono ?_); (case side1 => exact sC (Kd.R_reads' HO208.out).2.2); (case side2 => exact (Kd.R_reads' HO208.out).2.1); rintro e w11 ⟨v211, rfl, ho0, hb⟩; refine ⟨_, rfl, ?_⟩; have HO212 := Aq.mk (Kd.R_lower ho0 (bZ_ (sB HB.out))); replace HO208 := yR HO208 hb; replace BK205 := yb BK205 hb; replace HB := yB HB hb; try clear hb; (try clear ho0); obtain ⟨Ao12, co12, eo12⟩ := Kd.R_slice HO212.out; subst eo12))
  go_loopg [6, 7, 8, 31] k (fun kq v6 v7 v8 v31 w' => ∃ (x6_1 : Int) (x7_1 : Int) (x8_1 : Bool) (x31_1 : Int), v6 = .int .i64 x6_1 ∧ v7 = .int .i64 x7_1 ∧ v8 = .bool x8_1 ∧ v31 = .int .i64 x31_1 ∧ Aq (award_Touched.l0 kq l0 a2 x6_1 x7_1 x8_1 t206 t210 t210 (t210.length : Int) x31_1 a1_0 a1_1 a1_2 a1_3 a1_4 a1_5 a1_6 a1_7 a1_8 = some (r1, r2, r3, r4)) ∧ Aq (kq ≤ k) ∧ Aq (Kd.R k26 26 w' w.heap.size (fun k_ => k_ ≠ gb205) (.slice Ao10 t206.length co10) t206) ∧ Aq (Kd.R (Kd.int .i64) 3 w' w.heap.size (fun _ => True) (.slice Ao12 t210.length co12) t210) ∧ Aq (Kd.R (Kd.int .i64) 3 w' w.heap.size (fun _ => True) (.slice Ao12 t210.length co12) t210) ∧ Aq (w'.heap[gb205]? = some (.cells #[.int .i64 a1_0, .int .i64 a1_1, .int .i64 a1_2, .string a1_3, .int .i64 a1_4, .int .i64 a1_5, .int .i64 a1_6, .int .i64 a1_7, .int .i64 a1_8] 26 (0, 0))) ∧ Aq (Below w.heap.size w w'))
  case atStart => exact ⟨(0), (0), (false), (0), sS, sS, sS, sS, H', ⟨Nat.le_refl _⟩, ⟨by refine wR ?_; exact Kd.R_mono HO208.out (fun _ hk => hk.2)⟩, ⟨sR HO212.out⟩, ⟨sR HO212.out⟩, ⟨sL BK205.out⟩, ⟨sB HB.out⟩⟩
  case round =>
   clear H'
   try clear c5
   try clear c5b0
   obtain ⟨x6_1, x7_1, x8_1, x31_1, rfl, rfl, rfl, rfl, HA, HK1, HO_10, HO_11, HO_29, BK205, HB⟩ := hrel
   cases gk with
   | zero => exact absurd HA.out (by simp [award_Touched.l0])
   | succ k1 =>
    have H := HA.out
    clear HA
    simp only [award_Touched.l0] at H
    replace H := oI H; rcases H with ⟨c13, H⟩ | ⟨c13, H⟩
    ·have c13b0 := dT c13
     clear c13
     replace H := oI H; rcases H with ⟨c14, H⟩ | ⟨c14, H⟩
     ·have c14b0 := dT c14
      clear c14
      replace H := oI H; rcases H with ⟨c15, H⟩ | ⟨c15, H⟩
      ·have c15b0 := dT c15
       clear c15
       replace H := oB H; obtain ⟨⟨t214, t215, t216, t217, t218, t219, t220, t221, t222, t223⟩, A16, H⟩ := H
       dsimp only at H
       replace H := oB H; obtain ⟨⟨t225, t226, t227, t228, t229, t230, t231, t232, t233, t234⟩, A17, H⟩ := H
       dsimp only at H
       replace H := oI H; rcases H with ⟨c18, H⟩ | ⟨c18, H⟩
       ·have c18b0 := bT c18
        have c18b1 := bN c18
        clear c18
        have H' := Aq.mk H
        clear H
        have p213 : 0 ≤ (x31_1 : Int) := oA
        have q213 : x31_1 < (t210.length : Int) := oA
        obtain ⟨ad213, e213, hx213_0⟩ := Kd.at_int (Kd.R_reads' HO_29.out).2.2 x31_1 p213 q213
        cases e213
        replace p213 := eq_true p213
        replace q213 := eq_true q213
        obtain ⟨hcz19_0, hcz19_1, hcz19_2, hcz19_3, hcz19_4, hcz19_5, hcz19_6, hcz19_7, hcz19_8, hfz19_0, hfz19_1, hfz19_2, hfz19_3, hfz19_4, hfz19_5, hfz19_6, hfz19_7, hfz19_8⟩ := cf9 BK205.out
        go_wp2_with (first | ((with_reducible refine gD_ (N := 42) rfl ?_); refine gX 42 rfl #[.slice A0 l0.length c0, .string a2, .int .i64 (rd t210 x31_1), .int .i64 a1_1] (award_inForce.calls _ _ l0 a2 (rd t210 x31_1) a1_1 t214 t215 t216 t217 t218 t219 t220 t221 t222 t223 _ (yC HR0 HB) HC0.out A16.out) ?_; intro w20 hb; replace HO_10 := yR HO_10 hb; replace HO_11 := yR HO_11 hb; replace HO_29 := yR HO_29 hb; replace BK205 := yb BK205 hb; replace HB := yB HB hb; try clear hb) | ((with_reducible refine gD_ (N := 14) rfl ?_); refine bxE (N := 14) #[.int .i64 0, .int .i64 0, .int .i64 0, .string (⟨#[]⟩ : ByteArray), .int .i64 0, .int .i64 0, .int .i64 0, .int .i64 0, .int .i64 0] 26 ?_; intro gb224 hg w21 hbox hb; have BK224 := Aq.mk hbox; have GW224 := yS HB hg; have GE224 := yS HB hg; have NB205_224 := yN BK205 hg; have NB224_205 := yM BK205 hg; replace HO_10 := Aq.mk (Kd.R_below (Kd.R_elderB (sR HO_10.out) gb224 (Nat.le_of_eq hg.symm)) hb); replace HO_11 := yR HO_11 hb; replace HO_29 := yR HO_29 hb; replace BK205 := yb BK205 hb; replace HB := yB HB hb; clear hb hbox hg; have hnb22 := NB224_205.out; have hnc22 := NB205_224.out; obtain ⟨hcz23_0, hcz23_1, hcz23_2, hcz23_3, hcz23_4, hcz23_5, hcz23_6, hcz23_7, hcz23_8, hfz23_0, hfz23_1, hfz23_2, hfz23_3, hfz23_4, hfz23_5, hfz23_6, hfz23_7, hfz23_8⟩ := cf9 BK224.out; obtain ⟨hcz24_0, hcz24_1, hcz24_2, hcz24_3, hcz24_4, hcz24_5, hcz24_6, hcz24_7, hcz24_8, hfz24_0, hfz24_1, hfz24_2, hfz24_3, hfz24_4, hfz24_5, hfz24_6, hfz24_7, hfz24_8⟩ := cf9 BK205.out) | ((with_reducible refine gD_ (N := 51) rfl ?_); refine gX 51 rfl #[.slice Ao10 t206.length co10, .string a2, .int .i64 (rd t210 x31_1), .int .i64 a1_1] (award_inForce.calls _ _ t206 a2 (rd t210 x31_1) a1_1 t225 t226 t227 t228 t229 t230 t231 t232 t233 t234 _ ?side1 ((Kd.R_reads' HO_10.out).2.1) A17.out) ?_; (case side1 => refine (Kd.R_reads' (e := 26) (base := w.heap.size) (ok := fun k_ => (k_ ≠ gb205 ∧ k_ ≠ gb224)) (n := t206.length) (c := co10) ?_).2.2; exact (by refine wR ?_; exact (Kd.R_mono (rf9 (Kd.R_mono HO_10.out (fun k_ hk => (⟨hk, hk.2⟩ : _ ∧ k_ ≠ gb224)))) (fun _ h_ => h_.1)))); intro w25 hb; replace HO_10 := Aq.mk (Kd.R_below (by refine wR ?_; exact (Kd.R_mono (rf9 (Kd.R_mono HO_10.out (fun k_ hk => (⟨hk, hk.2⟩ : _ ∧ k_ ≠ gb224)))) (fun _ h_ => h_.1))) hb); replace HO_11 := Aq.mk (Kd.R_below (by refine wR ?_; exact (Kd.R_mono (rf9 (Kd.R_types HO_11.out BK224.out (by decide))) (fun _ h_ => h_.1))) hb); replace HO_29 := Aq.mk (Kd.R_below (by refine wR ?_; exact (Kd.R_mono (rf9 (Kd.R_types HO_29.out BK224.out (by decide))) (fun _ h_ => h_.1))) hb); replace BK205 := yF NB205_224 BK205 hb; replace BK224 := yT9 BK224 hb; replace HB := yB HB hb; try clear hb) | ((with_reducible refine gD_ (N := 16) rfl ?_); refine bxE (N := 16) #[.int .i64 0, .int .i64 0, .int .i64 0, .string (⟨#[]⟩ : ByteArray), .int .i64 0, .int .i64 0, .int .i64 0, .int .i64 0, .int .i64 0] 26 ?_; intro gb235 hg w26 hbox hb; have BK235 := Aq.mk hbox; have GW235 := yS HB hg; have GE235 := yS HB hg; have NB205_235 := yN BK205 hg; have NB235_205 := yM BK205 hg; have NB224_235 := yN BK224 hg; have NB235_224 := yM BK224 hg; replace HO_10 := Aq.mk (Kd.R_below (Kd.R_elderB (sR HO_10.out) gb235 (Nat.le_of_eq hg.symm)) hb); replace HO_11 := yR HO_11 hb; replace HO_29 := yR HO_29 hb; replace BK205 := yb BK205 hb; replace BK224 := yb BK224 hb; replace HB := yB HB hb; clear hb hbox hg; have hnb27 := NB235_205.out; have hnc27 := NB205_235.out; have hnb28 := NB235_224.out; have hnc28 := NB224_235.out; obtain ⟨hcz29_0, hcz29_1, hcz29_2, hcz29_3, hcz29_4, hcz29_5, hcz29_6, hcz29_7, hcz29_8, hfz29_0, hfz29_1, hfz29_2, hfz29_3, hfz29_4, hfz29_5, hfz29_6, hfz29_7, hfz29_8⟩ := cf9 BK235.out; obtain ⟨hcz30_0, hcz30_1, hcz30_2, hcz30_3, hcz30_4, hcz30_5, hcz30_6, hcz30_7, hcz30_8, hfz30_0, hfz30_1, hfz30_2, hfz30_3, hfz30_4, hfz30_5, hfz30_6, hfz30_7, hfz30_8⟩ := cf9 BK224.out))
        go_roundg k1
        case measure => have := HK1.out; omega
        case rel => exact ⟨(x6_1), (x7_1), (x8_1), (wrap64 (x31_1 + 1)), sS, sS, sS, sS, H', ⟨by have := HK1.out; omega⟩, ⟨by refine wR ?_; exact Kd.R_mono (rf9 (Kd.R_mono HO_10.out (fun k_ hk => (⟨hk, hk.2⟩ : _ ∧ k_ ≠ gb235)))) (fun _ hk => hk.1.1.1)⟩, ⟨by refine wR ?_; exact Kd.R_mono (rf9 (Kd.R_types HO_11.out BK235.out (by decide))) (fun _ hk => trivial)⟩, ⟨by refine wR ?_; exact Kd.R_mono (rf9 (Kd.R_types HO_29.out BK235.out (by decide))) (fun _ hk => trivial)⟩, ⟨sF NB205_235 BK205⟩, ⟨sB HB.out⟩⟩
       ·have c18b0 := bF c18
        have c18b1 := bM c18
        replace H := oT H; rcases H with ⟨rfl, H⟩ | ⟨rfl, H⟩
        ·replace H := oI H; rcases H with ⟨c32, H⟩ | ⟨c32, H⟩
         ·have c32b0 := dT c32
          clear c32
          obtain ⟨ji33, hji33⟩ : ∃ j_ : Int, (wrap64 (x31_1 + 1)) = j_ := ⟨_, rfl⟩
          replace H : (if 0 ≤ (ji33) then (award_Touched.l0 k1 l0 a2 x6_1 (wrap64 ((rd t210 (ji33)) - 1)) true t206 t210 t210 (t210.length : Int) ji33 a1_0 a1_1 a1_2 a1_3 a1_4 a1_5 a1_6 a1_7 a1_8) else (none)) = some (r1, r2, r3, r4) := by first | (rw [hji33] at H; exact H) | (simp only [hji33] at H ⊢; exact H)
          (try rw [hji33] at c32b0)
          (try rw [hji33] at A16)
          (try rw [hji33] at A17)
          have hji33w : (IntKind.i64.wrap (x31_1 + 1)) = ji33 := (i64_w _).trans hji33
          replace H := oI H; rcases H with ⟨c34, H⟩ | ⟨c34, H⟩
          ·have c34b0 := dT c34
           clear c34
           have H' := Aq.mk H
           clear H
           have p213 : 0 ≤ (x31_1 : Int) := oA
           have q213 : x31_1 < (t210.length : Int) := oA
           obtain ⟨ad213, e213, hx213_0⟩ := Kd.at_int (Kd.R_reads' HO_29.out).2.2 x31_1 p213 q213
           cases e213
           replace p213 := eq_true p213
           replace q213 := eq_true q213
           obtain ⟨hcz35_0, hcz35_1, hcz35_2, hcz35_3, hcz35_4, hcz35_5, hcz35_6, hcz35_7, hcz35_8, hfz35_0, hfz35_1, hfz35_2, hfz35_3, hfz35_4, hfz35_5, hfz35_6, hfz35_7, hfz35_8⟩ := cf9 BK205.out
           go_wp2_with (first | ((with_reducible refine gD_ (N := 42) rfl ?_); refine gX 42 rfl #[.slice A0 l0.length c0, .string a2, .int .i64 (rd t210 x31_1), .int .i64 a1_1] (award_inForce.calls _ _ l0 a2 (rd t210 x31_1) a1_1 t214 t215 t216 t217 t218 t219 t220 t221 t222 t223 _ (yC HR0 HB) HC0.out A16.out) ?_; intro w36 hb; replace HO_10 := yR HO_10 hb; replace HO_11 := yR HO_11 hb; replace HO_29 := yR HO_29 hb; replace BK205 := yb BK205 hb; replace HB := yB HB hb; try clear hb) | ((with_reducible refine gD_ (N := 14) rfl ?_); refine bxE (N := 14) #[.int .i64 0, .int .i64 0, .int .i64 0, .string (⟨#[]⟩ : ByteArray), .int .i64 0, .int .i64 0, .int .i64 0, .int .i64 0, .int .i64 0] 26 ?_; intro gb224 hg w37 hbox hb; have BK224 := Aq.mk hbox; have GW224 := yS HB hg; have GE224 := yS HB hg; have NB205_224 := yN BK205 hg; have NB224_205 := yM BK205 hg; replace HO_10 := Aq.mk (Kd.R_below (Kd.R_elderB (sR HO_10.out) gb224 (Nat.le_of_eq hg.symm)) hb); replace HO_11 := yR HO_11 hb; replace HO_29 := yR HO_29 hb; replace BK205 := yb BK205 hb; replace HB := yB HB hb; clear hb hbox hg; have hnb38 := NB224_205.out; have hnc38 := NB205_224.out; obtain ⟨hcz39_0, hcz39_1, hcz39_2, hcz39_3, hcz39_4, hcz39_5, hcz39_6, hcz39_7, hcz39_8, hfz39_0, hfz39_1, hfz39_2, hfz39_3, hfz39_4, hfz39_5, hfz39_6, hfz39_7, hfz39_8⟩ := cf9 BK224.out; obtain ⟨hcz40_0, hcz40_1, hcz40_2, hcz40_3, hcz40_4, hcz40_5, hcz40_6, hcz40_7, hcz40_8, hfz40_0, hfz40_1, hfz40_2, hfz40_3, hfz40_4, hfz40_5, hfz40_6, hfz40_7, hfz40_8⟩ := cf9 BK205.out) | ((with_reducible refine gD_ (N := 51) rfl ?_); refine gX 51 rfl #[.slice Ao10 t206.length co10, .string a2, .int .i64 (rd t210 x31_1), .int .i64 a1_1] (award_inForce.calls _ _ t206 a2 (rd t210 x31_1) a1_1 t225 t226 t227 t228 t229 t230 t231 t232 t233 t234 _ ?side1 ((Kd.R_reads' HO_10.out).2.1) A17.out) ?_; (case side1 => refine (Kd.R_reads' (e := 26) (base := w.heap.size) (ok := fun k_ => (k_ ≠ gb205 ∧ k_ ≠ gb224)) (n := t206.length) (c := co10) ?_).2.2; exact (by refine wR ?_; exact (Kd.R_mono (rf9 (Kd.R_mono HO_10.out (fun k_ hk => (⟨hk, hk.2⟩ : _ ∧ k_ ≠ gb224)))) (fun _ h_ => h_.1)))); intro w41 hb; replace HO_10 := Aq.mk (Kd.R_below (by refine wR ?_; exact (Kd.R_mono (rf9 (Kd.R_mono HO_10.out (fun k_ hk => (⟨hk, hk.2⟩ : _ ∧ k_ ≠ gb224)))) (fun _ h_ => h_.1))) hb); replace HO_11 := Aq.mk (Kd.R_below (by refine wR ?_; exact (Kd.R_mono (rf9 (Kd.R_types HO_11.out BK224.out (by decide))) (fun _ h_ => h_.1))) hb); replace HO_29 := Aq.mk (Kd.R_below (by refine wR ?_; exact (Kd.R_mono (rf9 (Kd.R_types HO_29.out BK224.out (by decide))) (fun _ h_ => h_.1))) hb); replace BK205 := yF NB205_224 BK205 hb; replace BK224 := yT9 BK224 hb; replace HB := yB HB hb; try clear hb) | ((with_reducible refine gD_ (N := 16) rfl ?_); refine bxE (N := 16) #[.int .i64 0, .int .i64 0, .int .i64 0, .string (⟨#[]⟩ : ByteArray), .int .i64 0, .int .i64 0, .int .i64 0, .int .i64 0, .int .i64 0] 26 ?_; intro gb235 hg w42 hbox hb; have BK235 := Aq.mk hbox; have GW235 := yS HB hg; have GE235 := yS HB hg; have NB205_235 := yN BK205 hg; have NB235_205 := yM BK205 hg; have NB224_235 := yN BK224 hg; have NB235_224 := yM BK224 hg; replace HO_10 := Aq.mk (Kd.R_below (Kd.R_elderB (sR HO_10.out) gb235 (Nat.le_of_eq hg.symm)) hb); replace HO_11 := yR HO_11 hb; replace HO_29 := yR HO_29 hb; replace BK205 := yb BK205 hb; replace BK224 := yb BK224 hb; replace HB := yB HB hb; clear hb hbox hg; have hnb43 := NB235_205.out; have hnc43 := NB205_235.out; have hnb44 := NB235_224.out; have hnc44 := NB224_235.out; obtain ⟨hcz45_0, hcz45_1, hcz45_2, hcz45_3, hcz45_4, hcz45_5, hcz45_6, hcz45_7, hcz45_8, hfz45_0, hfz45_1, hfz45_2, hfz45_3, hfz45_4, hfz45_5, hfz45_6, hfz45_7, hfz45_8⟩ := cf9 BK235.out; obtain ⟨hcz46_0, hcz46_1, hcz46_2, hcz46_3, hcz46_4, hcz46_5, hcz46_6, hcz46_7, hcz46_8, hfz46_0, hfz46_1, hfz46_2, hfz46_3, hfz46_4, hfz46_5, hfz46_6, hfz46_7, hfz46_8⟩ := cf9 BK224.out; have p236 : 0 ≤ ((ji33) : Int) := oA; have q236 : (ji33) < (t210.length : Int) := oA; obtain ⟨ad236, e236, hx236_0⟩ := Kd.at_int (Kd.R_reads' HO_11.out).2.2 (ji33) p236 q236; obtain rfl : ad213 = ad236 := (by injection e236); have hn236_0 : ad213.block ≠ gb235 := Kd.own_blk (Kd.R_ne HO_11.out BK235.out (by decide)); have hn236_1 : ad213.block ≠ gb235 := Kd.own_blk (Kd.R_ne HO_11.out BK235.out (by decide)); have hn236_2 : ad213.block ≠ gb235 := Kd.own_blk (Kd.R_ne HO_11.out BK235.out (by decide)); have hn236_3 : ad213.block ≠ gb235 := Kd.own_blk (Kd.R_ne HO_11.out BK235.out (by decide)); have hn236_4 : ad213.block ≠ gb235 := Kd.own_blk (Kd.R_ne HO_11.out BK235.out (by decide)); have hn236_5 : ad213.block ≠ gb235 := Kd.own_blk (Kd.R_ne HO_11.out BK235.out (by decide)); have hn236_6 : ad213.block ≠ gb235 := Kd.own_blk (Kd.R_ne HO_11.out BK235.out (by decide)); have hn236_7 : ad213.block ≠ gb235 := Kd.own_blk (Kd.R_ne HO_11.out BK235.out (by decide)); have hn236_8 : ad213.block ≠ gb235 := Kd.own_blk (Kd.R_ne HO_11.out BK235.out (by decide)); replace hx236_0 := (cell_far (p := ⟨gb235, 0, none⟩) (by first | (rw [add_block]; exact hn236_0) | (show (Addr.add _ _).block ≠ _; rw [add_block]; exact hn236_0) | exact hn236_0) (.int .i64 t225)).trans hx236_0; replace hx236_0 := (cell_far (p := ⟨gb235, 1, none⟩) (by first | (rw [add_block]; exact hn236_1) | (show (Addr.add _ _).block ≠ _; rw [add_block]; exact hn236_1) | exact hn236_1) (.int .i64 t226)).trans hx236_0; replace hx236_0 := (cell_far (p := ⟨gb235, 2, none⟩) (by first | (rw [add_block]; exact hn236_2) | (show (Addr.add _ _).block ≠ _; rw [add_block]; exact hn236_2) | exact hn236_2) (.int .i64 t227)).trans hx236_0; replace hx236_0 := (cell_far (p := ⟨gb235, 3, none⟩) (by first | (rw [add_block]; exact hn236_3) | (show (Addr.add _ _).block ≠ _; rw [add_block]; exact hn236_3) | exact hn236_3) (.string t228)).trans hx236_0; replace hx236_0 := (cell_far (p := ⟨gb235, 4, none⟩) (by first | (rw [add_block]; exact hn236_4) | (show (Addr.add _ _).block ≠ _; rw [add_block]; exact hn236_4) | exact hn236_4) (.int .i64 t229)).trans hx236_0; replace hx236_0 := (cell_far (p := ⟨gb235, 5, none⟩) (by first | (rw [add_block]; exact hn236_5) | (show (Addr.add _ _).block ≠ _; rw [add_block]; exact hn236_5) | exact hn236_5) (.int .i64 t230)).trans hx236_0; replace hx236_0 := (cell_far (p := ⟨gb235, 6, none⟩) (by first | (rw [add_block]; exact hn236_6) | (show (Addr.add _ _).block ≠ _; rw [add_block]; exact hn236_6) | exact hn236_6) (.int .i64 t231)).trans hx236_0; replace hx236_0 := (cell_far (p := ⟨gb235, 7, none⟩) (by first | (rw [add_block]; exact hn236_7) | (show (Addr.add _ _).block ≠ _; rw [add_block]; exact hn236_7) | exact hn236_7) (.int .i64 t232)).trans hx236_0; replace hx236_0 := (cell_far (p := ⟨gb235, 8, none⟩) (by first | (rw [add_block]; exact hn236_8) | (show (Addr.add _ _).block ≠ _; rw [add_block]; exact hn236_8) | exact hn236_8) (.int .i64 t233)).trans hx236_0; clear hn236_0; clear hn236_1; clear hn236_2; clear hn236_3; clear hn236_4; clear hn236_5; clear hn236_6; clear hn236_7; clear hn236_8; replace p236 := eq_true p236; replace q236 := eq_true q236))
           go_roundg k1
           case measure => have := HK1.out; omega
           case rel => exact ⟨(x6_1), (wrap64 ((rd t210 (ji33)) - 1)), (true), (ji33), sS, (by first | rfl | (simp; done) | (simp only [← hji33] <;> (first | rfl | simp)) | (simp [*]; done)), sS, (by first | rfl | (simp; done) | (simp only [← hji33] <;> (first | rfl | simp)) | (simp [*]; done)), H', ⟨by have := HK1.out; omega⟩, ⟨by refine wR ?_; exact Kd.R_mono (rf9 (Kd.R_mono HO_10.out (fun k_ hk => (⟨hk, hk.2⟩ : _ ∧ k_ ≠ gb235)))) (fun _ hk => hk.1.1.1)⟩, ⟨by refine wR ?_; exact Kd.R_mono (rf9 (Kd.R_types HO_11.out BK235.out (by decide))) (fun _ hk => trivial)⟩, ⟨by refine wR ?_; exact Kd.R_mono (rf9 (Kd.R_types HO_29.out BK235.out (by decide))) (fun _ hk => trivial)⟩, ⟨sF NB205_235 BK205⟩, ⟨sB HB.out⟩⟩
          ·exact absurd H (by simp)
         ·have c32b0 := dF c32
          clear c32
          have H' := Aq.mk H
          clear H
          have p213 : 0 ≤ (x31_1 : Int) := oA
          have q213 : x31_1 < (t210.length : Int) := oA
          obtain ⟨ad213, e213, hx213_0⟩ := Kd.at_int (Kd.R_reads' HO_29.out).2.2 x31_1 p213 q213
          cases e213
          replace p213 := eq_true p213
          replace q213 := eq_true q213
          obtain ⟨hcz47_0, hcz47_1, hcz47_2, hcz47_3, hcz47_4, hcz47_5, hcz47_6, hcz47_7, hcz47_8, hfz47_0, hfz47_1, hfz47_2, hfz47_3, hfz47_4, hfz47_5, hfz47_6, hfz47_7, hfz47_8⟩ := cf9 BK205.out
          go_wp2_with (first | ((with_reducible refine gD_ (N := 42) rfl ?_); refine gX 42 rfl #[.slice A0 l0.length c0, .string a2, .int .i64 (rd t210 x31_1), .int .i64 a1_1] (award_inForce.calls _ _ l0 a2 (rd t210 x31_1) a1_1 t214 t215 t216 t217 t218 t219 t220 t221 t222 t223 _ (yC HR0 HB) HC0.out A16.out) ?_; intro w48 hb; replace HO_10 := yR HO_10 hb; replace HO_11 := yR HO_11 hb; replace HO_29 := yR HO_29 hb; replace BK205 := yb BK205 hb; replace HB := yB HB hb; try clear hb) | ((with_reducible refine gD_ (N := 14) rfl ?_); refine bxE (N := 14) #[.int .i64 0, .int .i64 0, .int .i64 0, .string (⟨#[]⟩ : ByteArray), .int .i64 0, .int .i64 0, .int .i64 0, .int .i64 0, .int .i64 0] 26 ?_; intro gb224 hg w49 hbox hb; have BK224 := Aq.mk hbox; have GW224 := yS HB hg; have GE224 := yS HB hg; have NB205_224 := yN BK205 hg; have NB224_205 := yM BK205 hg; replace HO_10 := Aq.mk (Kd.R_below (Kd.R_elderB (sR HO_10.out) gb224 (Nat.le_of_eq hg.symm)) hb); replace HO_11 := yR HO_11 hb; replace HO_29 := yR HO_29 hb; replace BK205 := yb BK205 hb; replace HB := yB HB hb; clear hb hbox hg; have hnb50 := NB224_205.out; have hnc50 := NB205_224.out; obtain ⟨hcz51_0, hcz51_1, hcz51_2, hcz51_3, hcz51_4, hcz51_5, hcz51_6, hcz51_7, hcz51_8, hfz51_0, hfz51_1, hfz51_2, hfz51_3, hfz51_4, hfz51_5, hfz51_6, hfz51_7, hfz51_8⟩ := cf9 BK224.out; obtain ⟨hcz52_0, hcz52_1, hcz52_2, hcz52_3, hcz52_4, hcz52_5, hcz52_6, hcz52_7, hcz52_8, hfz52_0, hfz52_1, hfz52_2, hfz52_3, hfz52_4, hfz52_5, hfz52_6, hfz52_7, hfz52_8⟩ := cf9 BK205.out) | ((with_reducible refine gD_ (N := 51) rfl ?_); refine gX 51 rfl #[.slice Ao10 t206.length co10, .string a2, .int .i64 (rd t210 x31_1), .int .i64 a1_1] (award_inForce.calls _ _ t206 a2 (rd t210 x31_1) a1_1 t225 t226 t227 t228 t229 t230 t231 t232 t233 t234 _ ?side1 ((Kd.R_reads' HO_10.out).2.1) A17.out) ?_; (case side1 => refine (Kd.R_reads' (e := 26) (base := w.heap.size) (ok := fun k_ => (k_ ≠ gb205 ∧ k_ ≠ gb224)) (n := t206.length) (c := co10) ?_).2.2; exact (by refine wR ?_; exact (Kd.R_mono (rf9 (Kd.R_mono HO_10.out (fun k_ hk => (⟨hk, hk.2⟩ : _ ∧ k_ ≠ gb224)))) (fun _ h_ => h_.1)))); intro w53 hb; replace HO_10 := Aq.mk (Kd.R_below (by refine wR ?_; exact (Kd.R_mono (rf9 (Kd.R_mono HO_10.out (fun k_ hk => (⟨hk, hk.2⟩ : _ ∧ k_ ≠ gb224)))) (fun _ h_ => h_.1))) hb); replace HO_11 := Aq.mk (Kd.R_below (by refine wR ?_; exact (Kd.R_mono (rf9 (Kd.R_types HO_11.out BK224.out (by decide))) (fun _ h_ => h_.1))) hb); replace HO_29 := Aq.mk (Kd.R_below (by refine wR ?_; exact (Kd.R_mono (rf9 (Kd.R_types HO_29.out BK224.out (by decide))) (fun _ h_ => h_.1))) hb); replace BK205 := yF NB205_224 BK205 hb; replace BK224 := yT9 BK224 hb; replace HB := yB HB hb; try clear hb) | ((with_reducible refine gD_ (N := 16) rfl ?_); refine bxE (N := 16) #[.int .i64 0, .int .i64 0, .int .i64 0, .string (⟨#[]⟩ : ByteArray), .int .i64 0, .int .i64 0, .int .i64 0, .int .i64 0, .int .i64 0] 26 ?_; intro gb235 hg w54 hbox hb; have BK235 := Aq.mk hbox; have GW235 := yS HB hg; have GE235 := yS HB hg; have NB205_235 := yN BK205 hg; have NB235_205 := yM BK205 hg; have NB224_235 := yN BK224 hg; have NB235_224 := yM BK224 hg; replace HO_10 := Aq.mk (Kd.R_below (Kd.R_elderB (sR HO_10.out) gb235 (Nat.le_of_eq hg.symm)) hb); replace HO_11 := yR HO_11 hb; replace HO_29 := yR HO_29 hb; replace BK205 := yb BK205 hb; replace BK224 := yb BK224 hb; replace HB := yB HB hb; clear hb hbox hg; have hnb55 := NB235_205.out; have hnc55 := NB205_235.out; have hnb56 := NB235_224.out; have hnc56 := NB224_235.out; obtain ⟨hcz57_0, hcz57_1, hcz57_2, hcz57_3, hcz57_4, hcz57_5, hcz57_6, hcz57_7, hcz57_8, hfz57_0, hfz57_1, hfz57_2, hfz57_3, hfz57_4, hfz57_5, hfz57_6, hfz57_7, hfz57_8⟩ := cf9 BK235.out; obtain ⟨hcz58_0, hcz58_1, hcz58_2, hcz58_3, hcz58_4, hcz58_5, hcz58_6, hcz58_7, hcz58_8, hfz58_0, hfz58_1, hfz58_2, hfz58_3, hfz58_4, hfz58_5, hfz58_6, hfz58_7, hfz58_8⟩ := cf9 BK224.out))
          go_roundg k1
          case measure => have := HK1.out; omega
          case rel => exact ⟨(x6_1), (1000000), (true), (wrap64 (x31_1 + 1)), sS, sS, sS, sS, H', ⟨by have := HK1.out; omega⟩, ⟨by refine wR ?_; exact Kd.R_mono (rf9 (Kd.R_mono HO_10.out (fun k_ hk => (⟨hk, hk.2⟩ : _ ∧ k_ ≠ gb235)))) (fun _ hk => hk.1.1.1)⟩, ⟨by refine wR ?_; exact Kd.R_mono (rf9 (Kd.R_types HO_11.out BK235.out (by decide))) (fun _ hk => trivial)⟩, ⟨by refine wR ?_; exact Kd.R_mono (rf9 (Kd.R_types HO_29.out BK235.out (by decide))) (fun _ hk => trivial)⟩, ⟨sF NB205_235 BK205⟩, ⟨sB HB.out⟩⟩
        ·replace H := oI H; rcases H with ⟨c59, H⟩ | ⟨c59, H⟩
         ·have c59b0 := dT c59
          clear c59
          obtain ⟨ji60, hji60⟩ : ∃ j_ : Int, (wrap64 (x31_1 + 1)) = j_ := ⟨_, rfl⟩
          replace H : (if 0 ≤ (ji60) then (award_Touched.l0 k1 l0 a2 (rd t210 x31_1) (wrap64 ((rd t210 (ji60)) - 1)) true t206 t210 t210 (t210.length : Int) ji60 a1_0 a1_1 a1_2 a1_3 a1_4 a1_5 a1_6 a1_7 a1_8) else (none)) = some (r1, r2, r3, r4) := by first | (rw [hji60] at H; exact H) | (simp only [hji60] at H ⊢; exact H)
          (try rw [hji60] at c59b0)
          (try rw [hji60] at A16)
          (try rw [hji60] at A17)
          have hji60w : (IntKind.i64.wrap (x31_1 + 1)) = ji60 := (i64_w _).trans hji60
          replace H := oI H; rcases H with ⟨c61, H⟩ | ⟨c61, H⟩
          ·have c61b0 := dT c61
           clear c61
           have H' := Aq.mk H
           clear H
           have p213 : 0 ≤ (x31_1 : Int) := oA
           have q213 : x31_1 < (t210.length : Int) := oA
           obtain ⟨ad213, e213, hx213_0⟩ := Kd.at_int (Kd.R_reads' HO_29.out).2.2 x31_1 p213 q213
           cases e213
           replace p213 := eq_true p213
           replace q213 := eq_true q213
           obtain ⟨hcz62_0, hcz62_1, hcz62_2, hcz62_3, hcz62_4, hcz62_5, hcz62_6, hcz62_7, hcz62_8, hfz62_0, hfz62_1, hfz62_2, hfz62_3, hfz62_4, hfz62_5, hfz62_6, hfz62_7, hfz62_8⟩ := cf9 BK205.out
           go_wp2_with (first | ((with_reducible refine gD_ (N := 42) rfl ?_); refine gX 42 rfl #[.slice A0 l0.length c0, .string a2, .int .i64 (rd t210 x31_1), .int .i64 a1_1] (award_inForce.calls _ _ l0 a2 (rd t210 x31_1) a1_1 t214 t215 t216 t217 t218 t219 t220 t221 t222 t223 _ (yC HR0 HB) HC0.out A16.out) ?_; intro w63 hb; replace HO_10 := yR HO_10 hb; replace HO_11 := yR HO_11 hb; replace HO_29 := yR HO_29 hb; replace BK205 := yb BK205 hb; replace HB := yB HB hb; try clear hb) | ((with_reducible refine gD_ (N := 14) rfl ?_); refine bxE (N := 14) #[.int .i64 0, .int .i64 0, .int .i64 0, .string (⟨#[]⟩ : ByteArray), .int .i64 0, .int .i64 0, .int .i64 0, .int .i64 0, .int .i64 0] 26 ?_; intro gb224 hg w64 hbox hb; have BK224 := Aq.mk hbox; have GW224 := yS HB hg; have GE224 := yS HB hg; have NB205_224 := yN BK205 hg; have NB224_205 := yM BK205 hg; replace HO_10 := Aq.mk (Kd.R_below (Kd.R_elderB (sR HO_10.out) gb224 (Nat.le_of_eq hg.symm)) hb); replace HO_11 := yR HO_11 hb; replace HO_29 := yR HO_29 hb; replace BK205 := yb BK205 hb; replace HB := yB HB hb; clear hb hbox hg; have hnb65 := NB224_205.out; have hnc65 := NB205_224.out; obtain ⟨hcz66_0, hcz66_1, hcz66_2, hcz66_3, hcz66_4, hcz66_5, hcz66_6, hcz66_7, hcz66_8, hfz66_0, hfz66_1, hfz66_2, hfz66_3, hfz66_4, hfz66_5, hfz66_6, hfz66_7, hfz66_8⟩ := cf9 BK224.out; obtain ⟨hcz67_0, hcz67_1, hcz67_2, hcz67_3, hcz67_4, hcz67_5, hcz67_6, hcz67_7, hcz67_8, hfz67_0, hfz67_1, hfz67_2, hfz67_3, hfz67_4, hfz67_5, hfz67_6, hfz67_7, hfz67_8⟩ := cf9 BK205.out) | ((with_reducible refine gD_ (N := 51) rfl ?_); refine gX 51 rfl #[.slice Ao10 t206.length co10, .string a2, .int .i64 (rd t210 x31_1), .int .i64 a1_1] (award_inForce.calls _ _ t206 a2 (rd t210 x31_1) a1_1 t225 t226 t227 t228 t229 t230 t231 t232 t233 t234 _ ?side1 ((Kd.R_reads' HO_10.out).2.1) A17.out) ?_; (case side1 => refine (Kd.R_reads' (e := 26) (base := w.heap.size) (ok := fun k_ => (k_ ≠ gb205 ∧ k_ ≠ gb224)) (n := t206.length) (c := co10) ?_).2.2; exact (by refine wR ?_; exact (Kd.R_mono (rf9 (Kd.R_mono HO_10.out (fun k_ hk => (⟨hk, hk.2⟩ : _ ∧ k_ ≠ gb224)))) (fun _ h_ => h_.1)))); intro w68 hb; replace HO_10 := Aq.mk (Kd.R_below (by refine wR ?_; exact (Kd.R_mono (rf9 (Kd.R_mono HO_10.out (fun k_ hk => (⟨hk, hk.2⟩ : _ ∧ k_ ≠ gb224)))) (fun _ h_ => h_.1))) hb); replace HO_11 := Aq.mk (Kd.R_below (by refine wR ?_; exact (Kd.R_mono (rf9 (Kd.R_types HO_11.out BK224.out (by decide))) (fun _ h_ => h_.1))) hb); replace HO_29 := Aq.mk (Kd.R_below (by refine wR ?_; exact (Kd.R_mono (rf9 (Kd.R_types HO_29.out BK224.out (by decide))) (fun _ h_ => h_.1))) hb); replace BK205 := yF NB205_224 BK205 hb; replace BK224 := yT9 BK224 hb; replace HB := yB HB hb; try clear hb) | ((with_reducible refine gD_ (N := 16) rfl ?_); refine bxE (N := 16) #[.int .i64 0, .int .i64 0, .int .i64 0, .string (⟨#[]⟩ : ByteArray), .int .i64 0, .int .i64 0, .int .i64 0, .int .i64 0, .int .i64 0] 26 ?_; intro gb235 hg w69 hbox hb; have BK235 := Aq.mk hbox; have GW235 := yS HB hg; have GE235 := yS HB hg; have NB205_235 := yN BK205 hg; have NB235_205 := yM BK205 hg; have NB224_235 := yN BK224 hg; have NB235_224 := yM BK224 hg; replace HO_10 := Aq.mk (Kd.R_below (Kd.R_elderB (sR HO_10.out) gb235 (Nat.le_of_eq hg.symm)) hb); replace HO_11 := yR HO_11 hb; replace HO_29 := yR HO_29 hb; replace BK205 := yb BK205 hb; replace BK224 := yb BK224 hb; replace HB := yB HB hb; clear hb hbox hg; have hnb70 := NB235_205.out; have hnc70 := NB205_235.out; have hnb71 := NB235_224.out; have hnc71 := NB224_235.out; obtain ⟨hcz72_0, hcz72_1, hcz72_2, hcz72_3, hcz72_4, hcz72_5, hcz72_6, hcz72_7, hcz72_8, hfz72_0, hfz72_1, hfz72_2, hfz72_3, hfz72_4, hfz72_5, hfz72_6, hfz72_7, hfz72_8⟩ := cf9 BK235.out; obtain ⟨hcz73_0, hcz73_1, hcz73_2, hcz73_3, hcz73_4, hcz73_5, hcz73_6, hcz73_7, hcz73_8, hfz73_0, hfz73_1, hfz73_2, hfz73_3, hfz73_4, hfz73_5, hfz73_6, hfz73_7, hfz73_8⟩ := cf9 BK224.out; have p237 : 0 ≤ ((ji60) : Int) := oA; have q237 : (ji60) < (t210.length : Int) := oA; obtain ⟨ad237, e237, hx237_0⟩ := Kd.at_int (Kd.R_reads' HO_11.out).2.2 (ji60) p237 q237; obtain rfl : ad213 = ad237 := (by injection e237); have hn237_0 : ad213.block ≠ gb235 := Kd.own_blk (Kd.R_ne HO_11.out BK235.out (by decide)); have hn237_1 : ad213.block ≠ gb235 := Kd.own_blk (Kd.R_ne HO_11.out BK235.out (by decide)); have hn237_2 : ad213.block ≠ gb235 := Kd.own_blk (Kd.R_ne HO_11.out BK235.out (by decide)); have hn237_3 : ad213.block ≠ gb235 := Kd.own_blk (Kd.R_ne HO_11.out BK235.out (by decide)); have hn237_4 : ad213.block ≠ gb235 := Kd.own_blk (Kd.R_ne HO_11.out BK235.out (by decide)); have hn237_5 : ad213.block ≠ gb235 := Kd.own_blk (Kd.R_ne HO_11.out BK235.out (by decide)); have hn237_6 : ad213.block ≠ gb235 := Kd.own_blk (Kd.R_ne HO_11.out BK235.out (by decide)); have hn237_7 : ad213.block ≠ gb235 := Kd.own_blk (Kd.R_ne HO_11.out BK235.out (by decide)); have hn237_8 : ad213.block ≠ gb235 := Kd.own_blk (Kd.R_ne HO_11.out BK235.out (by decide)); replace hx237_0 := (cell_far (p := ⟨gb235, 0, none⟩) (by first | (rw [add_block]; exact hn237_0) | (show (Addr.add _ _).block ≠ _; rw [add_block]; exact hn237_0) | exact hn237_0) (.int .i64 t225)).trans hx237_0; replace hx237_0 := (cell_far (p := ⟨gb235, 1, none⟩) (by first | (rw [add_block]; exact hn237_1) | (show (Addr.add _ _).block ≠ _; rw [add_block]; exact hn237_1) | exact hn237_1) (.int .i64 t226)).trans hx237_0; replace hx237_0 := (cell_far (p := ⟨gb235, 2, none⟩) (by first | (rw [add_block]; exact hn237_2) | (show (Addr.add _ _).block ≠ _; rw [add_block]; exact hn237_2) | exact hn237_2) (.int .i64 t227)).trans hx237_0; replace hx237_0 := (cell_far (p := ⟨gb235, 3, none⟩) (by first | (rw [add_block]; exact hn237_3) | (show (Addr.add _ _).block ≠ _; rw [add_block]; exact hn237_3) | exact hn237_3) (.string t228)).trans hx237_0; replace hx237_0 := (cell_far (p := ⟨gb235, 4, none⟩) (by first | (rw [add_block]; exact hn237_4) | (show (Addr.add _ _).block ≠ _; rw [add_block]; exact hn237_4) | exact hn237_4) (.int .i64 t229)).trans hx237_0; replace hx237_0 := (cell_far (p := ⟨gb235, 5, none⟩) (by first | (rw [add_block]; exact hn237_5) | (show (Addr.add _ _).block ≠ _; rw [add_block]; exact hn237_5) | exact hn237_5) (.int .i64 t230)).trans hx237_0; replace hx237_0 := (cell_far (p := ⟨gb235, 6, none⟩) (by first | (rw [add_block]; exact hn237_6) | (show (Addr.add _ _).block ≠ _; rw [add_block]; exact hn237_6) | exact hn237_6) (.int .i64 t231)).trans hx237_0; replace hx237_0 := (cell_far (p := ⟨gb235, 7, none⟩) (by first | (rw [add_block]; exact hn237_7) | (show (Addr.add _ _).block ≠ _; rw [add_block]; exact hn237_7) | exact hn237_7) (.int .i64 t232)).trans hx237_0; replace hx237_0 := (cell_far (p := ⟨gb235, 8, none⟩) (by first | (rw [add_block]; exact hn237_8) | (show (Addr.add _ _).block ≠ _; rw [add_block]; exact hn237_8) | exact hn237_8) (.int .i64 t233)).trans hx237_0; clear hn237_0; clear hn237_1; clear hn237_2; clear hn237_3; clear hn237_4; clear hn237_5; clear hn237_6; clear hn237_7; clear hn237_8; replace p237 := eq_true p237; replace q237 := eq_true q237))
           go_roundg k1
           case measure => have := HK1.out; omega
           case rel => exact ⟨(rd t210 x31_1), (wrap64 ((rd t210 (ji60)) - 1)), (true), (ji60), sS, (by first | rfl | (simp; done) | (simp only [← hji60] <;> (first | rfl | simp)) | (simp [*]; done)), sS, (by first | rfl | (simp; done) | (simp only [← hji60] <;> (first | rfl | simp)) | (simp [*]; done)), H', ⟨by have := HK1.out; omega⟩, ⟨by refine wR ?_; exact Kd.R_mono (rf9 (Kd.R_mono HO_10.out (fun k_ hk => (⟨hk, hk.2⟩ : _ ∧ k_ ≠ gb235)))) (fun _ hk => hk.1.1.1)⟩, ⟨by refine wR ?_; exact Kd.R_mono (rf9 (Kd.R_types HO_11.out BK235.out (by decide))) (fun _ hk => trivial)⟩, ⟨by refine wR ?_; exact Kd.R_mono (rf9 (Kd.R_types HO_29.out BK235.out (by decide))) (fun _ hk => trivial)⟩, ⟨sF NB205_235 BK205⟩, ⟨sB HB.out⟩⟩
          ·exact absurd H (by simp)
         ·have c59b0 := dF c59
          clear c59
          have H' := Aq.mk H
          clear H
          have p213 : 0 ≤ (x31_1 : Int) := oA
          have q213 : x31_1 < (t210.length : Int) := oA
          obtain ⟨ad213, e213, hx213_0⟩ := Kd.at_int (Kd.R_reads' HO_29.out).2.2 x31_1 p213 q213
          cases e213
          replace p213 := eq_true p213
          replace q213 := eq_true q213
          obtain ⟨hcz74_0, hcz74_1, hcz74_2, hcz74_3, hcz74_4, hcz74_5, hcz74_6, hcz74_7, hcz74_8, hfz74_0, hfz74_1, hfz74_2, hfz74_3, hfz74_4, hfz74_5, hfz74_6, hfz74_7, hfz74_8⟩ := cf9 BK205.out
          go_wp2_with (first | ((with_reducible refine gD_ (N := 42) rfl ?_); refine gX 42 rfl #[.slice A0 l0.length c0, .string a2, .int .i64 (rd t210 x31_1), .int .i64 a1_1] (award_inForce.calls _ _ l0 a2 (rd t210 x31_1) a1_1 t214 t215 t216 t217 t218 t219 t220 t221 t222 t223 _ (yC HR0 HB) HC0.out A16.out) ?_; intro w75 hb; replace HO_10 := yR HO_10 hb; replace HO_11 := yR HO_11 hb; replace HO_29 := yR HO_29 hb; replace BK205 := yb BK205 hb; replace HB := yB HB hb; try clear hb) | ((with_reducible refine gD_ (N := 14) rfl ?_); refine bxE (N := 14) #[.int .i64 0, .int .i64 0, .int .i64 0, .string (⟨#[]⟩ : ByteArray), .int .i64 0, .int .i64 0, .int .i64 0, .int .i64 0, .int .i64 0] 26 ?_; intro gb224 hg w76 hbox hb; have BK224 := Aq.mk hbox; have GW224 := yS HB hg; have GE224 := yS HB hg; have NB205_224 := yN BK205 hg; have NB224_205 := yM BK205 hg; replace HO_10 := Aq.mk (Kd.R_below (Kd.R_elderB (sR HO_10.out) gb224 (Nat.le_of_eq hg.symm)) hb); replace HO_11 := yR HO_11 hb; replace HO_29 := yR HO_29 hb; replace BK205 := yb BK205 hb; replace HB := yB HB hb; clear hb hbox hg; have hnb77 := NB224_205.out; have hnc77 := NB205_224.out; obtain ⟨hcz78_0, hcz78_1, hcz78_2, hcz78_3, hcz78_4, hcz78_5, hcz78_6, hcz78_7, hcz78_8, hfz78_0, hfz78_1, hfz78_2, hfz78_3, hfz78_4, hfz78_5, hfz78_6, hfz78_7, hfz78_8⟩ := cf9 BK224.out; obtain ⟨hcz79_0, hcz79_1, hcz79_2, hcz79_3, hcz79_4, hcz79_5, hcz79_6, hcz79_7, hcz79_8, hfz79_0, hfz79_1, hfz79_2, hfz79_3, hfz79_4, hfz79_5, hfz79_6, hfz79_7, hfz79_8⟩ := cf9 BK205.out) | ((with_reducible refine gD_ (N := 51) rfl ?_); refine gX 51 rfl #[.slice Ao10 t206.length co10, .string a2, .int .i64 (rd t210 x31_1), .int .i64 a1_1] (award_inForce.calls _ _ t206 a2 (rd t210 x31_1) a1_1 t225 t226 t227 t228 t229 t230 t231 t232 t233 t234 _ ?side1 ((Kd.R_reads' HO_10.out).2.1) A17.out) ?_; (case side1 => refine (Kd.R_reads' (e := 26) (base := w.heap.size) (ok := fun k_ => (k_ ≠ gb205 ∧ k_ ≠ gb224)) (n := t206.length) (c := co10) ?_).2.2; exact (by refine wR ?_; exact (Kd.R_mono (rf9 (Kd.R_mono HO_10.out (fun k_ hk => (⟨hk, hk.2⟩ : _ ∧ k_ ≠ gb224)))) (fun _ h_ => h_.1)))); intro w80 hb; replace HO_10 := Aq.mk (Kd.R_below (by refine wR ?_; exact (Kd.R_mono (rf9 (Kd.R_mono HO_10.out (fun k_ hk => (⟨hk, hk.2⟩ : _ ∧ k_ ≠ gb224)))) (fun _ h_ => h_.1))) hb); replace HO_11 := Aq.mk (Kd.R_below (by refine wR ?_; exact (Kd.R_mono (rf9 (Kd.R_types HO_11.out BK224.out (by decide))) (fun _ h_ => h_.1))) hb); replace HO_29 := Aq.mk (Kd.R_below (by refine wR ?_; exact (Kd.R_mono (rf9 (Kd.R_types HO_29.out BK224.out (by decide))) (fun _ h_ => h_.1))) hb); replace BK205 := yF NB205_224 BK205 hb; replace BK224 := yT9 BK224 hb; replace HB := yB HB hb; try clear hb) | ((with_reducible refine gD_ (N := 16) rfl ?_); refine bxE (N := 16) #[.int .i64 0, .int .i64 0, .int .i64 0, .string (⟨#[]⟩ : ByteArray), .int .i64 0, .int .i64 0, .int .i64 0, .int .i64 0, .int .i64 0] 26 ?_; intro gb235 hg w81 hbox hb; have BK235 := Aq.mk hbox; have GW235 := yS HB hg; have GE235 := yS HB hg; have NB205_235 := yN BK205 hg; have NB235_205 := yM BK205 hg; have NB224_235 := yN BK224 hg; have NB235_224 := yM BK224 hg; replace HO_10 := Aq.mk (Kd.R_below (Kd.R_elderB (sR HO_10.out) gb235 (Nat.le_of_eq hg.symm)) hb); replace HO_11 := yR HO_11 hb; replace HO_29 := yR HO_29 hb; replace BK205 := yb BK205 hb; replace BK224 := yb BK224 hb; replace HB := yB HB hb; clear hb hbox hg; have hnb82 := NB235_205.out; have hnc82 := NB205_235.out; have hnb83 := NB235_224.out; have hnc83 := NB224_235.out; obtain ⟨hcz84_0, hcz84_1, hcz84_2, hcz84_3, hcz84_4, hcz84_5, hcz84_6, hcz84_7, hcz84_8, hfz84_0, hfz84_1, hfz84_2, hfz84_3, hfz84_4, hfz84_5, hfz84_6, hfz84_7, hfz84_8⟩ := cf9 BK235.out; obtain ⟨hcz85_0, hcz85_1, hcz85_2, hcz85_3, hcz85_4, hcz85_5, hcz85_6, hcz85_7, hcz85_8, hfz85_0, hfz85_1, hfz85_2, hfz85_3, hfz85_4, hfz85_5, hfz85_6, hfz85_7, hfz85_8⟩ := cf9 BK224.out))
          go_roundg k1
          case measure => have := HK1.out; omega
          case rel => exact ⟨(rd t210 x31_1), (1000000), (true), (wrap64 (x31_1 + 1)), sS, sS, sS, sS, H', ⟨by have := HK1.out; omega⟩, ⟨by refine wR ?_; exact Kd.R_mono (rf9 (Kd.R_mono HO_10.out (fun k_ hk => (⟨hk, hk.2⟩ : _ ∧ k_ ≠ gb235)))) (fun _ hk => hk.1.1.1)⟩, ⟨by refine wR ?_; exact Kd.R_mono (rf9 (Kd.R_types HO_11.out BK235.out (by decide))) (fun _ hk => trivial)⟩, ⟨by refine wR ?_; exact Kd.R_mono (rf9 (Kd.R_types HO_29.out BK235.out (by decide))) (fun _ hk => trivial)⟩, ⟨sF NB205_235 BK205⟩, ⟨sB HB.out⟩⟩
      ·exact absurd H (by simp)
     ·exact absurd H (by simp)
    ·have c13b0 := dF c13
     clear c13
     simp only [Option.some.injEq, Prod.mk.injEq] at H
     obtain ⟨rfl, rfl, rfl, rfl⟩ := H
     go_wp2
     refine bodyPost_ret (results_list (rs := [.tmp 6, .tmp 7, .tmp 8, .tmp 9]) rfl (by simp) (.tmp (.tmp (.tmp (.tmp .nil))))) rfl ?_
     exact ⟨sE, sB HB.out⟩
 ·have c5b0 := bF c5
  have c5b1 := bM c5
  simp only [Option.some.injEq, Prod.mk.injEq] at H
  obtain ⟨rfl, rfl, rfl, rfl⟩ := H
  go_enter Tryz.func19, Tryz.ntmps19
  go_wp2_with (first | ((with_reducible refine gD_ (N := 4) rfl ?_); refine bxE (N := 4) #[.int .i64 a1_0, .int .i64 a1_1, .int .i64 a1_2, .string a1_3, .int .i64 a1_4, .int .i64 a1_5, .int .i64 a1_6, .int .i64 a1_7, .int .i64 a1_8] 26 ?_; intro gb205 hg w86 hbox hb; have BK205 := Aq.mk hbox; have GW205 := yS HB hg; have GE205 := yS HB hg; replace HB := yB HB hb; clear hb hbox hg; obtain ⟨hcz87_0, hcz87_1, hcz87_2, hcz87_3, hcz87_4, hcz87_5, hcz87_6, hcz87_7, hcz87_8, hfz87_0, hfz87_1, hfz87_2, hfz87_3, hfz87_4, hfz87_5, hfz87_6, hfz87_7, hfz87_8⟩ := cf9 BK205.out) | ((with_reducible refine gC_ (f := 31) rfl ?_); refine gL (some 21) #[.slice A0 l0.length c0, .agg #[.int .i64 a1_0, .int .i64 a1_1, .int .i64 a1_2, .string a1_3, .int .i64 a1_4, .int .i64 a1_5, .int .i64 a1_6, .int .i64 a1_7, .int .i64 a1_8]] ?_; (with_reducible refine (award_AppendRate.calls _ _ l0 a1_0 a1_1 a1_2 a1_3 a1_4 a1_5 a1_6 a1_7 a1_8 t206 t209 _ ?side1 ?side2 A4.out).mono ?_); (case side1 => exact yC HR0 HB); (case side2 => exact HC0.out); rintro e w88 ⟨v207, rfl, ho0, hb⟩; refine ⟨_, rfl, ?_⟩; have HO208 := Aq.mk (Kd.R_lower (Kd.R_newB ho0 (sL BK205.out)) (bZ_ (sB HB.out))); replace BK205 := yb BK205 hb; replace HB := yB HB hb; try clear hb; (try clear ho0)))
  refine bodyPost_ret (results_list (rs := [.tmp 6, .tmp 7, .tmp 8, .tmp 9]) rfl (by simp) (.tmp (.tmp (.tmp (.tmp .nil))))) rfl ?_
  exact ⟨sE, sB HB.out⟩
end
section
attribute [local go_sem] max2_int min2_int max_two min_two max_three min_three max_four min_four
def laganref06_SameInts.l0 : Nat → List Int → List Int → Int → Option (Bool)
 | 0, _, _, _ => none
 | k + 1, x0, x1, x5 => if x5 < (x0.length : Int) then (if 0 ≤ x5 then (if x5 < (x1.length : Int) then (if (rd x0 x5) = (rd x1 x5) then (laganref06_SameInts.l0 k x0 x1 (wrap64 (x5 + 1))) else (some false)) else (none)) else (none)) else (some true)
def laganref06_SameInts.f (k : Nat) (l0 : List Int) (l1 : List Int) : Option (Bool) := if (l0.length : Int) = (l1.length : Int) then (laganref06_SameInts.l0 k l0 l1 0) else (some false)
set_option maxHeartbeats 8000000 in
set_option maxRecDepth 100000 in
theorem laganref06_SameInts.calls (k : Nat) (A0 : Option Addr) (c0 : Nat) (l0 : List Int) (A1 : Option Addr) (c1 : Nat) (l1 : List Int) (r : Bool) (w : World) (hr0 : Kd.C (Kd.int .i64) w A0 l0.length l0) (hc0 : l0.length ≤ c0) (hr1 : Kd.C (Kd.int .i64) w A1 l1.length l1) (hc1 : l1.length ≤ c1) (h : laganref06_SameInts.f k l0 l1 = some r) :
  Calls Tryz.prog 21 #[.slice A0 l0.length c0, .slice A1 l1.length c1] w fun e w' => e = .returned (.bool r) ∧ Drawn0 w w' := by
 have HR0 := Aq.mk hr0
 have HC0 := Aq.mk hc0
 clear hr0 hc0
 have HR1 := Aq.mk hr1
 have HC1 := Aq.mk hc1
 clear hr1 hc1
 have H : (if (l0.length : Int) = (l1.length : Int) then (laganref06_SameInts.l0 k l0 l1 0) else (some false)) = some r := h
 clear h
 replace H := oI H; rcases H with ⟨c3, H⟩ | ⟨c3, H⟩
 ·have c3b0 := bT c3
  have c3b1 := bN c3
  have c3b2 : (l0.length == l1.length) = true := by first | simpa using c3 | (simp at c3 ⊢; omega)
  clear c3
  have H' := Aq.mk H
  clear H
  go_enter Tryz.func21, Tryz.ntmps21
  go_wp2
  repeat (go_quiet (fail); try go_wp2)
  go_loopg [5] k (fun kq v5 w' => ∃ (x5_1 : Int), v5 = .int .i64 x5_1 ∧ Aq (laganref06_SameInts.l0 kq l0 l1 x5_1 = some r) ∧ Aq (kq ≤ k) ∧ Drawn0 w w')
  case atStart => exact ⟨(0), sS, H', ⟨Nat.le_refl _⟩, by repeat (first | exact Drawn0.refl _ | apply Drawn0.step)⟩
  case round =>
   clear H'
   try clear c1
   try clear c3
   try clear c3b0
   obtain ⟨x5_1, rfl, HA, HK1, ⟨m1, rfl⟩⟩ := hrel
   cases gk with
   | zero => exact absurd HA.out (by simp [laganref06_SameInts.l0])
   | succ k1 =>
    have H := HA.out
    clear HA
    simp only [laganref06_SameInts.l0] at H
    replace H := oI H; rcases H with ⟨c4, H⟩ | ⟨c4, H⟩
    ·have c4b0 := dT c4
     clear c4
     replace H := oI H; rcases H with ⟨c5, H⟩ | ⟨c5, H⟩
     ·have c5b0 := dT c5
      clear c5
      replace H := oI H; rcases H with ⟨c6, H⟩ | ⟨c6, H⟩
      ·have c6b0 := dT c6
       clear c6
       replace H := oI H; rcases H with ⟨c7, H⟩ | ⟨c7, H⟩
       ·have c7b0 := bT c7
        have c7b1 := bN c7
        clear c7
        have H' := Aq.mk H
        clear H
        have p318 : 0 ≤ (x5_1 : Int) := oA
        have q318 : x5_1 < (l0.length : Int) := oA
        obtain ⟨ad318, e318, hx318_0⟩ := Kd.at_int HR0.out x5_1 p318 q318
        cases e318
        replace p318 := eq_true p318
        replace q318 := eq_true q318
        have p319 : 0 ≤ (x5_1 : Int) := oA
        have q319 : x5_1 < (l1.length : Int) := oA
        obtain ⟨ad319, e319, hx319_0⟩ := Kd.at_int HR1.out x5_1 p319 q319
        cases e319
        replace p319 := eq_true p319
        replace q319 := eq_true q319
        go_wp2
        repeat (go_quiet (fail); try go_wp2)
        go_roundg k1
        case measure => have := HK1.out; omega
        case rel => exact ⟨(wrap64 (x5_1 + 1)), sS, H', ⟨by have := HK1.out; omega⟩, by repeat (first | exact Drawn0.refl _ | apply Drawn0.step)⟩
       ·have c7b0 := bF c7
        have c7b1 := bM c7
        obtain rfl := Option.some.inj H
        have p318 : 0 ≤ (x5_1 : Int) := oA
        have q318 : x5_1 < (l0.length : Int) := oA
        obtain ⟨ad318, e318, hx318_0⟩ := Kd.at_int HR0.out x5_1 p318 q318
        cases e318
        replace p318 := eq_true p318
        replace q318 := eq_true q318
        have p319 : 0 ≤ (x5_1 : Int) := oA
        have q319 : x5_1 < (l1.length : Int) := oA
        obtain ⟨ad319, e319, hx319_0⟩ := Kd.at_int HR1.out x5_1 p319 q319
        cases e319
        replace p319 := eq_true p319
        replace q319 := eq_true q319
        go_wp2
        repeat (go_quiet (fail); try go_wp2)
        go_ret
        exact ⟨by first | rfl | (simp; done) | (simp [*]; done), by repeat (first | exact Drawn0.refl _ | apply Drawn0.step)⟩
      ·exact absurd H (by simp)
     ·exact absurd H (by simp)
    ·have c4b0 := dF c4
     clear c4
     obtain rfl := Option.some.inj H
     go_wp2
     repeat (go_quiet (fail); try go_wp2)
     go_ret
     exact ⟨by first | rfl | (simp; done) | (simp [*]; done), by repeat (first | exact Drawn0.refl _ | apply Drawn0.step)⟩
 ·have c3b0 := bF c3
  have c3b1 := bM c3
  have c3b2 : (l0.length == l1.length) = false := by first | simpa using c3 | (simp at c3 ⊢; omega)
  obtain rfl := Option.some.inj H
  go_enter Tryz.func21, Tryz.ntmps21
  go_wp2
  repeat (go_quiet (fail); try go_wp2)
  go_ret
  exact ⟨by first | rfl | (simp; done) | (simp [*]; done), by repeat (first | exact Drawn0.refl _ | apply Drawn0.step)⟩
end
section
attribute [local go_sem] max2_int min2_int max_two min_two max_three min_three max_four min_four
def award_Turns.l0 : Nat → List (S26) → ByteArray → Int → Int → List Int → List Int → Int → Int → Option (List Int)
 | 0, _, _, _, _, _, _, _, _ => none
 | k + 1, x0, x1, x2, x9, x10, x23, x24, x25 => if x25 < x24 then (if 0 ≤ x25 then (if x25 < (x23.length : Int) then ((award_inForce.f x0 x1 (rd x23 x25) x2).bind fun bt326 => (if bt326.1 = x9 then (award_Turns.l0 k x0 x1 x2 bt326.1 x10 x23 x24 (wrap64 (x25 + 1))) else (if x10.length < 17592186044416 then (award_Turns.l0 k x0 x1 x2 bt326.1 (x10 ++ [rd x23 x25]) x23 x24 (wrap64 (x25 + 1))) else (none)))) else (none)) else (none)) else (some x10)
def award_Turns.f (k : Nat) (l0 : List (S26)) (a1 : ByteArray) (a2 : Int) : Option (List Int) := (award_CheckRates.f l0).bind fun bt320 => (if bt320.2 = 0 then ((award_starts.f l0).bind fun t322 => (award_Turns.l0 k l0 a1 a2 0 ([] : List Int) t322 (t322.length : Int) 0)) else (some ([] : List Int)))
set_option maxHeartbeats 8000000 in
set_option maxRecDepth 100000 in
theorem award_Turns.calls (k : Nat) (A0 : Option Addr) (c0 : Nat) (l0 : List (S26)) (a1 : ByteArray) (a2 : Int) (r : List Int) (w : World) (hr0 : Kd.C k26 w A0 l0.length l0) (hc0 : l0.length ≤ c0) (h : award_Turns.f k l0 a1 a2 = some r) :
  Calls Tryz.prog 22 #[.slice A0 l0.length c0, .string a1, .int .i64 a2] w fun e w' => ∃ v0_ : Value, e = .returned (v0_) ∧ Kd.R (Kd.int .i64) 3 w' w.heap.size (fun _ => True) v0_ r ∧ Below w.heap.size w w' := by
 have hu26 := Tryz.underlying26
 have HR0 := Aq.mk hr0
 have HC0 := Aq.mk hc0
 clear hr0 hc0
 have HB := Aq.mk (Below.refl w.heap.size w)
 have H : ((award_CheckRates.f l0).bind fun bt320 => (if bt320.2 = 0 then ((award_starts.f l0).bind fun t322 => (award_Turns.l0 k l0 a1 a2 0 ([] : List Int) t322 (t322.length : Int) 0)) else (some ([] : List Int)))) = some r := h
 clear h
 replace H := oB H; obtain ⟨⟨t320, t321⟩, A4, H⟩ := H
 dsimp only at H
 replace H := oI H; rcases H with ⟨c5, H⟩ | ⟨c5, H⟩
 ·have c5b0 := bT c5
  have c5b1 := bN c5
  clear c5
  replace H := oB H; obtain ⟨t322, A6, H⟩ := H
  have H' := Aq.mk H
  clear H
  go_enter Tryz.func22, Tryz.ntmps22
  go_wp2_with (first | ((with_reducible refine gD_ (N := 17) rfl ?_); refine gX 17 rfl #[.slice A0 l0.length c0] (award_CheckRates.calls _ _ l0 t320 t321 _ (sC HR0.out) HC0.out A4.out) ?_; intro w7 hb; replace HB := yB HB hb; try clear hb) | ((with_reducible refine gC_ (f := 58) rfl ?_); refine gL (some 23) #[.slice A0 l0.length c0] ?_; (with_reducible refine (award_starts.calls _ _ l0 t322 _ ?side1 ?side2 A6.out).mono ?_); (case side1 => exact yC HR0 HB); (case side2 => exact HC0.out); rintro e w8 ⟨v323, rfl, ho0, hb⟩; refine ⟨_, rfl, ?_⟩; have HO324 := Aq.mk (Kd.R_lower ho0 (bZ_ (sB HB.out))); replace HB := yB HB hb; try clear hb; (try clear ho0); obtain ⟨Ao9, co9, eo9⟩ := Kd.R_slice HO324.out; subst eo9))
  go_loopg [9, 10, 25] k (fun kq v9 v10 v25 w' => ∃ (x9_1 : Int) (x10_1 : List Int) (x25_1 : Int), v9 = .int .i64 x9_1 ∧ v25 = .int .i64 x25_1 ∧ Aq (award_Turns.l0 kq l0 a1 a2 x9_1 x10_1 t322 (t322.length : Int) x25_1 = some r) ∧ Aq (kq ≤ k) ∧ Aq (Kd.R (Kd.int .i64) 3 w' w.heap.size (fun k_ => some k_ ≠ ((.slice Ao9 t322.length co9) : Value).ownBlock) v10 x10_1) ∧ Aq (Kd.R (Kd.int .i64) 3 w' w.heap.size (fun k_ => some k_ ≠ (v10 : Value).ownBlock) (.slice Ao9 t322.length co9) t322) ∧ Aq (Below w.heap.size w w'))
  case atStart => exact ⟨(0), (([] : List Int)), (0), sS, sS, H', ⟨Nat.le_refl _⟩, ⟨by first | exact Kd.R_nil _ _ _ _ _ | exact Kd.N_nil _ _ _ _ _ | exact Kd.V_nil _ _ _ _ _ | exact Kd.Q_nil _ _ _ _ _ | exact Kd.S_nil _ _ _ _ _⟩, ⟨by refine wR ?_; exact Kd.R_mono HO324.out (fun _ hk => (by simp [Value.ownBlock]))⟩, ⟨sB HB.out⟩⟩
  case round =>
   clear H'
   try clear c5
   try clear c5b0
   obtain ⟨x9_1, x10_1, x25_1, rfl, rfl, HA, HK1, HO_10, HO_23, HB⟩ := hrel
   cases gk with
   | zero => exact absurd HA.out (by simp [award_Turns.l0])
   | succ k1 =>
    have H := HA.out
    clear HA
    simp only [award_Turns.l0] at H
    replace H := oI H; rcases H with ⟨c10, H⟩ | ⟨c10, H⟩
    ·have c10b0 := dT c10
     clear c10
     replace H := oI H; rcases H with ⟨c11, H⟩ | ⟨c11, H⟩
     ·have c11b0 := dT c11
      clear c11
      replace H := oI H; rcases H with ⟨c12, H⟩ | ⟨c12, H⟩
      ·have c12b0 := dT c12
       clear c12
       replace H := oB H; obtain ⟨⟨t326, t327, t328, t329, t330, t331, t332, t333, t334, t335⟩, A13, H⟩ := H
       dsimp only at H
       replace H := oI H; rcases H with ⟨c14, H⟩ | ⟨c14, H⟩
       ·have c14b0 := bT c14
        have c14b1 := bN c14
        clear c14
        have H' := Aq.mk H
        clear H
        have p325 : 0 ≤ (x25_1 : Int) := oA
        have q325 : x25_1 < (t322.length : Int) := oA
        obtain ⟨ad325, e325, hx325_0⟩ := Kd.at_int (Kd.R_reads' HO_23.out).2.2 x25_1 p325 q325
        cases e325
        replace p325 := eq_true p325
        replace q325 := eq_true q325
        go_wp2_with (first | ((with_reducible refine gD_ (N := 34) rfl ?_); refine gX 34 rfl #[.slice A0 l0.length c0, .string a1, .int .i64 (rd t322 x25_1), .int .i64 a2] (award_inForce.calls _ _ l0 a1 (rd t322 x25_1) a2 t326 t327 t328 t329 t330 t331 t332 t333 t334 t335 _ (yC HR0 HB) HC0.out A13.out) ?_; intro w15 hb; replace HO_10 := yR HO_10 hb; replace HO_23 := yR HO_23 hb; replace HB := yB HB hb; try clear hb) | ((with_reducible refine gD_ (N := 13) rfl ?_); refine bxE (N := 13) #[.int .i64 0, .int .i64 0, .int .i64 0, .string (⟨#[]⟩ : ByteArray), .int .i64 0, .int .i64 0, .int .i64 0, .int .i64 0, .int .i64 0] 26 ?_; intro gb336 hg w16 hbox hb; have BK336 := Aq.mk hbox; have GW336 := yS HB hg; have GE336 := yS HB hg; replace HO_10 := yR HO_10 hb; replace HO_23 := yR HO_23 hb; replace HB := yB HB hb; clear hb hbox hg; obtain ⟨hcz17_0, hcz17_1, hcz17_2, hcz17_3, hcz17_4, hcz17_5, hcz17_6, hcz17_7, hcz17_8, hfz17_0, hfz17_1, hfz17_2, hfz17_3, hfz17_4, hfz17_5, hfz17_6, hfz17_7, hfz17_8⟩ := cf9 BK336.out))
        go_roundg k1
        case measure => have := HK1.out; omega
        case rel => exact ⟨(t326), (x10_1), (wrap64 (x25_1 + 1)), sS, sS, H', ⟨by have := HK1.out; omega⟩, ⟨by refine wR ?_; exact Kd.R_mono (rf9 (Kd.R_types HO_10.out BK336.out (by decide))) (fun _ hk => hk.1)⟩, ⟨by refine wR ?_; exact Kd.R_mono (rf9 (Kd.R_types HO_23.out BK336.out (by decide))) (fun _ hk => hk.1)⟩, ⟨sB HB.out⟩⟩
       ·have c14b0 := bF c14
        have c14b1 := bM c14
        replace H := oI H; rcases H with ⟨c18, H⟩ | ⟨c18, H⟩
        ·have LMc18 := Aq.mk c18
         clear c18
         obtain ⟨y337, hy337⟩ : ∃ y_ : List Int, y_ = (x10_1 ++ [rd t322 x25_1]) := ⟨_, rfl⟩
         replace H : (award_Turns.l0 k1 l0 a1 a2 t326 y337 t322 (t322.length : Int) (wrap64 (x25_1 + 1))) = some r := by first | (rw [hy337]; with_reducible exact H) | (have H2_ := (Option.bind_some _ _).symm.trans H; rw [hy337]; with_reducible exact H2_) | (have H2_ := (Option.bind_some _ _).symm.trans H; with_reducible exact H2_) | with_reducible exact H | (rw [hy337]; exact H) | exact H
         have Ny337 := Aq.mk hy337
         clear hy337
         have H' := Aq.mk H
         clear H
         have p325 : 0 ≤ (x25_1 : Int) := oA
         have q325 : x25_1 < (t322.length : Int) := oA
         obtain ⟨ad325, e325, hx325_0⟩ := Kd.at_int (Kd.R_reads' HO_23.out).2.2 x25_1 p325 q325
         cases e325
         replace p325 := eq_true p325
         replace q325 := eq_true q325
         go_wp2_with (first | ((with_reducible refine gD_ (N := 34) rfl ?_); refine gX 34 rfl #[.slice A0 l0.length c0, .string a1, .int .i64 (rd t322 x25_1), .int .i64 a2] (award_inForce.calls _ _ l0 a1 (rd t322 x25_1) a2 t326 t327 t328 t329 t330 t331 t332 t333 t334 t335 _ (yC HR0 HB) HC0.out A13.out) ?_; intro w19 hb; replace HO_10 := yR HO_10 hb; replace HO_23 := yR HO_23 hb; replace HB := yB HB hb; try clear hb) | ((with_reducible refine gD_ (N := 13) rfl ?_); refine bxE (N := 13) #[.int .i64 0, .int .i64 0, .int .i64 0, .string (⟨#[]⟩ : ByteArray), .int .i64 0, .int .i64 0, .int .i64 0, .int .i64 0, .int .i64 0] 26 ?_; intro gb336 hg w20 hbox hb; have BK336 := Aq.mk hbox; have GW336 := yS HB hg; have GE336 := yS HB hg; replace HO_10 := yR HO_10 hb; replace HO_23 := yR HO_23 hb; replace HB := yB HB hb; clear hb hbox hg; obtain ⟨hcz21_0, hcz21_1, hcz21_2, hcz21_3, hcz21_4, hcz21_5, hcz21_6, hcz21_7, hcz21_8, hfz21_0, hfz21_1, hfz21_2, hfz21_3, hfz21_4, hfz21_5, hfz21_6, hfz21_7, hfz21_8⟩ := cf9 BK336.out) | ((with_reducible refine gate_builtin (b := .append) (xs := #[.tmp 41, .tmp 43]) rfl ?_); at_builtin; refine Kd.R_append (Kd.int .i64) (w0 := w) w.heap.size rfl (.tmp 41) (.tmp 43) 35 3 (.int .i64 0) 8 rfl Tryz.underlying35 info3 rfl (by decide) (by omega) u10 x10_1 (rd t322 x25_1) [.int .i64 (rd t322 x25_1)] (fun k_ => some k_ ≠ (.slice (some ad325) t322.length co9 : Value).ownBlock) (fun _ => False) rfl (by first | (go_simp; done) | (go_simp; rfl)) ?aP (fun _ hk => hk.elim) ?aF ?aO ?aB ?aS ?aL ?_; (case aP => exact rfl); (case aB => exact (sB HB.out)); (case aF => exact (fun k_ hk => Kd.fresh' (Kd.R_lt (by refine wR ?_; exact (Kd.R_mono (rf9 (Kd.R_types HO_23.out BK336.out (by decide))) (fun _ h_ => h_.1)))) k_ hk)); (case aO => exact (by refine wR ?_; exact Kd.R_mono (rf9 (Kd.R_types HO_10.out BK336.out (by decide))) (fun _ hk => hk.1))); (case aS => exact (bZ_ (sB HB.out))); (case aL => have := LMc18.out; omega); intro v338 w22 ho hb hg hat; rw [← Ny337.out] at ho; have HO339 := Aq.mk ho; replace HO_23 := Aq.mk (Kd.R_after (ok := (fun _ => True)) (by refine wR ?_; exact Kd.R_mono (rf9 (Kd.R_types HO_23.out BK336.out (by decide))) (fun _ hk => ⟨trivial, hk.1⟩)) hg hat); replace BK336 := Aq.mk (blk_grown (g := gb336) (o := .cells #[.int .i64 t326, .int .i64 t327, .int .i64 t328, .string t329, .int .i64 t330, .int .i64 t331, .int .i64 t332, .int .i64 t333, .int .i64 t334] 26 (0, 0)) (by refine wB ?_; refine pt9 (u0 := .int .i64 0) (u1 := .int .i64 0) (u2 := .int .i64 0) (u3 := .string (⟨#[]⟩ : ByteArray)) (u4 := .int .i64 0) (u5 := .int .i64 0) (u6 := .int .i64 0) (u7 := .int .i64 0) (u8 := .int .i64 0) ?_; refine wB ?_; exact BK336.out) hg (Kd.R_ne HO_10.out BK336.out (by decide))); replace HB := Aq.mk hb; clear HO_10; clear ho hb hg hat; obtain ⟨hcz23_0, hcz23_1, hcz23_2, hcz23_3, hcz23_4, hcz23_5, hcz23_6, hcz23_7, hcz23_8, hfz23_0, hfz23_1, hfz23_2, hfz23_3, hfz23_4, hfz23_5, hfz23_6, hfz23_7, hfz23_8⟩ := cf9 BK336.out))
         go_roundg k1
         case measure => have := HK1.out; omega
         case rel => exact ⟨(t326), (y337), (wrap64 (x25_1 + 1)), sS, sS, H', ⟨by have := HK1.out; omega⟩, ⟨sR HO339.out⟩, ⟨by refine wR ?_; exact Kd.R_mono HO_23.out (fun _ hk => hk.2)⟩, ⟨sB HB.out⟩⟩
        ·exact absurd H (by simp)
      ·exact absurd H (by simp)
     ·exact absurd H (by simp)
    ·have c10b0 := dF c10
     clear c10
     obtain rfl := Option.some.inj H
     go_wp2
     go_ret
     exact ⟨_, sE, by refine wR ?_; exact Kd.R_mono HO_10.out (fun _ hk => trivial), sB HB.out⟩
 ·have c5b0 := bF c5
  have c5b1 := bM c5
  obtain rfl := Option.some.inj H
  go_enter Tryz.func22, Tryz.ntmps22
  go_wp2_with (first | ((with_reducible refine gD_ (N := 17) rfl ?_); refine gX 17 rfl #[.slice A0 l0.length c0] (award_CheckRates.calls _ _ l0 t320 t321 _ (sC HR0.out) HC0.out A4.out) ?_; intro w24 hb; replace HB := yB HB hb; try clear hb))
  go_ret
  exact ⟨_, sE, by first | exact Kd.R_nil _ _ _ _ _ | exact Kd.N_nil _ _ _ _ _ | exact Kd.V_nil _ _ _ _ _ | exact Kd.Q_nil _ _ _ _ _ | exact Kd.S_nil _ _ _ _ _, sB HB.out⟩
end
section
attribute [local go_sem] max2_int min2_int max_two min_two max_three min_three max_four min_four
theorem eqA69 (d : Nat) (w : World) (x0 y0 : Int) (x1 y1 : Int) :
  (Op.equalIn (d + 2) 69 (.agg #[.int .i64 x0, .int .i64 x1]) (.agg #[.int .i64 y0, .int .i64 y1])).run Tryz.prog w = .ok (x0 == y0 && (x1 == y1)) w := by
 refine eqA_of Tryz.underlying69 (by kernel_rfl) ?_
 refine eqf_cons (by rfl) (by go_simp; rfl) (by go_simp; rfl) (by go_simp) ?_
 exact eqf_last (by rfl) (by go_simp; rfl) (by go_simp; rfl) (by go_simp)
end
section
attribute [local go_sem] max2_int min2_int max_two min_two max_three min_three max_four min_four
attribute [local go_sem high] eqA69
def laganref06_SameShares.l0 : Nat → List (S69) → List (S69) → Int → Option (Bool)
 | 0, _, _, _ => none
 | k + 1, x0, x1, x5 => if x5 < (x0.length : Int) then (if 0 ≤ x5 then (if x5 < (x1.length : Int) then (if (!(((rd_T69 x0 x5).f0) == ((rd_T69 x1 x5).f0)) || (!(((rd_T69 x0 x5).f1) == ((rd_T69 x1 x5).f1)))) = true then (some false) else (laganref06_SameShares.l0 k x0 x1 (wrap64 (x5 + 1)))) else (none)) else (none)) else (some true)
def laganref06_SameShares.f (k : Nat) (l0 : List (S69)) (l1 : List (S69)) : Option (Bool) := if (l0.length : Int) = (l1.length : Int) then (laganref06_SameShares.l0 k l0 l1 0) else (some false)
set_option maxHeartbeats 8000000 in
set_option maxRecDepth 100000 in
theorem laganref06_SameShares.calls (k : Nat) (A0 : Option Addr) (c0 : Nat) (l0 : List (S69)) (A1 : Option Addr) (c1 : Nat) (l1 : List (S69)) (r : Bool) (w : World) (hr0 : Kd.C k69 w A0 l0.length l0) (hc0 : l0.length ≤ c0) (hr1 : Kd.C k69 w A1 l1.length l1) (hc1 : l1.length ≤ c1) (h : laganref06_SameShares.f k l0 l1 = some r) :
  Calls Tryz.prog 30 #[.slice A0 l0.length c0, .slice A1 l1.length c1] w fun e w' => e = .returned (.bool r) ∧ Drawn0 w w' := by
 have hu69 := Tryz.underlying69
 have HR0 := Aq.mk hr0
 have HC0 := Aq.mk hc0
 clear hr0 hc0
 have HR1 := Aq.mk hr1
 have HC1 := Aq.mk hc1
 clear hr1 hc1
 have H : (if (l0.length : Int) = (l1.length : Int) then (laganref06_SameShares.l0 k l0 l1 0) else (some false)) = some r := h
 clear h
 replace H := oI H; rcases H with ⟨c3, H⟩ | ⟨c3, H⟩
 ·have c3b0 := bT c3
  have c3b1 := bN c3
  have c3b2 : (l0.length == l1.length) = true := by first | simpa using c3 | (simp at c3 ⊢; omega)
  clear c3
  have H' := Aq.mk H
  clear H
  go_enter Tryz.func30, Tryz.ntmps30
  go_wp2
  repeat (go_quiet (fail); try go_wp2)
  go_loopg [5] k (fun kq v5 w' => ∃ (x5_1 : Int), v5 = .int .i64 x5_1 ∧ Aq (laganref06_SameShares.l0 kq l0 l1 x5_1 = some r) ∧ Aq (kq ≤ k) ∧ Drawn0 w w')
  case atStart => exact ⟨(0), sS, H', ⟨Nat.le_refl _⟩, by repeat (first | exact Drawn0.refl _ | apply Drawn0.step)⟩
  case round =>
   clear H'
   try clear c1
   try clear c3
   try clear c3b0
   obtain ⟨x5_1, rfl, HA, HK1, ⟨m1, rfl⟩⟩ := hrel
   cases gk with
   | zero => exact absurd HA.out (by simp [laganref06_SameShares.l0])
   | succ k1 =>
    have H := HA.out
    clear HA
    simp only [laganref06_SameShares.l0] at H
    replace H := oI H; rcases H with ⟨c4, H⟩ | ⟨c4, H⟩
    ·have c4b0 := dT c4
     clear c4
     replace H := oI H; rcases H with ⟨c5, H⟩ | ⟨c5, H⟩
     ·have c5b0 := dT c5
      clear c5
      replace H := oI H; rcases H with ⟨c6, H⟩ | ⟨c6, H⟩
      ·have c6b0 := dT c6
       clear c6
       replace H := oI H; rcases H with ⟨c7, H⟩ | ⟨c7, H⟩
       ·have c7b0 : (!(((rd_T69 l0 x5_1).f0) == ((rd_T69 l1 x5_1).f0)) || (!(((rd_T69 l0 x5_1).f1) == ((rd_T69 l1 x5_1).f1)))) = true := c7
        clear c7
        obtain rfl := Option.some.inj H
        have p517 : 0 ≤ (x5_1 : Int) := oA
        have q517 : x5_1 < (l0.length : Int) := oA
        obtain ⟨ad517, e517, hx517_0, hx517_1⟩ := at_T69 HR0.out x5_1 p517 q517
        cases e517
        replace p517 := eq_true p517
        replace q517 := eq_true q517
        have p518 : 0 ≤ (x5_1 : Int) := oA
        have q518 : x5_1 < (l1.length : Int) := oA
        obtain ⟨ad518, e518, hx518_0, hx518_1⟩ := at_T69 HR1.out x5_1 p518 q518
        cases e518
        replace p518 := eq_true p518
        replace q518 := eq_true q518
        go_wp2
        repeat (go_quiet (fail); try go_wp2)
        go_ret
        exact ⟨by first | rfl | (simp; done) | (simp [*]; done), by repeat (first | exact Drawn0.refl _ | apply Drawn0.step)⟩
       ·have c7b0 : (!(((rd_T69 l0 x5_1).f0) == ((rd_T69 l1 x5_1).f0)) || (!(((rd_T69 l0 x5_1).f1) == ((rd_T69 l1 x5_1).f1)))) = false := by simpa using c7
        clear c7
        have H' := Aq.mk H
        clear H
        have p517 : 0 ≤ (x5_1 : Int) := oA
        have q517 : x5_1 < (l0.length : Int) := oA
        obtain ⟨ad517, e517, hx517_0, hx517_1⟩ := at_T69 HR0.out x5_1 p517 q517
        cases e517
        replace p517 := eq_true p517
        replace q517 := eq_true q517
        have p518 : 0 ≤ (x5_1 : Int) := oA
        have q518 : x5_1 < (l1.length : Int) := oA
        obtain ⟨ad518, e518, hx518_0, hx518_1⟩ := at_T69 HR1.out x5_1 p518 q518
        cases e518
        replace p518 := eq_true p518
        replace q518 := eq_true q518
        go_wp2
        repeat (go_quiet (fail); try go_wp2)
        go_roundg k1
        case measure => have := HK1.out; omega
        case rel => exact ⟨(wrap64 (x5_1 + 1)), sS, H', ⟨by have := HK1.out; omega⟩, by repeat (first | exact Drawn0.refl _ | apply Drawn0.step)⟩
      ·exact absurd H (by simp)
     ·exact absurd H (by simp)
    ·have c4b0 := dF c4
     clear c4
     obtain rfl := Option.some.inj H
     go_wp2
     repeat (go_quiet (fail); try go_wp2)
     go_ret
     exact ⟨by first | rfl | (simp; done) | (simp [*]; done), by repeat (first | exact Drawn0.refl _ | apply Drawn0.step)⟩
 ·have c3b0 := bF c3
  have c3b1 := bM c3
  have c3b2 : (l0.length == l1.length) = false := by first | simpa using c3 | (simp at c3 ⊢; omega)
  obtain rfl := Option.some.inj H
  go_enter Tryz.func30, Tryz.ntmps30
  go_wp2
  repeat (go_quiet (fail); try go_wp2)
  go_ret
  exact ⟨by first | rfl | (simp; done) | (simp [*]; done), by repeat (first | exact Drawn0.refl _ | apply Drawn0.step)⟩
end
section
attribute [local go_sem] max2_int min2_int max_two min_two max_three min_three max_four min_four
def award_SaleOf.f (l0 : List (S39)) (a1 : Int) (a2 : Int) : Option (Int × Int × Int × Int × Int × Int × Int × Int × Int × Int) := (award_CheckSales.f l0).bind fun bt639 => (if bt639.2 = 0 then ((award_sold.f l0 a1 a2).bind fun bt641 => (if bt641.2.2.2.2.2.2.2.2.2 = true then (some (bt641.1, bt641.2.1, bt641.2.2.1, bt641.2.2.2.1, bt641.2.2.2.2.1, bt641.2.2.2.2.2.1, bt641.2.2.2.2.2.2.1, bt641.2.2.2.2.2.2.2.1, bt641.2.2.2.2.2.2.2.2.1, 0)) else (some (0, 0, 0, 0, 0, 0, 0, 0, 0, 61)))) else (some (0, 0, 0, 0, 0, 0, 0, 0, 0, bt639.2)))
set_option maxHeartbeats 8000000 in
set_option maxRecDepth 100000 in
theorem award_SaleOf.calls (A0 : Option Addr) (c0 : Nat) (l0 : List (S39)) (a1 : Int) (a2 : Int) (r1 : Int) (r2 : Int) (r3 : Int) (r4 : Int) (r5 : Int) (r6 : Int) (r7 : Int) (r8 : Int) (r9 : Int) (r10 : Int) (w : World) (hr0 : Kd.C k39 w A0 l0.length l0) (hc0 : l0.length ≤ c0) (h : award_SaleOf.f l0 a1 a2 = some (r1, r2, r3, r4, r5, r6, r7, r8, r9, r10)) :
  Calls Tryz.prog 47 #[.slice A0 l0.length c0, .int .i64 a1, .int .i64 a2] w fun e w' => e = .returned (.tuple #[.agg #[.int .i64 r1, .int .i64 r2, .int .i64 r3, .int .i64 r4, .int .i64 r5, .int .i64 r6, .int .i64 r7, .int .i64 r8, .int .i64 r9], .int .i64 r10]) ∧ Below w.heap.size w w' := by
 have hu39 := Tryz.underlying39
 have HR0 := Aq.mk hr0
 have HC0 := Aq.mk hc0
 clear hr0 hc0
 have HB := Aq.mk (Below.refl w.heap.size w)
 have H : ((award_CheckSales.f l0).bind fun bt639 => (if bt639.2 = 0 then ((award_sold.f l0 a1 a2).bind fun bt641 => (if bt641.2.2.2.2.2.2.2.2.2 = true then (some (bt641.1, bt641.2.1, bt641.2.2.1, bt641.2.2.2.1, bt641.2.2.2.2.1, bt641.2.2.2.2.2.1, bt641.2.2.2.2.2.2.1, bt641.2.2.2.2.2.2.2.1, bt641.2.2.2.2.2.2.2.2.1, 0)) else (some (0, 0, 0, 0, 0, 0, 0, 0, 0, 61)))) else (some (0, 0, 0, 0, 0, 0, 0, 0, 0, bt639.2)))) = some (r1, r2, r3, r4, r5, r6, r7, r8, r9, r10) := h
 clear h
 replace H := oB H; obtain ⟨⟨t639, t640⟩, A4, H⟩ := H
 dsimp only at H
 replace H := oI H; rcases H with ⟨c5, H⟩ | ⟨c5, H⟩
 ·have c5b0 := bT c5
  have c5b1 := bN c5
  clear c5
  replace H := oB H; obtain ⟨⟨t641, t642, t643, t644, t645, t646, t647, t648, t649, t650⟩, A6, H⟩ := H
  dsimp only at H
  replace H := oT H; rcases H with ⟨rfl, H⟩ | ⟨rfl, H⟩
  ·simp only [Option.some.injEq, Prod.mk.injEq] at H
   obtain ⟨rfl, rfl, rfl, rfl, rfl, rfl, rfl, rfl, rfl, rfl⟩ := H
   go_enter Tryz.func47, Tryz.ntmps47
   go_wp2_with (first | ((with_reducible refine gD_ (N := 6) rfl ?_); refine bxE (N := 6) #[.int .i64 0, .int .i64 0, .int .i64 0, .int .i64 0, .int .i64 0, .int .i64 0, .int .i64 0, .int .i64 0, .int .i64 0] 39 ?_; intro gb638 hg w8 hbox hb; have BK638 := Aq.mk hbox; have GW638 := yS HB hg; have GE638 := yS HB hg; replace HB := yB HB hb; clear hb hbox hg) | ((with_reducible refine gD_ (N := 14) rfl ?_); refine gX 14 rfl #[.slice A0 l0.length c0] (award_CheckSales.calls _ _ l0 t639 t640 _ (yC HR0 HB) HC0.out A4.out) ?_; intro w9 hb; replace BK638 := yb BK638 hb; replace HB := yB HB hb; try clear hb) | ((with_reducible refine gD_ (N := 25) rfl ?_); refine gX 25 rfl #[.slice A0 l0.length c0, .int .i64 a1, .int .i64 a2] (award_sold.calls _ _ l0 a1 a2 t641 t642 t643 t644 t645 t646 t647 t648 t649 true _ (yC HR0 HB) HC0.out A6.out) ?_; intro w10 hb; replace BK638 := yb BK638 hb; replace HB := yB HB hb; try clear hb) | ((with_reducible refine gD_ (N := 10) rfl ?_); refine bxE (N := 10) #[.int .i64 0, .int .i64 0, .int .i64 0, .int .i64 0, .int .i64 0, .int .i64 0, .int .i64 0, .int .i64 0, .int .i64 0] 39 ?_; intro gb651 hg w11 hbox hb; have BK651 := Aq.mk hbox; have GW651 := yS HB hg; have GE651 := yS HB hg; have NB638_651 := yN BK638 hg; have NB651_638 := yM BK638 hg; replace BK638 := yb BK638 hb; replace HB := yB HB hb; clear hb hbox hg; have hnb12 := NB651_638.out; have hnc12 := NB638_651.out; obtain ⟨hcz13_0, hcz13_1, hcz13_2, hcz13_3, hcz13_4, hcz13_5, hcz13_6, hcz13_7, hcz13_8, hfz13_0, hfz13_1, hfz13_2, hfz13_3, hfz13_4, hfz13_5, hfz13_6, hfz13_7, hfz13_8⟩ := cf9 BK651.out; obtain ⟨hcz14_0, hcz14_1, hcz14_2, hcz14_3, hcz14_4, hcz14_5, hcz14_6, hcz14_7, hcz14_8, hfz14_0, hfz14_1, hfz14_2, hfz14_3, hfz14_4, hfz14_5, hfz14_6, hfz14_7, hfz14_8⟩ := cf9 BK638.out))
   refine bodyPost_ret (results_ct rfl _ _ gb638 39 #[.int .i64 t641, .int .i64 t642, .int .i64 t643, .int .i64 t644, .int .i64 t645, .int .i64 t646, .int .i64 t647, .int .i64 t648, .int .i64 t649] (0, 0) _ rfl (by refine wB ?_; refine pt9 (u0 := .int .i64 0) (u1 := .int .i64 0) (u2 := .int .i64 0) (u3 := .int .i64 0) (u4 := .int .i64 0) (u5 := .int .i64 0) (u6 := .int .i64 0) (u7 := .int .i64 0) (u8 := .int .i64 0) ?_; refine wB ?_; (repeat refine bF_ ?_ NB638_651.out _); refine wB ?_; exact BK638.out) Tryz.underlying39 rfl (by kernel_rfl)) rfl ?_
   exact ⟨sE, sB HB.out⟩
  ·simp only [Option.some.injEq, Prod.mk.injEq] at H
   obtain ⟨rfl, rfl, rfl, rfl, rfl, rfl, rfl, rfl, rfl, rfl⟩ := H
   go_enter Tryz.func47, Tryz.ntmps47
   go_wp2_with (first | ((with_reducible refine gD_ (N := 6) rfl ?_); refine bxE (N := 6) #[.int .i64 0, .int .i64 0, .int .i64 0, .int .i64 0, .int .i64 0, .int .i64 0, .int .i64 0, .int .i64 0, .int .i64 0] 39 ?_; intro gb638 hg w15 hbox hb; have BK638 := Aq.mk hbox; have GW638 := yS HB hg; have GE638 := yS HB hg; replace HB := yB HB hb; clear hb hbox hg) | ((with_reducible refine gD_ (N := 14) rfl ?_); refine gX 14 rfl #[.slice A0 l0.length c0] (award_CheckSales.calls _ _ l0 t639 t640 _ (yC HR0 HB) HC0.out A4.out) ?_; intro w16 hb; replace BK638 := yb BK638 hb; replace HB := yB HB hb; try clear hb) | ((with_reducible refine gD_ (N := 25) rfl ?_); refine gX 25 rfl #[.slice A0 l0.length c0, .int .i64 a1, .int .i64 a2] (award_sold.calls _ _ l0 a1 a2 t641 t642 t643 t644 t645 t646 t647 t648 t649 false _ (yC HR0 HB) HC0.out A6.out) ?_; intro w17 hb; replace BK638 := yb BK638 hb; replace HB := yB HB hb; try clear hb) | ((with_reducible refine gD_ (N := 10) rfl ?_); refine bxE (N := 10) #[.int .i64 0, .int .i64 0, .int .i64 0, .int .i64 0, .int .i64 0, .int .i64 0, .int .i64 0, .int .i64 0, .int .i64 0] 39 ?_; intro gb651 hg w18 hbox hb; have BK651 := Aq.mk hbox; have GW651 := yS HB hg; have GE651 := yS HB hg; have NB638_651 := yN BK638 hg; have NB651_638 := yM BK638 hg; replace BK638 := yb BK638 hb; replace HB := yB HB hb; clear hb hbox hg; have hnb19 := NB651_638.out; have hnc19 := NB638_651.out; obtain ⟨hcz20_0, hcz20_1, hcz20_2, hcz20_3, hcz20_4, hcz20_5, hcz20_6, hcz20_7, hcz20_8, hfz20_0, hfz20_1, hfz20_2, hfz20_3, hfz20_4, hfz20_5, hfz20_6, hfz20_7, hfz20_8⟩ := cf9 BK651.out; obtain ⟨hcz21_0, hcz21_1, hcz21_2, hcz21_3, hcz21_4, hcz21_5, hcz21_6, hcz21_7, hcz21_8, hfz21_0, hfz21_1, hfz21_2, hfz21_3, hfz21_4, hfz21_5, hfz21_6, hfz21_7, hfz21_8⟩ := cf9 BK638.out))
   refine bodyPost_ret (results_ct rfl _ _ gb638 39 #[.int .i64 0, .int .i64 0, .int .i64 0, .int .i64 0, .int .i64 0, .int .i64 0, .int .i64 0, .int .i64 0, .int .i64 0] (0, 0) _ rfl (by refine wB ?_; refine pt9 (u0 := .int .i64 0) (u1 := .int .i64 0) (u2 := .int .i64 0) (u3 := .int .i64 0) (u4 := .int .i64 0) (u5 := .int .i64 0) (u6 := .int .i64 0) (u7 := .int .i64 0) (u8 := .int .i64 0) ?_; refine wB ?_; (repeat refine bF_ ?_ NB638_651.out _); refine wB ?_; exact BK638.out) Tryz.underlying39 rfl (by kernel_rfl)) rfl ?_
   exact ⟨sE, sB HB.out⟩
 ·have c5b0 := bF c5
  have c5b1 := bM c5
  simp only [Option.some.injEq, Prod.mk.injEq] at H
  obtain ⟨rfl, rfl, rfl, rfl, rfl, rfl, rfl, rfl, rfl, rfl⟩ := H
  go_enter Tryz.func47, Tryz.ntmps47
  go_wp2_with (first | ((with_reducible refine gD_ (N := 6) rfl ?_); refine bxE (N := 6) #[.int .i64 0, .int .i64 0, .int .i64 0, .int .i64 0, .int .i64 0, .int .i64 0, .int .i64 0, .int .i64 0, .int .i64 0] 39 ?_; intro gb638 hg w22 hbox hb; have BK638 := Aq.mk hbox; have GW638 := yS HB hg; have GE638 := yS HB hg; replace HB := yB HB hb; clear hb hbox hg) | ((with_reducible refine gD_ (N := 14) rfl ?_); refine gX 14 rfl #[.slice A0 l0.length c0] (award_CheckSales.calls _ _ l0 t639 t640 _ (yC HR0 HB) HC0.out A4.out) ?_; intro w23 hb; replace BK638 := yb BK638 hb; replace HB := yB HB hb; try clear hb; obtain ⟨hcz24_0, hcz24_1, hcz24_2, hcz24_3, hcz24_4, hcz24_5, hcz24_6, hcz24_7, hcz24_8, hfz24_0, hfz24_1, hfz24_2, hfz24_3, hfz24_4, hfz24_5, hfz24_6, hfz24_7, hfz24_8⟩ := cf9 BK638.out))
  refine bodyPost_ret (results_ct rfl _ _ gb638 39 #[.int .i64 0, .int .i64 0, .int .i64 0, .int .i64 0, .int .i64 0, .int .i64 0, .int .i64 0, .int .i64 0, .int .i64 0] (0, 0) _ rfl (by refine wB ?_; refine pt9 (u0 := .int .i64 0) (u1 := .int .i64 0) (u2 := .int .i64 0) (u3 := .int .i64 0) (u4 := .int .i64 0) (u5 := .int .i64 0) (u6 := .int .i64 0) (u7 := .int .i64 0) (u8 := .int .i64 0) ?_; refine wB ?_; exact BK638.out) Tryz.underlying39 rfl (by kernel_rfl)) rfl ?_
  exact ⟨sE, sB HB.out⟩
end
section
attribute [local go_sem] max2_int min2_int max_two min_two max_three min_three max_four min_four
def award_AwardOf.f (l0 : List (S26)) (l1 : List (S39)) (a2 : Int) (a3 : ByteArray) (a4 : Int) (a5 : Int) (l6 : List Int) : Option (Int × Int × Int × Int × Int × (List (S69)) × Int) := (award_CheckRates.f l0).bind fun bt653 => (if bt653.2 = 0 then ((award_SaleOf.f l1 a2 a5).bind fun bt655 => (if bt655.2.2.2.2.2.2.2.2.2 = 0 then ((award_RateOf.f l0 a3 a4 a5).bind fun bt666 => (if bt666.2.2.2.2.2.2.2.2.2 = 0 then ((award_Awarded.f bt666.1 bt666.2.1 bt666.2.2.1 bt666.2.2.2.1 bt666.2.2.2.2.1 bt666.2.2.2.2.2.1 bt666.2.2.2.2.2.2.1 bt666.2.2.2.2.2.2.2.1 bt666.2.2.2.2.2.2.2.2.1 bt655.1 bt655.2.1 bt655.2.2.1 bt655.2.2.2.1 bt655.2.2.2.2.1 bt655.2.2.2.2.2.1 bt655.2.2.2.2.2.2.1 bt655.2.2.2.2.2.2.2.1 bt655.2.2.2.2.2.2.2.2.1 l6).bind fun bt677 => (some (bt677.1, bt677.2.1, bt677.2.2.1, bt677.2.2.2.1, bt677.2.2.2.2.1, bt677.2.2.2.2.2.1, bt677.2.2.2.2.2.2))) else (some (0, 0, 0, 0, 0, ([] : List (S69)), bt666.2.2.2.2.2.2.2.2.2)))) else (some (0, 0, 0, 0, 0, ([] : List (S69)), bt655.2.2.2.2.2.2.2.2.2)))) else (some (0, 0, 0, 0, 0, ([] : List (S69)), bt653.2)))
set_option maxHeartbeats 8000000 in
set_option maxRecDepth 100000 in
theorem award_AwardOf.calls (A0 : Option Addr) (c0 : Nat) (l0 : List (S26)) (A1 : Option Addr) (c1 : Nat) (l1 : List (S39)) (a2 : Int) (a3 : ByteArray) (a4 : Int) (a5 : Int) (A6 : Option Addr) (c6 : Nat) (l6 : List Int) (r1 : Int) (r2 : Int) (r3 : Int) (r4 : Int) (r5 : Int) (r6 : List (S69)) (r7 : Int) (w : World) (hr0 : Kd.C k26 w A0 l0.length l0) (hc0 : l0.length ≤ c0) (hr1 : Kd.C k39 w A1 l1.length l1) (hc1 : l1.length ≤ c1) (hr6 : Kd.C (Kd.int .i64) w A6 l6.length l6) (hc6 : l6.length ≤ c6) (h : award_AwardOf.f l0 l1 a2 a3 a4 a5 l6 = some (r1, r2, r3, r4, r5, r6, r7)) :
  Calls Tryz.prog 34 #[.slice A0 l0.length c0, .slice A1 l1.length c1, .int .i64 a2, .string a3, .int .i64 a4, .int .i64 a5, .slice A6 l6.length c6] w fun e w' => ∃ v5_ : Value, e = .returned (.tuple #[.agg #[.int .i64 r1, .int .i64 r2, .int .i64 r3, .int .i64 r4, .int .i64 r5, v5_], .int .i64 r7]) ∧ Kd.R k69 69 w' w.heap.size (fun _ => True) v5_ r6 ∧ Below w.heap.size w w' := by
 have hu59 := Tryz.underlying59
 have hu39 := Tryz.underlying39
 have hu26 := Tryz.underlying26
 have HR0 := Aq.mk hr0
 have HC0 := Aq.mk hc0
 clear hr0 hc0
 have HR1 := Aq.mk hr1
 have HC1 := Aq.mk hc1
 clear hr1 hc1
 have HR6 := Aq.mk hr6
 have HC6 := Aq.mk hc6
 clear hr6 hc6
 have HB := Aq.mk (Below.refl w.heap.size w)
 have H : ((award_CheckRates.f l0).bind fun bt653 => (if bt653.2 = 0 then ((award_SaleOf.f l1 a2 a5).bind fun bt655 => (if bt655.2.2.2.2.2.2.2.2.2 = 0 then ((award_RateOf.f l0 a3 a4 a5).bind fun bt666 => (if bt666.2.2.2.2.2.2.2.2.2 = 0 then ((award_Awarded.f bt666.1 bt666.2.1 bt666.2.2.1 bt666.2.2.2.1 bt666.2.2.2.2.1 bt666.2.2.2.2.2.1 bt666.2.2.2.2.2.2.1 bt666.2.2.2.2.2.2.2.1 bt666.2.2.2.2.2.2.2.2.1 bt655.1 bt655.2.1 bt655.2.2.1 bt655.2.2.2.1 bt655.2.2.2.2.1 bt655.2.2.2.2.2.1 bt655.2.2.2.2.2.2.1 bt655.2.2.2.2.2.2.2.1 bt655.2.2.2.2.2.2.2.2.1 l6).bind fun bt677 => (some (bt677.1, bt677.2.1, bt677.2.2.1, bt677.2.2.2.1, bt677.2.2.2.2.1, bt677.2.2.2.2.2.1, bt677.2.2.2.2.2.2))) else (some (0, 0, 0, 0, 0, ([] : List (S69)), bt666.2.2.2.2.2.2.2.2.2)))) else (some (0, 0, 0, 0, 0, ([] : List (S69)), bt655.2.2.2.2.2.2.2.2.2)))) else (some (0, 0, 0, 0, 0, ([] : List (S69)), bt653.2)))) = some (r1, r2, r3, r4, r5, r6, r7) := h
 clear h
 replace H := oB H; obtain ⟨⟨t653, t654⟩, A8, H⟩ := H
 dsimp only at H
 replace H := oI H; rcases H with ⟨c9, H⟩ | ⟨c9, H⟩
 ·have c9b0 := bT c9
  have c9b1 := bN c9
  clear c9
  replace H := oB H; obtain ⟨⟨t655, t656, t657, t658, t659, t660, t661, t662, t663, t664⟩, A10, H⟩ := H
  dsimp only at H
  replace H := oI H; rcases H with ⟨c11, H⟩ | ⟨c11, H⟩
  ·have c11b0 := bT c11
   have c11b1 := bN c11
   clear c11
   replace H := oB H; obtain ⟨⟨t666, t667, t668, t669, t670, t671, t672, t673, t674, t675⟩, A12, H⟩ := H
   dsimp only at H
   replace H := oI H; rcases H with ⟨c13, H⟩ | ⟨c13, H⟩
   ·have c13b0 := bT c13
    have c13b1 := bN c13
    clear c13
    replace H := oB H; obtain ⟨⟨t677, t678, t679, t680, t681, t682, t685⟩, A14, H⟩ := H
    dsimp only at H
    simp only [Option.some.injEq, Prod.mk.injEq] at H
    obtain ⟨rfl, rfl, rfl, rfl, rfl, rfl, rfl⟩ := H
    go_enter Tryz.func34, Tryz.ntmps34
    go_wp2_with (first | ((with_reducible refine gD_ (N := 14) rfl ?_); refine bxE (N := 14) #[.int .i64 0, .int .i64 0, .int .i64 0, .int .i64 0, .int .i64 0, .slice none 0 0] 59 ?_; intro gb652 hg w15 hbox hb; have BK652 := Aq.mk hbox; have GW652 := yS HB hg; have GE652 := yS HB hg; replace HB := yB HB hb; clear hb hbox hg) | ((with_reducible refine gD_ (N := 23) rfl ?_); refine gX 23 rfl #[.slice A0 l0.length c0] (award_CheckRates.calls _ _ l0 t653 t654 _ (yC HR0 HB) HC0.out A8.out) ?_; intro w16 hb; replace BK652 := yb BK652 hb; replace HB := yB HB hb; try clear hb) | ((with_reducible refine gD_ (N := 34) rfl ?_); refine gX 34 rfl #[.slice A1 l1.length c1, .int .i64 a2, .int .i64 a5] (award_SaleOf.calls _ _ l1 a2 a5 t655 t656 t657 t658 t659 t660 t661 t662 t663 t664 _ (yC HR1 HB) HC1.out A10.out) ?_; intro w17 hb; replace BK652 := yb BK652 hb; replace HB := yB HB hb; try clear hb) | ((with_reducible refine gD_ (N := 18) rfl ?_); refine bxE (N := 18) #[.int .i64 0, .int .i64 0, .int .i64 0, .int .i64 0, .int .i64 0, .int .i64 0, .int .i64 0, .int .i64 0, .int .i64 0] 39 ?_; intro gb665 hg w18 hbox hb; have BK665 := Aq.mk hbox; have GW665 := yS HB hg; have GE665 := yS HB hg; have NB652_665 := yN BK652 hg; have NB665_652 := yM BK652 hg; replace BK652 := yb BK652 hb; replace HB := yB HB hb; clear hb hbox hg; have hnb19 := NB665_652.out; have hnc19 := NB652_665.out; obtain ⟨hcz20_0, hcz20_1, hcz20_2, hcz20_3, hcz20_4, hcz20_5, hcz20_6, hcz20_7, hcz20_8, hfz20_0, hfz20_1, hfz20_2, hfz20_3, hfz20_4, hfz20_5, hfz20_6, hfz20_7, hfz20_8⟩ := cf9 BK665.out) | ((with_reducible refine gD_ (N := 46) rfl ?_); refine gX 46 rfl #[.slice A0 l0.length c0, .string a3, .int .i64 a4, .int .i64 a5] (award_RateOf.calls _ _ l0 a3 a4 a5 t666 t667 t668 t669 t670 t671 t672 t673 t674 t675 _ (Kd.C_below HR0.out (sB HB.out)) HC0.out A12.out) ?_; intro w21 hb; replace BK652 := yF NB652_665 BK652 hb; replace BK665 := yT9 BK665 hb; replace HB := yB HB hb; try clear hb) | ((with_reducible refine gD_ (N := 20) rfl ?_); refine bxE (N := 20) #[.int .i64 0, .int .i64 0, .int .i64 0, .string (⟨#[]⟩ : ByteArray), .int .i64 0, .int .i64 0, .int .i64 0, .int .i64 0, .int .i64 0] 26 ?_; intro gb676 hg w22 hbox hb; have BK676 := Aq.mk hbox; have GW676 := yS HB hg; have GE676 := yS HB hg; have NB652_676 := yN BK652 hg; have NB676_652 := yM BK652 hg; have NB665_676 := yN BK665 hg; have NB676_665 := yM BK665 hg; replace BK652 := yb BK652 hb; replace BK665 := yb BK665 hb; replace HB := yB HB hb; clear hb hbox hg; have hnb23 := NB676_652.out; have hnc23 := NB652_676.out; have hnb24 := NB676_665.out; have hnc24 := NB665_676.out; obtain ⟨hcz25_0, hcz25_1, hcz25_2, hcz25_3, hcz25_4, hcz25_5, hcz25_6, hcz25_7, hcz25_8, hfz25_0, hfz25_1, hfz25_2, hfz25_3, hfz25_4, hfz25_5, hfz25_6, hfz25_7, hfz25_8⟩ := cf9 BK676.out; obtain ⟨hcz26_0, hcz26_1, hcz26_2, hcz26_3, hcz26_4, hcz26_5, hcz26_6, hcz26_7, hcz26_8, hfz26_0, hfz26_1, hfz26_2, hfz26_3, hfz26_4, hfz26_5, hfz26_6, hfz26_7, hfz26_8⟩ := cf9 BK665.out) | ((with_reducible refine gC_ (f := 37) rfl ?_); refine gL (some 56) #[.agg #[.int .i64 t666, .int .i64 t667, .int .i64 t668, .string t669, .int .i64 t670, .int .i64 t671, .int .i64 t672, .int .i64 t673, .int .i64 t674], .agg #[.int .i64 t655, .int .i64 t656, .int .i64 t657, .int .i64 t658, .int .i64 t659, .int .i64 t660, .int .i64 t661, .int .i64 t662, .int .i64 t663], .slice A6 l6.length c6] ?_; (with_reducible refine (award_Awarded.calls t666 t667 t668 t669 t670 t671 t672 t673 t674 t655 t656 t657 t658 t659 t660 t661 t662 t663 _ _ l6 t677 t678 t679 t680 t681 t682 t685 _ ?side1 ?side2 A14.out).mono ?_); (case side1 => exact Kd.C_below HR6.out (sB HB.out)); (case side2 => exact HC6.out); rintro e w27 ⟨v683, rfl, ho0, hb⟩; refine ⟨_, rfl, ?_⟩; have HO684 := Aq.mk (Kd.R_lower ho0 (bZ_ (sB HB.out))); replace BK652 := yF NB652_676 BK652 hb; replace BK665 := yF NB665_676 BK665 hb; replace BK676 := yT9 BK676 hb; replace HB := yB HB hb; try clear hb; (try clear ho0); obtain ⟨hcz28_0, hcz28_1, hcz28_2, hcz28_3, hcz28_4, hcz28_5, hfz28_0, hfz28_1, hfz28_2, hfz28_3, hfz28_4, hfz28_5⟩ := cf6 BK652.out; obtain ⟨Ao29, co29, eo29⟩ := Kd.R_slice HO684.out; subst eo29))
    refine bodyPost_ret (results_ct rfl _ _ gb652 59 #[.int .i64 t677, .int .i64 t678, .int .i64 t679, .int .i64 t680, .int .i64 t681, .slice Ao29 t682.length co29] (0, 0) _ rfl (by refine wB ?_; refine pt6 (u0 := .int .i64 0) (u1 := .int .i64 0) (u2 := .int .i64 0) (u3 := .int .i64 0) (u4 := .int .i64 0) (u5 := .slice none 0 0) ?_; refine wB ?_; exact BK652.out) Tryz.underlying59 rfl (by kernel_rfl)) rfl ?_
    exact ⟨_, sE, by refine wR ?_; exact Kd.R_mono (rf6 (Kd.R_types HO684.out BK652.out (by decide))) (fun _ hk => trivial), sB HB.out⟩
   ·have c13b0 := bF c13
    have c13b1 := bM c13
    simp only [Option.some.injEq, Prod.mk.injEq] at H
    obtain ⟨rfl, rfl, rfl, rfl, rfl, rfl, rfl⟩ := H
    go_enter Tryz.func34, Tryz.ntmps34
    go_wp2_with (first | ((with_reducible refine gD_ (N := 14) rfl ?_); refine bxE (N := 14) #[.int .i64 0, .int .i64 0, .int .i64 0, .int .i64 0, .int .i64 0, .slice none 0 0] 59 ?_; intro gb652 hg w30 hbox hb; have BK652 := Aq.mk hbox; have GW652 := yS HB hg; have GE652 := yS HB hg; replace HB := yB HB hb; clear hb hbox hg) | ((with_reducible refine gD_ (N := 23) rfl ?_); refine gX 23 rfl #[.slice A0 l0.length c0] (award_CheckRates.calls _ _ l0 t653 t654 _ (yC HR0 HB) HC0.out A8.out) ?_; intro w31 hb; replace BK652 := yb BK652 hb; replace HB := yB HB hb; try clear hb) | ((with_reducible refine gD_ (N := 34) rfl ?_); refine gX 34 rfl #[.slice A1 l1.length c1, .int .i64 a2, .int .i64 a5] (award_SaleOf.calls _ _ l1 a2 a5 t655 t656 t657 t658 t659 t660 t661 t662 t663 t664 _ (yC HR1 HB) HC1.out A10.out) ?_; intro w32 hb; replace BK652 := yb BK652 hb; replace HB := yB HB hb; try clear hb) | ((with_reducible refine gD_ (N := 18) rfl ?_); refine bxE (N := 18) #[.int .i64 0, .int .i64 0, .int .i64 0, .int .i64 0, .int .i64 0, .int .i64 0, .int .i64 0, .int .i64 0, .int .i64 0] 39 ?_; intro gb665 hg w33 hbox hb; have BK665 := Aq.mk hbox; have GW665 := yS HB hg; have GE665 := yS HB hg; have NB652_665 := yN BK652 hg; have NB665_652 := yM BK652 hg; replace BK652 := yb BK652 hb; replace HB := yB HB hb; clear hb hbox hg; have hnb34 := NB665_652.out; have hnc34 := NB652_665.out; obtain ⟨hcz35_0, hcz35_1, hcz35_2, hcz35_3, hcz35_4, hcz35_5, hcz35_6, hcz35_7, hcz35_8, hfz35_0, hfz35_1, hfz35_2, hfz35_3, hfz35_4, hfz35_5, hfz35_6, hfz35_7, hfz35_8⟩ := cf9 BK665.out) | ((with_reducible refine gD_ (N := 46) rfl ?_); refine gX 46 rfl #[.slice A0 l0.length c0, .string a3, .int .i64 a4, .int .i64 a5] (award_RateOf.calls _ _ l0 a3 a4 a5 t666 t667 t668 t669 t670 t671 t672 t673 t674 t675 _ (Kd.C_below HR0.out (sB HB.out)) HC0.out A12.out) ?_; intro w36 hb; replace BK652 := yF NB652_665 BK652 hb; replace BK665 := yT9 BK665 hb; replace HB := yB HB hb; try clear hb) | ((with_reducible refine gD_ (N := 20) rfl ?_); refine bxE (N := 20) #[.int .i64 0, .int .i64 0, .int .i64 0, .string (⟨#[]⟩ : ByteArray), .int .i64 0, .int .i64 0, .int .i64 0, .int .i64 0, .int .i64 0] 26 ?_; intro gb676 hg w37 hbox hb; have BK676 := Aq.mk hbox; have GW676 := yS HB hg; have GE676 := yS HB hg; have NB652_676 := yN BK652 hg; have NB676_652 := yM BK652 hg; have NB665_676 := yN BK665 hg; have NB676_665 := yM BK665 hg; replace BK652 := yb BK652 hb; replace BK665 := yb BK665 hb; replace HB := yB HB hb; clear hb hbox hg; have hnb38 := NB676_652.out; have hnc38 := NB652_676.out; have hnb39 := NB676_665.out; have hnc39 := NB665_676.out; obtain ⟨hcz40_0, hcz40_1, hcz40_2, hcz40_3, hcz40_4, hcz40_5, hcz40_6, hcz40_7, hcz40_8, hfz40_0, hfz40_1, hfz40_2, hfz40_3, hfz40_4, hfz40_5, hfz40_6, hfz40_7, hfz40_8⟩ := cf9 BK676.out; obtain ⟨hcz41_0, hcz41_1, hcz41_2, hcz41_3, hcz41_4, hcz41_5, hfz41_0, hfz41_1, hfz41_2, hfz41_3, hfz41_4, hfz41_5⟩ := cf6 BK652.out))
    refine bodyPost_ret (results_ct rfl _ _ gb652 59 #[.int .i64 0, .int .i64 0, .int .i64 0, .int .i64 0, .int .i64 0, .slice none 0 0] (0, 0) _ rfl (by refine wB ?_; refine pt6 (u0 := .int .i64 0) (u1 := .int .i64 0) (u2 := .int .i64 0) (u3 := .int .i64 0) (u4 := .int .i64 0) (u5 := .slice none 0 0) ?_; refine wB ?_; (repeat refine bF_ ?_ NB652_676.out _); refine wB ?_; exact BK652.out) Tryz.underlying59 rfl (by kernel_rfl)) rfl ?_
    exact ⟨_, sE, by first | exact Kd.R_nil _ _ _ _ _ | exact Kd.N_nil _ _ _ _ _ | exact Kd.V_nil _ _ _ _ _ | exact Kd.Q_nil _ _ _ _ _ | exact Kd.S_nil _ _ _ _ _, sB HB.out⟩
  ·have c11b0 := bF c11
   have c11b1 := bM c11
   simp only [Option.some.injEq, Prod.mk.injEq] at H
   obtain ⟨rfl, rfl, rfl, rfl, rfl, rfl, rfl⟩ := H
   go_enter Tryz.func34, Tryz.ntmps34
   go_wp2_with (first | ((with_reducible refine gD_ (N := 14) rfl ?_); refine bxE (N := 14) #[.int .i64 0, .int .i64 0, .int .i64 0, .int .i64 0, .int .i64 0, .slice none 0 0] 59 ?_; intro gb652 hg w42 hbox hb; have BK652 := Aq.mk hbox; have GW652 := yS HB hg; have GE652 := yS HB hg; replace HB := yB HB hb; clear hb hbox hg) | ((with_reducible refine gD_ (N := 23) rfl ?_); refine gX 23 rfl #[.slice A0 l0.length c0] (award_CheckRates.calls _ _ l0 t653 t654 _ (yC HR0 HB) HC0.out A8.out) ?_; intro w43 hb; replace BK652 := yb BK652 hb; replace HB := yB HB hb; try clear hb) | ((with_reducible refine gD_ (N := 34) rfl ?_); refine gX 34 rfl #[.slice A1 l1.length c1, .int .i64 a2, .int .i64 a5] (award_SaleOf.calls _ _ l1 a2 a5 t655 t656 t657 t658 t659 t660 t661 t662 t663 t664 _ (yC HR1 HB) HC1.out A10.out) ?_; intro w44 hb; replace BK652 := yb BK652 hb; replace HB := yB HB hb; try clear hb) | ((with_reducible refine gD_ (N := 18) rfl ?_); refine bxE (N := 18) #[.int .i64 0, .int .i64 0, .int .i64 0, .int .i64 0, .int .i64 0, .int .i64 0, .int .i64 0, .int .i64 0, .int .i64 0] 39 ?_; intro gb665 hg w45 hbox hb; have BK665 := Aq.mk hbox; have GW665 := yS HB hg; have GE665 := yS HB hg; have NB652_665 := yN BK652 hg; have NB665_652 := yM BK652 hg; replace BK652 := yb BK652 hb; replace HB := yB HB hb; clear hb hbox hg; have hnb46 := NB665_652.out; have hnc46 := NB652_665.out; obtain ⟨hcz47_0, hcz47_1, hcz47_2, hcz47_3, hcz47_4, hcz47_5, hcz47_6, hcz47_7, hcz47_8, hfz47_0, hfz47_1, hfz47_2, hfz47_3, hfz47_4, hfz47_5, hfz47_6, hfz47_7, hfz47_8⟩ := cf9 BK665.out; obtain ⟨hcz48_0, hcz48_1, hcz48_2, hcz48_3, hcz48_4, hcz48_5, hfz48_0, hfz48_1, hfz48_2, hfz48_3, hfz48_4, hfz48_5⟩ := cf6 BK652.out))
   refine bodyPost_ret (results_ct rfl _ _ gb652 59 #[.int .i64 0, .int .i64 0, .int .i64 0, .int .i64 0, .int .i64 0, .slice none 0 0] (0, 0) _ rfl (by refine wB ?_; refine pt6 (u0 := .int .i64 0) (u1 := .int .i64 0) (u2 := .int .i64 0) (u3 := .int .i64 0) (u4 := .int .i64 0) (u5 := .slice none 0 0) ?_; refine wB ?_; (repeat refine bF_ ?_ NB652_665.out _); refine wB ?_; exact BK652.out) Tryz.underlying59 rfl (by kernel_rfl)) rfl ?_
   exact ⟨_, sE, by first | exact Kd.R_nil _ _ _ _ _ | exact Kd.N_nil _ _ _ _ _ | exact Kd.V_nil _ _ _ _ _ | exact Kd.Q_nil _ _ _ _ _ | exact Kd.S_nil _ _ _ _ _, sB HB.out⟩
 ·have c9b0 := bF c9
  have c9b1 := bM c9
  simp only [Option.some.injEq, Prod.mk.injEq] at H
  obtain ⟨rfl, rfl, rfl, rfl, rfl, rfl, rfl⟩ := H
  go_enter Tryz.func34, Tryz.ntmps34
  go_wp2_with (first | ((with_reducible refine gD_ (N := 14) rfl ?_); refine bxE (N := 14) #[.int .i64 0, .int .i64 0, .int .i64 0, .int .i64 0, .int .i64 0, .slice none 0 0] 59 ?_; intro gb652 hg w49 hbox hb; have BK652 := Aq.mk hbox; have GW652 := yS HB hg; have GE652 := yS HB hg; replace HB := yB HB hb; clear hb hbox hg) | ((with_reducible refine gD_ (N := 23) rfl ?_); refine gX 23 rfl #[.slice A0 l0.length c0] (award_CheckRates.calls _ _ l0 t653 t654 _ (yC HR0 HB) HC0.out A8.out) ?_; intro w50 hb; replace BK652 := yb BK652 hb; replace HB := yB HB hb; try clear hb; obtain ⟨hcz51_0, hcz51_1, hcz51_2, hcz51_3, hcz51_4, hcz51_5, hfz51_0, hfz51_1, hfz51_2, hfz51_3, hfz51_4, hfz51_5⟩ := cf6 BK652.out))
  refine bodyPost_ret (results_ct rfl _ _ gb652 59 #[.int .i64 0, .int .i64 0, .int .i64 0, .int .i64 0, .int .i64 0, .slice none 0 0] (0, 0) _ rfl (by refine wB ?_; refine pt6 (u0 := .int .i64 0) (u1 := .int .i64 0) (u2 := .int .i64 0) (u3 := .int .i64 0) (u4 := .int .i64 0) (u5 := .slice none 0 0) ?_; refine wB ?_; exact BK652.out) Tryz.underlying59 rfl (by kernel_rfl)) rfl ?_
  exact ⟨_, sE, by first | exact Kd.R_nil _ _ _ _ _ | exact Kd.N_nil _ _ _ _ _ | exact Kd.V_nil _ _ _ _ _ | exact Kd.Q_nil _ _ _ _ _ | exact Kd.S_nil _ _ _ _ _, sB HB.out⟩
end
section
open Go.Shelf
def tableL : List S26 := [(⟨1, 0, 0, (⟨#[]⟩ : ByteArray), (⟨1, 4⟩ : S24), 20, 5, 0⟩ : S26), (⟨2, 0, 0, (⟨#[111, 105, 108]⟩ : ByteArray), (⟨1, 3⟩ : S24), 10, 3, 0⟩ : S26), (⟨3, 50, 10, (⟨#[111, 105, 108]⟩ : ByteArray), (⟨1, 2⟩ : S24), 10, 3, 0⟩ : S26), (⟨4, 90, 0, (⟨#[]⟩ : ByteArray), (⟨0, 0⟩ : S24), 0, 0, 3⟩ : S26)]
def soldL : List S39 := [(⟨1, 60, 55, 10, 100, 7, 8, 30, 0⟩ : S39), (⟨2, 70, 66, 20, 12, 7, 0, 0, 0⟩ : S39)]
set_option maxRecDepth 100000
theorem pv_table : laganlaw06_table.f = some tableL := rfl
theorem pv_sold : laganlaw06_sold.f = some soldL := rfl
theorem pv_rate1 : award_RateOf.f tableL ⟨#[111, 105, 108]⟩ 12 50 = some (3, 50, 10, ⟨#[111, 105, 108]⟩, 1, 2, 10, 3, 0, 0) := by kernel_rfl
theorem pv_rate2 : award_RateOf.f tableL ⟨#[111, 105, 108]⟩ 12 90 = some (2, 0, 0, ⟨#[111, 105, 108]⟩, 1, 3, 10, 3, 0, 0) := by kernel_rfl
theorem pv_awarded : award_Awarded.f 3 50 10 ⟨#[111, 105, 108]⟩ 1 2 10 3 0 1 60 55 10 100 7 8 30 0 [4, 5, 4] = some (100, 10, 3, 50, 37, [⟨4, 33⟩, ⟨5, 17⟩, ⟨7, 10⟩, ⟨8, 3⟩], 0) := by kernel_rfl
theorem pv_divide : award_Divide.f 37 [⟨0, ⟨1, 2⟩⟩, ⟨3, ⟨1, 3⟩⟩] = some ([⟨0, 18⟩, ⟨3, 12⟩], 7, 0) := by kernel_rfl
theorem pv_equal : award_Equal.f 50 8 [4, 5, 4] = some ([3, 3, 2], 0) := by kernel_rfl
theorem pv_change : award_Change.f [⟨4, 33⟩, ⟨7, 10⟩] [⟨4, 50⟩, ⟨8, 3⟩] = some ([⟨4, 17⟩, ⟨7, -10⟩, ⟨8, 3⟩], 0) := by kernel_rfl
theorem pv_awardOf : award_AwardOf.f tableL soldL 10 ⟨#[111, 105, 108]⟩ 5 60 [4] = some (100, 10, 3, 33, 54, [⟨4, 33⟩, ⟨7, 10⟩, ⟨8, 3⟩], 0) := by kernel_rfl
theorem pv_sorted : [(0 : Int), 0, 10].mergeSort (fun x y => decide (x ≤ y)) = [0, 0, 10] := List.mergeSort_of_pairwise (by decide)
theorem pv_starts : award_starts.f tableL = some [0, 10] := by
 unfold award_starts.f startsL
 rw [show ((tableL.filter fun x => x.f7 == 0).map fun x => x.f2) = [0, 0, 10] from rfl, pv_sorted]
 kernel_rfl
theorem pv_starts3 : award_starts.f (tableL.take 3) = some [0, 10] := by
 unfold award_starts.f startsL
 rw [show (((tableL.take 3).filter fun x => x.f7 == 0).map fun x => x.f2) = [0, 0, 10] from rfl, pv_sorted]
 kernel_rfl
theorem pv_turns : award_Turns.f 50 tableL ⟨#[111, 105, 108]⟩ 50 = some [0, 10] := by
 unfold award_Turns.f
 rw [show award_CheckRates.f tableL = some (0, 0) by kernel_rfl, pv_starts]
 kernel_rfl
theorem pv_touched : award_Touched.f 50 (tableL.take 2) 3 50 10 ⟨#[111, 105, 108]⟩ 1 2 10 3 0 ⟨#[111, 105, 108]⟩ = some (10, 1000000, true, 0) := by
 unfold award_Touched.f
 rw [show award_AppendRate.f (tableL.take 2) 3 50 10 ⟨#[111, 105, 108]⟩ 1 2 10 3 0 = some (tableL.take 3, 0) by kernel_rfl]
 rw [Option.bind_some, if_pos rfl, pv_starts3]
 kernel_rfl
end
end Go.Proofs.YtbicfbnempiocaaGreat.G
