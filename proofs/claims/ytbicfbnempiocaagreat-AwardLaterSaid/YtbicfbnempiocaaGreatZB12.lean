/- Part 13 of what the law's proof rests on: what each function of the program computes, and that the machine's call of it comes to just that. -/
import Derived.Test.YtbicfbnempiocaaGreatZB0
import Derived.Test.YtbicfbnempiocaaGreatZB6
set_option linter.unusedVariables false
set_option linter.unusedSimpArgs false
namespace Go.Proofs.YtbicfbnempiocaaGreat.G
open Go.RowKit Go.Proofs.YtbicfbnempiocaaGreatW.PrintWords Go.Proofs.YtbicfbnempiocaaGreatW.PrintLast Go.Proofs.YtbicfbnempiocaaGreatW.PrintMore
section
attribute [local go_sem] max2_int min2_int max_two min_two max_three min_three max_four min_four
def award_Of.l0 : Nat → Int → Int → List (S69) → Int → Int → Option (Int)
 | 0, _, _, _, _, _ => none
 | k + 1, x1, x5, x9, x10, x11 => if x11 < x10 then (if 0 ≤ x11 then (if x11 < (x9.length : Int) then (if ((rd_T69 x9 x11).f0) = x1 then (award_Of.l0 k x1 (wrap64 (x5 + ((rd_T69 x9 x11).f1))) x9 x10 (wrap64 (x11 + 1))) else (award_Of.l0 k x1 x5 x9 x10 (wrap64 (x11 + 1)))) else (none)) else (none)) else (some x5)
def award_Of.f (k : Nat) (a0_0 : Int) (a0_1 : Int) (a0_2 : Int) (a0_3 : Int) (a0_4 : Int) (l0_5 : List (S69)) (a1 : Int) : Option (Int) := award_Of.l0 k a1 0 l0_5 (l0_5.length : Int) 0
set_option maxHeartbeats 8000000 in
set_option maxRecDepth 100000 in
theorem award_Of.calls (k : Nat) (a0_0 : Int) (a0_1 : Int) (a0_2 : Int) (a0_3 : Int) (a0_4 : Int) (A0_5 : Option Addr) (c0_5 : Nat) (l0_5 : List (S69)) (a1 : Int) (r : Int) (w : World) (hr0_5 : Kd.C k69 w A0_5 l0_5.length l0_5) (hc0_5 : l0_5.length ≤ c0_5) (h : award_Of.f k a0_0 a0_1 a0_2 a0_3 a0_4 l0_5 a1 = some r) :
  Calls Tryz.prog 40 #[.agg #[.int .i64 a0_0, .int .i64 a0_1, .int .i64 a0_2, .int .i64 a0_3, .int .i64 a0_4, .slice A0_5 l0_5.length c0_5], .int .i64 a1] w fun e w' => e = .returned (.int .i64 r) ∧ Below w.heap.size w w' := by
 have hu59 := Tryz.underlying59
 have hu69 := Tryz.underlying69
 have HR0_5 := Aq.mk hr0_5
 have HC0_5 := Aq.mk hc0_5
 clear hr0_5 hc0_5
 have HB := Aq.mk (Below.refl w.heap.size w)
 have H : (award_Of.l0 k a1 0 l0_5 (l0_5.length : Int) 0) = some r := h
 clear h
 have H' := Aq.mk H
 clear H
 go_enter Tryz.func40, Tryz.ntmps40
 go_wp2_with (first | ((with_reducible refine gD_ (N := 2) rfl ?_); refine bxE (N := 2) #[.int .i64 a0_0, .int .i64 a0_1, .int .i64 a0_2, .int .i64 a0_3, .int .i64 a0_4, .slice A0_5 l0_5.length c0_5] 59 ?_; intro gb834 hg w3 hbox hb; have BK834 := Aq.mk hbox; have GW834 := yS HB hg; have GE834 := yS HB hg; replace HB := yB HB hb; clear hb hbox hg; obtain ⟨hcz4_0, hcz4_1, hcz4_2, hcz4_3, hcz4_4, hcz4_5, hfz4_0, hfz4_1, hfz4_2, hfz4_3, hfz4_4, hfz4_5⟩ := cf6 BK834.out))
 go_loopg [5, 11] k (fun kq v5 v11 w' => ∃ (x5_1 : Int) (x11_1 : Int), v5 = .int .i64 x5_1 ∧ v11 = .int .i64 x11_1 ∧ Aq (award_Of.l0 kq a1 x5_1 l0_5 (l0_5.length : Int) x11_1 = some r) ∧ Aq (kq ≤ k) ∧ Aq (w'.heap[gb834]? = some (.cells #[.int .i64 a0_0, .int .i64 a0_1, .int .i64 a0_2, .int .i64 a0_3, .int .i64 a0_4, (.slice A0_5 l0_5.length c0_5)] 59 (0, 0))) ∧ Aq (Below w.heap.size w w'))
 case atStart => exact ⟨(0), (0), sS, sS, H', ⟨Nat.le_refl _⟩, ⟨sL BK834.out⟩, ⟨sB HB.out⟩⟩
 case round =>
  clear H'
  obtain ⟨x5_1, x11_1, rfl, rfl, HA, HK1, BK834, HB⟩ := hrel
  cases gk with
  | zero => exact absurd HA.out (by simp [award_Of.l0])
  | succ k1 =>
   have H := HA.out
   clear HA
   simp only [award_Of.l0] at H
   replace H := oI H; rcases H with ⟨c5, H⟩ | ⟨c5, H⟩
   ·have c5b0 := dT c5
    clear c5
    replace H := oI H; rcases H with ⟨c6, H⟩ | ⟨c6, H⟩
    ·have c6b0 := dT c6
     clear c6
     replace H := oI H; rcases H with ⟨c7, H⟩ | ⟨c7, H⟩
     ·have c7b0 := dT c7
      clear c7
      replace H := oI H; rcases H with ⟨c8, H⟩ | ⟨c8, H⟩
      ·have c8b0 := bT c8
       have c8b1 := bN c8
       clear c8
       have H' := Aq.mk H
       clear H
       have p835 : 0 ≤ (x11_1 : Int) := oA
       have q835 : x11_1 < (l0_5.length : Int) := oA
       obtain ⟨ad835, e835, hx835_0, hx835_1⟩ := at_T69 HR0_5.out x11_1 p835 q835
       cases e835
       replace hx835_0 := mv HB hx835_0
       replace hx835_1 := mv HB hx835_1
       replace p835 := eq_true p835
       replace q835 := eq_true q835
       go_wp2_with (first | ((with_reducible refine gD_ (N := 7) rfl ?_); refine bxE (N := 7) #[.int .i64 0, .int .i64 0] 69 ?_; intro gb836 hg w9 hbox hb; have BK836 := Aq.mk hbox; have GW836 := yS HB hg; have GE836 := yS HB hg; have NB834_836 := Aq.mk ((by rw [hg]; exact Nat.ne_of_lt (blk_lt (g := gb834) (o := .cells #[.int .i64 a0_0, .int .i64 a0_1, .int .i64 a0_2, .int .i64 a0_3, .int .i64 a0_4, .slice (some ad835) l0_5.length c0_5] 59 (0, 0)) (sK BK834.out)) : gb834 ≠ gb836)); have NB836_834 := Aq.mk ((by rw [hg]; exact Nat.ne_of_gt (blk_lt (g := gb834) (o := .cells #[.int .i64 a0_0, .int .i64 a0_1, .int .i64 a0_2, .int .i64 a0_3, .int .i64 a0_4, .slice (some ad835) l0_5.length c0_5] 59 (0, 0)) (sK BK834.out)) : gb836 ≠ gb834)); replace BK834 := Aq.mk (bB_ (g := gb834) (o := .cells #[.int .i64 a0_0, .int .i64 a0_1, .int .i64 a0_2, .int .i64 a0_3, .int .i64 a0_4, .slice (some ad835) l0_5.length c0_5] 59 (0, 0)) (sK BK834.out) hb); replace HB := yB HB hb; clear hb hbox hg; have hnb10 := NB836_834.out; have hnc10 := NB834_836.out; obtain ⟨hcz11_0, hcz11_1, hfz11_0, hfz11_1⟩ := cf2 BK836.out))
       go_roundg k1
       case measure => have := HK1.out; omega
       case rel => exact ⟨(wrap64 (x5_1 + ((rd_T69 l0_5 x11_1).f1))), (wrap64 (x11_1 + 1)), sS, sS, H', ⟨by have := HK1.out; omega⟩, ⟨sF NB834_836 BK834⟩, ⟨sB HB.out⟩⟩
      ·have c8b0 := bF c8
       have c8b1 := bM c8
       have H' := Aq.mk H
       clear H
       have p835 : 0 ≤ (x11_1 : Int) := oA
       have q835 : x11_1 < (l0_5.length : Int) := oA
       obtain ⟨ad835, e835, hx835_0, hx835_1⟩ := at_T69 HR0_5.out x11_1 p835 q835
       cases e835
       replace hx835_0 := mv HB hx835_0
       replace hx835_1 := mv HB hx835_1
       replace p835 := eq_true p835
       replace q835 := eq_true q835
       go_wp2_with (first | ((with_reducible refine gD_ (N := 7) rfl ?_); refine bxE (N := 7) #[.int .i64 0, .int .i64 0] 69 ?_; intro gb836 hg w12 hbox hb; have BK836 := Aq.mk hbox; have GW836 := yS HB hg; have GE836 := yS HB hg; have NB834_836 := Aq.mk ((by rw [hg]; exact Nat.ne_of_lt (blk_lt (g := gb834) (o := .cells #[.int .i64 a0_0, .int .i64 a0_1, .int .i64 a0_2, .int .i64 a0_3, .int .i64 a0_4, .slice (some ad835) l0_5.length c0_5] 59 (0, 0)) (sK BK834.out)) : gb834 ≠ gb836)); have NB836_834 := Aq.mk ((by rw [hg]; exact Nat.ne_of_gt (blk_lt (g := gb834) (o := .cells #[.int .i64 a0_0, .int .i64 a0_1, .int .i64 a0_2, .int .i64 a0_3, .int .i64 a0_4, .slice (some ad835) l0_5.length c0_5] 59 (0, 0)) (sK BK834.out)) : gb836 ≠ gb834)); replace BK834 := Aq.mk (bB_ (g := gb834) (o := .cells #[.int .i64 a0_0, .int .i64 a0_1, .int .i64 a0_2, .int .i64 a0_3, .int .i64 a0_4, .slice (some ad835) l0_5.length c0_5] 59 (0, 0)) (sK BK834.out) hb); replace HB := yB HB hb; clear hb hbox hg; have hnb13 := NB836_834.out; have hnc13 := NB834_836.out; obtain ⟨hcz14_0, hcz14_1, hfz14_0, hfz14_1⟩ := cf2 BK836.out))
       go_roundg k1
       case measure => have := HK1.out; omega
       case rel => exact ⟨(x5_1), (wrap64 (x11_1 + 1)), sS, sS, H', ⟨by have := HK1.out; omega⟩, ⟨sF NB834_836 BK834⟩, ⟨sB HB.out⟩⟩
     ·exact absurd H (by simp)
    ·exact absurd H (by simp)
   ·have c5b0 := dF c5
    clear c5
    obtain rfl := Option.some.inj H
    go_wp2
    go_ret
    exact ⟨sE, sB HB.out⟩
end
section
open Go.Shelf
def shT : List S69 → Int → Int
 | [], _ => 0
 | x :: l, p => (if x.f0 = p then x.f1 else 0) + shT l p
theorem shT_app (p : Int) : ∀ (a b : List S69), shT (a ++ b) p = shT a p + shT b p
 | [], b => by simp [shT]
 | x :: a, b => by simp only [List.cons_append, shT, shT_app p a b]; omega
theorem shT_bd (M : Int) (hM : 0 ≤ M) (p : Int) : ∀ (l : List S69), (∀ x ∈ l, -M ≤ x.f1 ∧ x.f1 ≤ M) → -(M * (l.length : Int)) ≤ shT l p ∧ shT l p ≤ M * (l.length : Int)
 | [], _ => by simp [shT]
 | x :: l, h => by
  have ih := shT_bd M hM p l (fun y hy => h y (List.mem_cons_of_mem _ hy))
  have hx := h x (by simp)
  have e : M * ((x :: l).length : Int) = M * (l.length : Int) + M := by rw [List.length_cons, Int.natCast_add, Int.mul_add]; simp
  rw [e]
  unfold shT
  split <;> omega
theorem sums_val (sg : Int) (hsg : sg = 1 ∨ sg = -1) : ∀ (l : List S69) (s : Int → Int) (M : Int), (∀ x ∈ l, -1000000000 ≤ x.f1 ∧ x.f1 ≤ 1000000000) → (∀ p, -M ≤ s p ∧ s p ≤ M) → M + 1000000000 * (l.length : Int) ≤ 4000000000000000000 → ∀ p, sumsF sg l s p = s p + sg * shT l p
 | [], s, M, _, _, _, p => by simp [sumsF, shT]
 | x :: l, s, M, h, hs, hb, p => by
  have hx := h x (by simp)
  have e : ((x :: l).length : Int) = (l.length : Int) + 1 := by simp
  rw [e] at hb
  have hw : ∀ z : Int, -9223372036854775808 ≤ z ∧ z ≤ 9223372036854775807 → wrap64 z = z := fun z hz => IntWalk.wrap64_in z hz
  have hstep : ∀ q, stepS sg s x q = if q = x.f0 then s x.f0 + sg * x.f1 else s q := by
   intro q
   unfold stepS
   split
   ·have := hs x.f0
    rcases hsg with rfl | rfl
    ·rw [hw (1 * x.f1) (by omega), hw _ (by omega)]
    ·rw [hw (-1 * x.f1) (by omega), hw _ (by omega)]
   ·rfl
  have ih := sums_val sg hsg l (stepS sg s x) (M + 1000000000) (fun y hy => h y (List.mem_cons_of_mem _ hy)) (fun q => by
   rw [hstep]
   have h1 := hs q
   have h2 := hs x.f0
   split
   ·rcases hsg with rfl | rfl <;> omega
   ·omega) (by omega) p
  show sumsF sg l (stepS sg s x) p = _
  rw [ih, hstep, shT, Int.mul_add]
  by_cases hp : p = x.f0
  ·subst hp
   rw [if_pos rfl, if_pos rfl]; omega
  ·rw [if_neg hp, if_neg (fun e => hp e.symm)]; omega
theorem rdT_mid (pre rest : List S69) (x : S69) : rd_T69 (pre ++ x :: rest) (pre.length : Int) = x := by
 unfold rd_T69
 rw [Int.toNat_natCast]
 simp
theorem of_l0 (p : Int) : ∀ (rest pre : List S69) (k : Nat) (acc M : Int), rest.length < k → pre.length + rest.length ≤ 1000000 → (∀ x ∈ rest, -1000000000000 ≤ x.f1 ∧ x.f1 ≤ 1000000000000) → -M ≤ acc ∧ acc ≤ M → M + 1000000000000 * (rest.length : Int) ≤ 4000000000000000000 →
  award_Of.l0 k p acc (pre ++ rest) ((pre ++ rest).length : Int) (pre.length : Int) = some (acc + shT rest p)
 | [], pre, k, acc, M, hk, _, _, _, _ => by
  obtain ⟨k, rfl⟩ : ∃ m, k = m + 1 := ⟨k - 1, by omega⟩
  unfold award_Of.l0
  rw [if_neg (by simp)]
  simp [shT]
 | x :: rest, pre, k, acc, M, hk, hl, h, hs, hb => by
  obtain ⟨k, rfl⟩ : ∃ m, k = m + 1 := ⟨k - 1, by omega⟩
  have hx := h x (by simp)
  simp only [List.length_cons] at hk hl hb
  have hw : ∀ z : Int, -9223372036854775808 ≤ z ∧ z ≤ 9223372036854775807 → wrap64 z = z := fun z hz => IntWalk.wrap64_in z hz
  unfold award_Of.l0
  rw [if_pos (by simp; omega), if_pos (by omega), if_pos (by simp; omega), rdT_mid, hw ((pre.length : Int) + 1) (by omega)]
  have e : pre ++ x :: rest = (pre ++ [x]) ++ rest := by simp
  have en : (pre.length : Int) + 1 = ((pre ++ [x]).length : Int) := by simp
  rw [e, en]
  have ih := fun acc' ha => of_l0 p rest (pre ++ [x]) k acc' (M + 1000000000000) (by omega) (by simp; omega) (fun y hy => h y (List.mem_cons_of_mem _ hy)) ha (by omega)
  by_cases hp : x.f0 = p
  ·rw [if_pos hp, hw _ (by omega), ih _ (by omega), shT, if_pos hp, Int.add_assoc]
  ·rw [if_neg hp, ih _ (by omega), shT, if_neg hp, Int.zero_add]
theorem of_val (a b c d e p : Int) (l : List S69) (k : Nat) (hk : l.length < k) (hl : l.length ≤ 1000000) (h : ∀ x ∈ l, -1000000000000 ≤ x.f1 ∧ x.f1 ≤ 1000000000000) : award_Of.f k a b c d e l p = some (shT l p) := by
 have := of_l0 p l [] k 0 0 hk (by simpa using hl) h (by omega) (by omega)
 unfold award_Of.f
 simpa using this
theorem shT_keys (s : Int → Int) (p : Int) : ∀ (K : List Int), K.Pairwise (· < ·) → shT (K.map fun q => (⟨q, s q⟩ : S69)) p = if p ∈ K then s p else 0
 | [], _ => by simp [shT]
 | q :: K, h => by
  rw [List.pairwise_cons] at h
  have ih := shT_keys s p K h.2
  rw [List.map_cons, shT, ih]
  by_cases hq : q = p
  ·subst hq
   have : ¬ q ∈ K := fun hm => by have := h.1 q hm; omega
   rw [if_pos rfl, if_neg this, if_pos (by simp), Int.add_zero]
  ·rw [if_neg hq, Int.zero_add]
   have : p ∈ q :: K ↔ p ∈ K := by simp [Ne.symm hq]
   simp only [this]
theorem shT_listF (s : Int → Int) (p : Int) (h0 : 0 ≤ p) (h1 : p ≤ 40) : shT (listF s) p = s p := by
 unfold listF
 rw [shT_keys s p _ (keysL_sorted s)]
 split
 ·rfl
 ·rename_i hn
  by_cases hz : s p = 0
  ·exact hz.symm
  ·exact absurd (by unfold keysL; rw [List.mem_filter]; exact ⟨mem_range41 p h0 h1, by simpa using hz⟩) hn
theorem mergeS_bd {l : List S69} (h : mergeS l = 0) : ∀ x ∈ l, -1000000000 ≤ x.f1 ∧ x.f1 ≤ 1000000000 := by
 unfold mergeS at h
 by_cases h1 : 1000 < l.length
 ·rw [if_pos h1] at h; exact absurd h (by decide)
 ·rw [if_neg h1] at h
  by_cases h2 : l.any shareB = true
  ·rw [if_pos h2] at h; exact absurd h (by decide)
  ·intro x hx
   rw [Bool.not_eq_true, List.any_eq_false] at h2
   have := h2 x hx
   unfold shareB at this
   cases hi : inB x.f1 (-1000000000) 1000000000 with
   | true => exact inB_iff.1 hi
   | false => rw [hi] at this; exact absurd (by simp) this
theorem change_val {a b : List S69} (ha : mergeS a = 0) (hb : mergeS b = 0) : changeL a b = listF (fun p => shT b p - shT a p) := by
 unfold changeL
 congr 1
 funext p
 have la := (mergeS_ok ha).1
 have lb := (mergeS_ok hb).1
 have e1 := sums_val (-1) (Or.inr rfl) a (fun _ => 0) 0 (mergeS_bd ha) (fun _ => by omega) (by omega)
 have bd := fun q => shT_bd 1000000000 (by decide) q a (mergeS_bd ha)
 rw [sums_val 1 (Or.inl rfl) b _ 1000000000000 (mergeS_bd hb) (fun q => by rw [e1]; have := bd q; omega) (by omega), e1]
 omega
end
end Go.Proofs.YtbicfbnempiocaaGreat.G
