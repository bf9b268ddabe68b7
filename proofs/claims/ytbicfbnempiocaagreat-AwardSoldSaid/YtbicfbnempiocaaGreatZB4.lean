/- Part 5 of what the law's proof rests on: what each function of the program computes, and that the machine's call of it comes to just that. -/
import Derived.Test.YtbicfbnempiocaaGreatZB0
import Derived.Test.YtbicfbnempiocaaGreatZB1
import Derived.Test.YtbicfbnempiocaaGreatZB3
import Derived.Test.YtbicfbnempiocaaGreatZB5
set_option linter.unusedVariables false
set_option linter.unusedSimpArgs false
namespace Go.Proofs.YtbicfbnempiocaaGreat.G
open Go.RowKit Go.Proofs.YtbicfbnempiocaaGreatW.PrintWords Go.Proofs.YtbicfbnempiocaaGreatW.PrintLast Go.Proofs.YtbicfbnempiocaaGreatW.PrintMore
section
open Go.Shelf
def lateS (l : List S39) (x : S39) : Bool := decide (0 < l.length) && decide (x.f1 < (rd_T39 l ((l.length : Int) - 1)).f1)
def followsS (l : List S39) (x : S39) : Int :=
 if 200 ≤ l.length then 2 else if ckS x ≠ 0 then 1 else if l.any (fun y => y.f0 == x.f0) then 6 else if lateS l x then 7 else if x.f8 = 0 then 0
 else if l.any (fun y => y.f0 == x.f8 && y.f8 == 0) then (if l.any (fun y => y.f8 == x.f8) then 6 else 0) else 5
set_option maxRecDepth 100000 in
set_option maxHeartbeats 4000000 in
theorem follows_sale_full (A : Option Addr) (c : Nat) (l : List S39) (X : S39) (w : World) (hr0 : Kd.C k39 w A l.length l) (h1 : 200 ≤ l.length) :
  Calls Tryz.prog 120 #[.slice A l.length c, .agg #[.int .i64 X.f0, .int .i64 X.f1, .int .i64 X.f2, .int .i64 X.f3, .int .i64 X.f4, .int .i64 X.f5, .int .i64 X.f6, .int .i64 X.f7, .int .i64 X.f8], .int .i64 200, .func (.func 63) #[] #[]] w fun e w' => e = .returned (.int .i64 2) ∧ Below w.heap.size w w' := by
 have hm : l.length ≤ 9223372036854775807 := hr0.2.1
 have HR := Aq.mk hr0
 clear hr0
 have hmf : ∀ (fn : Fn) (first cap : Array Value) (w : World), (Instr.makeFunc fn first cap).run Tryz.prog w = .ok (.func fn first cap) w := fun _ _ _ _ => rfl
 have hfd1 : ∀ (a b c : Int) (V : World), (Instr.field 143 (.agg #[.int .i64 a, .int .i64 b, .int .i64 c]) 1).run Tryz.prog V = .ok (.int .i64 b) V := fun _ _ _ _ => by rfl
 have HB := Aq.mk (Below.refl w.heap.size w)
 have eg0 : Aq (∀ args w, (callFunc 153 args).run Tryz.prog w = .ok (.enter 153 args) w) := ⟨enters_of Tryz.func153 (by kernel_rfl) rfl⟩
 have eg1 : Aq (∀ args w, (callFunc 154 args).run Tryz.prog w = .ok (.enter 154 args) w) := ⟨enters_of Tryz.func154 (by kernel_rfl) rfl⟩
 have eg2 : Aq (∀ args w, (callFunc 155 args).run Tryz.prog w = .ok (.enter 155 args) w) := ⟨enters_of Tryz.func155 (by kernel_rfl) rfl⟩
 have h1i : (200 : Int) ≤ (l.length : Int) := by omega
 clear h1
 go_enter Tryz.func120, Tryz.ntmps120
 go_wp2_with (first | ((with_reducible refine gD_ (N := 5) rfl ?_); refine bxE (N := 5) #[.int .i64 X.f0, .int .i64 X.f1, .int .i64 X.f2, .int .i64 X.f3, .int .i64 X.f4, .int .i64 X.f5, .int .i64 X.f6, .int .i64 X.f7, .int .i64 X.f8] 39 ?_; intro bx hg w1 hbox hb; have n0_ := Aq.mk (bS_ HB.out hb); have HX := Aq.mk hbox; clear HB hb hbox hg; have HB := n0_; clear n0_; obtain ⟨hx0, hx1, hx2, hx3, hx4, hx5, hx6, hx7, hx8⟩ := cz9 HX.out) | (go_at_call 128; go_must (refine (headB_sale X _).mono ?_; rintro e w2 ⟨rfl, hb⟩; replace HB := Aq.mk (bS_ HB.out hb); replace HX := Aq.mk (bB_ HX.out hb); clear hb hx0 hx1 hx2 hx3 hx4 hx5 hx6 hx7 hx8; obtain ⟨hx0, hx1, hx2, hx3, hx4, hx5, hx6, hx7, hx8⟩ := cz9 HX.out)) | ((with_reducible refine gD_ (N := 9) rfl ?_); refine bxE (N := 9) #[.int .i64 0, .int .i64 0, .int .i64 0] 143 ?_; intro bh hg w3 hbox hb; have n0_ := Aq.mk (bS_ HB.out hb); have n1_ := Aq.mk (bB_ HX.out hb); have HH := Aq.mk hbox; have NE := Aq.mk (by rw [hg]; exact Nat.ne_of_lt (blk_lt HX.out) : bx ≠ bh); have GH := Aq.mk (by rw [hg]; exact HB.out.size : w.heap.size ≤ bh); have hnb := NE.out; have hnc := NE.out.symm; clear HB HX hb hbox hg hx0 hx1 hx2 hx3 hx4 hx5 hx6 hx7 hx8; have HB := n0_; have HX := n1_; clear n0_ n1_; obtain ⟨hx0, hx1, hx2, hx3, hx4, hx5, hx6, hx7, hx8⟩ := cz9 HX.out; obtain ⟨hh0, hh1, hh2, hf0, hf1, hf2⟩ := cf3 HH.out))
 go_ret
 exact ⟨rfl, by repeat (first | exact HB.out | (refine bT_ ?_ GH.out))⟩
set_option maxRecDepth 100000 in
set_option maxHeartbeats 4000000 in
theorem follows_sale_form (A : Option Addr) (c : Nat) (l : List S39) (X : S39) (w : World) (hr0 : Kd.C k39 w A l.length l) (h1 : ¬ 200 ≤ l.length) (k : Int) (CK : Aq (ckS X = k)) (hk : (k != 0) = true) :
  Calls Tryz.prog 120 #[.slice A l.length c, .agg #[.int .i64 X.f0, .int .i64 X.f1, .int .i64 X.f2, .int .i64 X.f3, .int .i64 X.f4, .int .i64 X.f5, .int .i64 X.f6, .int .i64 X.f7, .int .i64 X.f8], .int .i64 200, .func (.func 63) #[] #[]] w fun e w' => e = .returned (.int .i64 1) ∧ Below w.heap.size w w' := by
 have hm : l.length ≤ 9223372036854775807 := hr0.2.1
 have HR := Aq.mk hr0
 clear hr0
 have hmf : ∀ (fn : Fn) (first cap : Array Value) (w : World), (Instr.makeFunc fn first cap).run Tryz.prog w = .ok (.func fn first cap) w := fun _ _ _ _ => rfl
 have hfd1 : ∀ (a b c : Int) (V : World), (Instr.field 143 (.agg #[.int .i64 a, .int .i64 b, .int .i64 c]) 1).run Tryz.prog V = .ok (.int .i64 b) V := fun _ _ _ _ => by rfl
 have HB := Aq.mk (Below.refl w.heap.size w)
 have eg0 : Aq (∀ args w, (callFunc 153 args).run Tryz.prog w = .ok (.enter 153 args) w) := ⟨enters_of Tryz.func153 (by kernel_rfl) rfl⟩
 have eg1 : Aq (∀ args w, (callFunc 154 args).run Tryz.prog w = .ok (.enter 154 args) w) := ⟨enters_of Tryz.func154 (by kernel_rfl) rfl⟩
 have eg2 : Aq (∀ args w, (callFunc 155 args).run Tryz.prog w = .ok (.enter 155 args) w) := ⟨enters_of Tryz.func155 (by kernel_rfl) rfl⟩
 have h1i : ¬ (200 : Int) ≤ (l.length : Int) := by omega
 have h1j : (l.length : Int) < 200 := by omega
 clear h1
 go_enter Tryz.func120, Tryz.ntmps120
 go_wp2_with (first | ((with_reducible refine gD_ (N := 5) rfl ?_); refine bxE (N := 5) #[.int .i64 X.f0, .int .i64 X.f1, .int .i64 X.f2, .int .i64 X.f3, .int .i64 X.f4, .int .i64 X.f5, .int .i64 X.f6, .int .i64 X.f7, .int .i64 X.f8] 39 ?_; intro bx hg w1 hbox hb; have n0_ := Aq.mk (bS_ HB.out hb); have HX := Aq.mk hbox; clear HB hb hbox hg; have HB := n0_; clear n0_; obtain ⟨hx0, hx1, hx2, hx3, hx4, hx5, hx6, hx7, hx8⟩ := cz9 HX.out) | (go_at_call 128; go_must (refine (headB_sale X _).mono ?_; rintro e w2 ⟨rfl, hb⟩; replace HB := Aq.mk (bS_ HB.out hb); replace HX := Aq.mk (bB_ HX.out hb); clear hb hx0 hx1 hx2 hx3 hx4 hx5 hx6 hx7 hx8; obtain ⟨hx0, hx1, hx2, hx3, hx4, hx5, hx6, hx7, hx8⟩ := cz9 HX.out)) | ((with_reducible refine gD_ (N := 9) rfl ?_); refine bxE (N := 9) #[.int .i64 0, .int .i64 0, .int .i64 0] 143 ?_; intro bh hg w3 hbox hb; have n0_ := Aq.mk (bS_ HB.out hb); have n1_ := Aq.mk (bB_ HX.out hb); have HH := Aq.mk hbox; have NE := Aq.mk (by rw [hg]; exact Nat.ne_of_lt (blk_lt HX.out) : bx ≠ bh); have GH := Aq.mk (by rw [hg]; exact HB.out.size : w.heap.size ≤ bh); have hnb := NE.out; have hnc := NE.out.symm; clear HB HX hb hbox hg hx0 hx1 hx2 hx3 hx4 hx5 hx6 hx7 hx8; have HB := n0_; have HX := n1_; clear n0_ n1_; obtain ⟨hx0, hx1, hx2, hx3, hx4, hx5, hx6, hx7, hx8⟩ := cz9 HX.out; obtain ⟨hh0, hh1, hh2, hf0, hf1, hf2⟩ := cf3 HH.out) | (go_at_call 63; go_must (have m0_ : (((w3.setCell ⟨bh, 0, none⟩ (.int .i64 X.f0)).setCell ⟨bh, 1, none⟩ (.int .i64 X.f1)).setCell ⟨bh, 2, none⟩ (.int .i64 X.f8)).heap[bx]? = some (.cells #[.int .i64 X.f0, .int .i64 X.f1, .int .i64 X.f2, .int .i64 X.f3, .int .i64 X.f4, .int .i64 X.f5, .int .i64 X.f6, .int .i64 X.f7, .int .i64 X.f8] 39 (0, 0)) := bF_ (p := ⟨bh, 2, none⟩) (bF_ (p := ⟨bh, 1, none⟩) (bF_ (p := ⟨bh, 0, none⟩) HX.out NE.out _) NE.out _) NE.out _; have m1_ : (((w3.setCell ⟨bh, 0, none⟩ (.int .i64 X.f0)).setCell ⟨bh, 1, none⟩ (.int .i64 X.f1)).setCell ⟨bh, 2, none⟩ (.int .i64 X.f8)).heap[bh]? = some (.cells #[.int .i64 X.f0, .int .i64 X.f1, .int .i64 X.f8] 143 (0, 0)) := bP_ (bP_ (bP_ HH.out 0 _ rfl) 1 _ rfl) 2 _ rfl; have m2_ : Below w.heap.size w (((w3.setCell ⟨bh, 0, none⟩ (.int .i64 X.f0)).setCell ⟨bh, 1, none⟩ (.int .i64 X.f1)).setCell ⟨bh, 2, none⟩ (.int .i64 X.f8)) := bT_ (bT_ (bT_ HB.out GH.out) GH.out) GH.out; clear HB HX HH hf0 hf1 hf2 hx0 hx1 hx2 hx3 hx4 hx5 hx6 hx7 hx8 hh0 hh1 hh2; generalize (((w3.setCell ⟨bh, 0, none⟩ (.int .i64 X.f0)).setCell ⟨bh, 1, none⟩ (.int .i64 X.f1)).setCell ⟨bh, 2, none⟩ (.int .i64 X.f8)) = w4 at m0_ m1_ m2_ ⊢; have HB := Aq.mk m2_; have HX := Aq.mk m0_; have HH := Aq.mk m1_; clear m0_ m1_ m2_; refine (checkSale_any X _).mono ?_; rintro e w5 ⟨he, hb⟩; rw [CK.out] at he; subst he; replace HB := Aq.mk (bS_ HB.out hb); replace HX := Aq.mk (bB_ HX.out hb); replace HH := Aq.mk (bB_ HH.out hb); clear hb; obtain ⟨hx0, hx1, hx2, hx3, hx4, hx5, hx6, hx7, hx8⟩ := cz9 HX.out; obtain ⟨hh0, hh1, hh2⟩ := cz3 HH.out)))
 go_ret
 exact ⟨rfl, by repeat (first | exact HB.out | (refine bT_ ?_ GH.out))⟩
set_option maxRecDepth 100000 in
set_option maxHeartbeats 4000000 in
theorem follows_sale_same (A : Option Addr) (c : Nat) (l : List S39) (X : S39) (w : World) (hr0 : Kd.C k39 w A l.length l) (h1 : ¬ 200 ≤ l.length) (CK : Aq (ckS X = 0)) (S1 : Aq ((l.any fun y => y.f0 == X.f0) = true)) :
  Calls Tryz.prog 120 #[.slice A l.length c, .agg #[.int .i64 X.f0, .int .i64 X.f1, .int .i64 X.f2, .int .i64 X.f3, .int .i64 X.f4, .int .i64 X.f5, .int .i64 X.f6, .int .i64 X.f7, .int .i64 X.f8], .int .i64 200, .func (.func 63) #[] #[]] w fun e w' => e = .returned (.int .i64 6) ∧ Below w.heap.size w w' := by
 have hm : l.length ≤ 9223372036854775807 := hr0.2.1
 have HR := Aq.mk hr0
 clear hr0
 have hmf : ∀ (fn : Fn) (first cap : Array Value) (w : World), (Instr.makeFunc fn first cap).run Tryz.prog w = .ok (.func fn first cap) w := fun _ _ _ _ => rfl
 have hfd1 : ∀ (a b c : Int) (V : World), (Instr.field 143 (.agg #[.int .i64 a, .int .i64 b, .int .i64 c]) 1).run Tryz.prog V = .ok (.int .i64 b) V := fun _ _ _ _ => by rfl
 have HB := Aq.mk (Below.refl w.heap.size w)
 have eg0 : Aq (∀ args w, (callFunc 153 args).run Tryz.prog w = .ok (.enter 153 args) w) := ⟨enters_of Tryz.func153 (by kernel_rfl) rfl⟩
 have eg1 : Aq (∀ args w, (callFunc 154 args).run Tryz.prog w = .ok (.enter 154 args) w) := ⟨enters_of Tryz.func154 (by kernel_rfl) rfl⟩
 have eg2 : Aq (∀ args w, (callFunc 155 args).run Tryz.prog w = .ok (.enter 155 args) w) := ⟨enters_of Tryz.func155 (by kernel_rfl) rfl⟩
 have h1i : ¬ (200 : Int) ≤ (l.length : Int) := by omega
 have h1j : (l.length : Int) < 200 := by omega
 clear h1
 go_enter Tryz.func120, Tryz.ntmps120
 go_wp2_with (first | ((with_reducible refine gD_ (N := 5) rfl ?_); refine bxE (N := 5) #[.int .i64 X.f0, .int .i64 X.f1, .int .i64 X.f2, .int .i64 X.f3, .int .i64 X.f4, .int .i64 X.f5, .int .i64 X.f6, .int .i64 X.f7, .int .i64 X.f8] 39 ?_; intro bx hg w1 hbox hb; have n0_ := Aq.mk (bS_ HB.out hb); have HX := Aq.mk hbox; clear HB hb hbox hg; have HB := n0_; clear n0_; obtain ⟨hx0, hx1, hx2, hx3, hx4, hx5, hx6, hx7, hx8⟩ := cz9 HX.out) | (go_at_call 128; go_must (refine (headB_sale X _).mono ?_; rintro e w2 ⟨rfl, hb⟩; replace HB := Aq.mk (bS_ HB.out hb); replace HX := Aq.mk (bB_ HX.out hb); clear hb hx0 hx1 hx2 hx3 hx4 hx5 hx6 hx7 hx8; obtain ⟨hx0, hx1, hx2, hx3, hx4, hx5, hx6, hx7, hx8⟩ := cz9 HX.out)) | ((with_reducible refine gD_ (N := 9) rfl ?_); refine bxE (N := 9) #[.int .i64 0, .int .i64 0, .int .i64 0] 143 ?_; intro bh hg w3 hbox hb; have n0_ := Aq.mk (bS_ HB.out hb); have n1_ := Aq.mk (bB_ HX.out hb); have HH := Aq.mk hbox; have NE := Aq.mk (by rw [hg]; exact Nat.ne_of_lt (blk_lt HX.out) : bx ≠ bh); have GH := Aq.mk (by rw [hg]; exact HB.out.size : w.heap.size ≤ bh); have hnb := NE.out; have hnc := NE.out.symm; clear HB HX hb hbox hg hx0 hx1 hx2 hx3 hx4 hx5 hx6 hx7 hx8; have HB := n0_; have HX := n1_; clear n0_ n1_; obtain ⟨hx0, hx1, hx2, hx3, hx4, hx5, hx6, hx7, hx8⟩ := cz9 HX.out; obtain ⟨hh0, hh1, hh2, hf0, hf1, hf2⟩ := cf3 HH.out) | (go_at_call 63; go_must (have m0_ : (((w3.setCell ⟨bh, 0, none⟩ (.int .i64 X.f0)).setCell ⟨bh, 1, none⟩ (.int .i64 X.f1)).setCell ⟨bh, 2, none⟩ (.int .i64 X.f8)).heap[bx]? = some (.cells #[.int .i64 X.f0, .int .i64 X.f1, .int .i64 X.f2, .int .i64 X.f3, .int .i64 X.f4, .int .i64 X.f5, .int .i64 X.f6, .int .i64 X.f7, .int .i64 X.f8] 39 (0, 0)) := bF_ (p := ⟨bh, 2, none⟩) (bF_ (p := ⟨bh, 1, none⟩) (bF_ (p := ⟨bh, 0, none⟩) HX.out NE.out _) NE.out _) NE.out _; have m1_ : (((w3.setCell ⟨bh, 0, none⟩ (.int .i64 X.f0)).setCell ⟨bh, 1, none⟩ (.int .i64 X.f1)).setCell ⟨bh, 2, none⟩ (.int .i64 X.f8)).heap[bh]? = some (.cells #[.int .i64 X.f0, .int .i64 X.f1, .int .i64 X.f8] 143 (0, 0)) := bP_ (bP_ (bP_ HH.out 0 _ rfl) 1 _ rfl) 2 _ rfl; have m2_ : Below w.heap.size w (((w3.setCell ⟨bh, 0, none⟩ (.int .i64 X.f0)).setCell ⟨bh, 1, none⟩ (.int .i64 X.f1)).setCell ⟨bh, 2, none⟩ (.int .i64 X.f8)) := bT_ (bT_ (bT_ HB.out GH.out) GH.out) GH.out; clear HB HX HH hf0 hf1 hf2 hx0 hx1 hx2 hx3 hx4 hx5 hx6 hx7 hx8 hh0 hh1 hh2; generalize (((w3.setCell ⟨bh, 0, none⟩ (.int .i64 X.f0)).setCell ⟨bh, 1, none⟩ (.int .i64 X.f1)).setCell ⟨bh, 2, none⟩ (.int .i64 X.f8)) = w4 at m0_ m1_ m2_ ⊢; have HB := Aq.mk m2_; have HX := Aq.mk m0_; have HH := Aq.mk m1_; clear m0_ m1_ m2_; refine (checkSale_any X _).mono ?_; rintro e w5 ⟨he, hb⟩; rw [CK.out] at he; subst he; replace HB := Aq.mk (bS_ HB.out hb); replace HX := Aq.mk (bB_ HX.out hb); replace HH := Aq.mk (bB_ HH.out hb); clear hb; obtain ⟨hx0, hx1, hx2, hx3, hx4, hx5, hx6, hx7, hx8⟩ := cz9 HX.out; obtain ⟨hh0, hh1, hh2⟩ := cz3 HH.out)) | (go_at_call 129; (with_reducible refine (contains_Sale 153 #[.pointer (some ⟨bh, 0, none⟩)] (fun y => y.f0 == X.f0) _ c l _ eg0.out ?hp (Kd.C_below HR.out HB.out)).mono ?_); (case hp => exact fun W2 y _ hb2 => (same_sale y bh X.f0 X.f1 X.f8 W2 (bB_ HH.out hb2)).mono fun e W3 ⟨he, hw⟩ => ⟨he, bS_ hb2 hw⟩); rintro e w5b ⟨he, hb⟩; rw [S1.out] at he; subst he; replace HB := Aq.mk (bS_ HB.out hb); replace HX := Aq.mk (bB_ HX.out hb); replace HH := Aq.mk (bB_ HH.out hb); clear hb hx0 hx1 hx2 hx3 hx4 hx5 hx6 hx7 hx8 hh0 hh1 hh2; obtain ⟨hx0, hx1, hx2, hx3, hx4, hx5, hx6, hx7, hx8⟩ := cz9 HX.out; obtain ⟨hh0, hh1, hh2⟩ := cz3 HH.out))
 go_ret
 exact ⟨rfl, by repeat (first | exact HB.out | (refine bT_ ?_ GH.out))⟩
theorem kHFolS_1 {Q : Prop} (f : Q := by
 go_wp2_with (first | (go_at_call 129; (with_reducible refine (contains_Sale 154 #[.pointer (some ⟨bh, 0, none⟩)] (fun y => y.f0 == X.f8 && y.f8 == 0) _ c l _ eg1.out ?hp (Kd.C_below HR.out HB.out)).mono ?_); (case hp => exact fun W2 y _ hb2 => (named_sale y bh X.f0 X.f1 X.f8 W2 (bB_ HH.out hb2)).mono fun e W3 ⟨he, hw⟩ => ⟨he, bS_ hb2 hw⟩); rintro e w7 ⟨he, hb⟩; rw [S2.out] at he; subst he; replace HB := Aq.mk (bS_ HB.out hb); replace HX := Aq.mk (bB_ HX.out hb); replace HH := Aq.mk (bB_ HH.out hb); clear hb hx0 hx1 hx2 hx3 hx4 hx5 hx6 hx7 hx8 hh0 hh1 hh2; obtain ⟨hx0, hx1, hx2, hx3, hx4, hx5, hx6, hx7, hx8⟩ := cz9 HX.out; obtain ⟨hh0, hh1, hh2⟩ := cz3 HH.out) | (go_at_call 129; (with_reducible refine (contains_Sale 155 #[.pointer (some ⟨bh, 0, none⟩)] (fun y => y.f8 == X.f8) _ c l _ eg2.out ?hp (Kd.C_below HR.out HB.out)).mono ?_); (case hp => exact fun W2 y _ hb2 => (twice_sale y bh X.f0 X.f1 X.f8 W2 (bB_ HH.out hb2)).mono fun e W3 ⟨he, hw⟩ => ⟨he, bS_ hb2 hw⟩); rintro e w8 ⟨he, hb⟩; rw [S3.out] at he; subst he; replace HB := Aq.mk (bS_ HB.out hb); replace HX := Aq.mk (bB_ HX.out hb); replace HH := Aq.mk (bB_ HH.out hb); clear hb hx0 hx1 hx2 hx3 hx4 hx5 hx6 hx7 hx8 hh0 hh1 hh2; obtain ⟨hx0, hx1, hx2, hx3, hx4, hx5, hx6, hx7, hx8⟩ := cz9 HX.out; obtain ⟨hh0, hh1, hh2⟩ := cz3 HH.out))
 go_ret
 exact ⟨rfl, HB.out⟩) : Q := f
set_option maxRecDepth 100000 in
set_option maxHeartbeats 4000000 in
theorem follows_sale_rest (A : Option Addr) (c : Nat) (l : List S39) (X : S39) (w : World) (hr0 : Kd.C k39 w A l.length l) (h1 : ¬ 200 ≤ l.length) (CK : Aq (ckS X = 0)) (S1 : Aq ((l.any fun y => y.f0 == X.f0) = false)) (b z b2 b3 : Bool) (n0 : 0 < l.length) (LA : decide (X.f1 < (rd_T39 l ((l.length : Int) - 1)).f1) = b) (hof : (X.f8 == 0) = z) (S2 : Aq ((l.any fun y => y.f0 == X.f8 && y.f8 == 0) = b2)) (S3 : Aq ((l.any fun y => y.f8 == X.f8) = b3)) :
  Calls Tryz.prog 120 #[.slice A l.length c, .agg #[.int .i64 X.f0, .int .i64 X.f1, .int .i64 X.f2, .int .i64 X.f3, .int .i64 X.f4, .int .i64 X.f5, .int .i64 X.f6, .int .i64 X.f7, .int .i64 X.f8], .int .i64 200, .func (.func 63) #[] #[]] w fun e w' => e = .returned (.int .i64 (restV b z b2 b3)) ∧ Below w.heap.size w w' := by
 have hm : l.length ≤ 9223372036854775807 := hr0.2.1
 have HR := Aq.mk hr0
 clear hr0
 have hmf : ∀ (fn : Fn) (first cap : Array Value) (w : World), (Instr.makeFunc fn first cap).run Tryz.prog w = .ok (.func fn first cap) w := fun _ _ _ _ => rfl
 have hfd1 : ∀ (a b c : Int) (V : World), (Instr.field 143 (.agg #[.int .i64 a, .int .i64 b, .int .i64 c]) 1).run Tryz.prog V = .ok (.int .i64 b) V := fun _ _ _ _ => by rfl
 have HB := Aq.mk (Below.refl w.heap.size w)
 have eg0 : Aq (∀ args w, (callFunc 153 args).run Tryz.prog w = .ok (.enter 153 args) w) := ⟨enters_of Tryz.func153 (by kernel_rfl) rfl⟩
 have eg1 : Aq (∀ args w, (callFunc 154 args).run Tryz.prog w = .ok (.enter 154 args) w) := ⟨enters_of Tryz.func154 (by kernel_rfl) rfl⟩
 have eg2 : Aq (∀ args w, (callFunc 155 args).run Tryz.prog w = .ok (.enter 155 args) w) := ⟨enters_of Tryz.func155 (by kernel_rfl) rfl⟩
 have h1i : ¬ (200 : Int) ≤ (l.length : Int) := by omega
 have h1j : (l.length : Int) < 200 := by omega
 clear h1
 have n0i : (0 : Int) < (l.length : Int) := by omega
 have n0b : decide ((0 : Int) < (l.length : Int)) = true := decide_eq_true n0i
 have p0 : (0 : Int) ≤ (l.length : Int) - 1 := by omega
 have p1 : (l.length : Int) - 1 < (l.length : Int) := by omega
 have n1i : (1 : Int) ≤ (l.length : Int) := by omega
 have et : ((l.length : Int) - 1).toNat = l.length - 1 := by omega
 have pw : IntKind.i64.wrap ((l.length : Int) - 1) = (l.length : Int) - 1 := IntWalk.i64_in _ (by omega)
 obtain ⟨ad, e_, hl0, hl1, hl2, hl3, hl4, hl5, hl6, hl7, hl8⟩ := at_T39 HR.out ((l.length : Int) - 1) p0 p1
 cases e_
 rw [et] at hl0 hl1 hl2 hl3 hl4 hl5 hl6 hl7 hl8
 clear et
 generalize rd_T39 l ((l.length : Int) - 1) = Y at LA hl0 hl1 hl2 hl3 hl4 hl5 hl6 hl7 hl8
 go_enter Tryz.func120, Tryz.ntmps120
 go_wp2_with (first | ((with_reducible refine gD_ (N := 5) rfl ?_); refine bxE (N := 5) #[.int .i64 X.f0, .int .i64 X.f1, .int .i64 X.f2, .int .i64 X.f3, .int .i64 X.f4, .int .i64 X.f5, .int .i64 X.f6, .int .i64 X.f7, .int .i64 X.f8] 39 ?_; intro bx hg w1 hbox hb; have n0_ := Aq.mk (bS_ HB.out hb); have HX := Aq.mk hbox; clear HB hb hbox hg; have HB := n0_; clear n0_; obtain ⟨hx0, hx1, hx2, hx3, hx4, hx5, hx6, hx7, hx8⟩ := cz9 HX.out) | (go_at_call 128; go_must (refine (headB_sale X _).mono ?_; rintro e w2 ⟨rfl, hb⟩; replace HB := Aq.mk (bS_ HB.out hb); replace HX := Aq.mk (bB_ HX.out hb); clear hb hx0 hx1 hx2 hx3 hx4 hx5 hx6 hx7 hx8; obtain ⟨hx0, hx1, hx2, hx3, hx4, hx5, hx6, hx7, hx8⟩ := cz9 HX.out)) | ((with_reducible refine gD_ (N := 9) rfl ?_); refine bxE (N := 9) #[.int .i64 0, .int .i64 0, .int .i64 0] 143 ?_; intro bh hg w3 hbox hb; have n0_ := Aq.mk (bS_ HB.out hb); have n1_ := Aq.mk (bB_ HX.out hb); have HH := Aq.mk hbox; have NE := Aq.mk (by rw [hg]; exact Nat.ne_of_lt (blk_lt HX.out) : bx ≠ bh); have GH := Aq.mk (by rw [hg]; exact HB.out.size : w.heap.size ≤ bh); have hnb := NE.out; have hnc := NE.out.symm; clear HB HX hb hbox hg hx0 hx1 hx2 hx3 hx4 hx5 hx6 hx7 hx8; have HB := n0_; have HX := n1_; clear n0_ n1_; obtain ⟨hx0, hx1, hx2, hx3, hx4, hx5, hx6, hx7, hx8⟩ := cz9 HX.out; obtain ⟨hh0, hh1, hh2, hf0, hf1, hf2⟩ := cf3 HH.out) | (go_at_call 63; go_must (have m0_ : (((w3.setCell ⟨bh, 0, none⟩ (.int .i64 X.f0)).setCell ⟨bh, 1, none⟩ (.int .i64 X.f1)).setCell ⟨bh, 2, none⟩ (.int .i64 X.f8)).heap[bx]? = some (.cells #[.int .i64 X.f0, .int .i64 X.f1, .int .i64 X.f2, .int .i64 X.f3, .int .i64 X.f4, .int .i64 X.f5, .int .i64 X.f6, .int .i64 X.f7, .int .i64 X.f8] 39 (0, 0)) := bF_ (p := ⟨bh, 2, none⟩) (bF_ (p := ⟨bh, 1, none⟩) (bF_ (p := ⟨bh, 0, none⟩) HX.out NE.out _) NE.out _) NE.out _; have m1_ : (((w3.setCell ⟨bh, 0, none⟩ (.int .i64 X.f0)).setCell ⟨bh, 1, none⟩ (.int .i64 X.f1)).setCell ⟨bh, 2, none⟩ (.int .i64 X.f8)).heap[bh]? = some (.cells #[.int .i64 X.f0, .int .i64 X.f1, .int .i64 X.f8] 143 (0, 0)) := bP_ (bP_ (bP_ HH.out 0 _ rfl) 1 _ rfl) 2 _ rfl; have m2_ : Below w.heap.size w (((w3.setCell ⟨bh, 0, none⟩ (.int .i64 X.f0)).setCell ⟨bh, 1, none⟩ (.int .i64 X.f1)).setCell ⟨bh, 2, none⟩ (.int .i64 X.f8)) := bT_ (bT_ (bT_ HB.out GH.out) GH.out) GH.out; clear HB HX HH hf0 hf1 hf2 hx0 hx1 hx2 hx3 hx4 hx5 hx6 hx7 hx8 hh0 hh1 hh2; generalize (((w3.setCell ⟨bh, 0, none⟩ (.int .i64 X.f0)).setCell ⟨bh, 1, none⟩ (.int .i64 X.f1)).setCell ⟨bh, 2, none⟩ (.int .i64 X.f8)) = w4 at m0_ m1_ m2_ ⊢; have HB := Aq.mk m2_; have HX := Aq.mk m0_; have HH := Aq.mk m1_; clear m0_ m1_ m2_; refine (checkSale_any X _).mono ?_; rintro e w5 ⟨he, hb⟩; rw [CK.out] at he; subst he; replace HB := Aq.mk (bS_ HB.out hb); replace HX := Aq.mk (bB_ HX.out hb); replace HH := Aq.mk (bB_ HH.out hb); clear hb; obtain ⟨hx0, hx1, hx2, hx3, hx4, hx5, hx6, hx7, hx8⟩ := cz9 HX.out; obtain ⟨hh0, hh1, hh2⟩ := cz3 HH.out)) | (go_at_call 129; (with_reducible refine (contains_Sale 153 #[.pointer (some ⟨bh, 0, none⟩)] (fun y => y.f0 == X.f0) _ c l _ eg0.out ?hp (Kd.C_below HR.out HB.out)).mono ?_); (case hp => exact fun W2 y _ hb2 => (same_sale y bh X.f0 X.f1 X.f8 W2 (bB_ HH.out hb2)).mono fun e W3 ⟨he, hw⟩ => ⟨he, bS_ hb2 hw⟩); rintro e w5b ⟨he, hb⟩; rw [S1.out] at he; subst he; replace HB := Aq.mk (bS_ HB.out hb); replace HX := Aq.mk (bB_ HX.out hb); replace HH := Aq.mk (bB_ HH.out hb); clear hb hx0 hx1 hx2 hx3 hx4 hx5 hx6 hx7 hx8 hh0 hh1 hh2; obtain ⟨hx0, hx1, hx2, hx3, hx4, hx5, hx6, hx7, hx8⟩ := cz9 HX.out; obtain ⟨hh0, hh1, hh2⟩ := cz3 HH.out))
 refine stT 17 (fun w' => w'.cell? ⟨bh, 1, none⟩ = some (.int .i64 X.f1) ∧ w'.cell? (ad.add ((l.length - 1) * 9)) = some (.int .i64 Y.f0) ∧ w'.cell? ⟨(ad.add ((l.length - 1) * 9)).block, (ad.add ((l.length - 1) * 9)).off + 1, none⟩ = some (.int .i64 Y.f1) ∧ w'.cell? ⟨(ad.add ((l.length - 1) * 9)).block, (ad.add ((l.length - 1) * 9)).off + 2, none⟩ = some (.int .i64 Y.f2) ∧ w'.cell? ⟨(ad.add ((l.length - 1) * 9)).block, (ad.add ((l.length - 1) * 9)).off + 3, none⟩ = some (.int .i64 Y.f3) ∧ w'.cell? ⟨(ad.add ((l.length - 1) * 9)).block, (ad.add ((l.length - 1) * 9)).off + 4, none⟩ = some (.int .i64 Y.f4) ∧ w'.cell? ⟨(ad.add ((l.length - 1) * 9)).block, (ad.add ((l.length - 1) * 9)).off + 5, none⟩ = some (.int .i64 Y.f5) ∧ w'.cell? ⟨(ad.add ((l.length - 1) * 9)).block, (ad.add ((l.length - 1) * 9)).off + 6, none⟩ = some (.int .i64 Y.f6) ∧ w'.cell? ⟨(ad.add ((l.length - 1) * 9)).block, (ad.add ((l.length - 1) * 9)).off + 7, none⟩ = some (.int .i64 Y.f7) ∧ w'.cell? ⟨(ad.add ((l.length - 1) * 9)).block, (ad.add ((l.length - 1) * 9)).off + 8, none⟩ = some (.int .i64 Y.f8)) ⟨(bC_ (bD_ HH.out) 1).trans rfl, pC_ (bE_ HB.out) hl0, pC_ (bE_ HB.out) hl1, pC_ (bE_ HB.out) hl2, pC_ (bE_ HB.out) hl3, pC_ (bE_ HB.out) hl4, pC_ (bE_ HB.out) hl5, pC_ (bE_ HB.out) hl6, pC_ (bE_ HB.out) hl7, pC_ (bE_ HB.out) hl8⟩ (fun hHeld => ?_)
 replace HB := Aq.mk (bE_ HB.out)
 replace HX := Aq.mk (bD_ HX.out)
 replace HH := Aq.mk (bD_ HH.out)
 clear hx0 hx1 hx2 hx3 hx4 hx5 hx6 hx7 hx8
 clear hh0 hh1 hh2
 generalize w5b.drew = w6 at HB HX HH hHeld ⊢
 refine pI 0 27 ?_
 refine pI 1 28 ?_
 refine pI 2 29 ?_
 refine pI 3 30 ?_
 refine pI 4 31 ?_
 refine pI 6 33 ?_
 refine pI 7 34 ?_
 refine pI 8 35 ?_
 refine pI 9 36 ?_
 refine pI 10 37 ?_
 refine tI 5 32 hHeld ?_
 refine tI 11 38 hHeld ?_
 refine one_ (i := 12) (N := some 39) #[true, true, true, true, true, true, true, true, true, true, true, true, true, false, false, false, false] rfl rfl (by kernel_rfl) (by decide) (fun K hK => ?_)
 refine goes_ Tryz.func128 (by kernel_rfl) rfl #[.agg #[.int .i64 Y.f0, .int .i64 Y.f1, .int .i64 Y.f2, .int .i64 Y.f3, .int .i64 Y.f4, .int .i64 Y.f5, .int .i64 Y.f6, .int .i64 Y.f7, .int .i64 Y.f8]] (by rfl) rfl rfl (by simp only [List.map_toArray, List.map_cons, List.map_nil]; rfl) ?_
 with_reducible refine (headB_sale Y _).mono ?_
 rintro e wr ⟨rfl, hb⟩
 refine ⟨_, rfl, ?_⟩
 replace HB := Aq.mk (bS_ HB.out hb)
 replace HX := Aq.mk (bB_ HX.out hb)
 replace HH := Aq.mk (bB_ HH.out hb)
 refine hK.out _ _ (hh hb hHeld) (fun hHeld => ?_)
 clear hK K
 refine nM 39 ?_
 refine pI 13 40 ?_
 refine pI 14 41 ?_
 refine pI 15 42 ?_
 refine pI 16 26 ?_
 refine done_ (by kernel_rfl) ?_
 obtain ⟨hx0, hx1, hx2, hx3, hx4, hx5, hx6, hx7, hx8⟩ := cz9 HX.out
 obtain ⟨hh0, hh1, hh2⟩ := cz3 HH.out
 cases b with
 | true =>
  go_wp2
  go_ret
  exact ⟨rfl, HB.out⟩
 | false =>
 cases z with
 | true =>
  go_wp2
  go_ret
  exact ⟨rfl, HB.out⟩
 | false =>
 cases b2 with
 | false =>
  exact kHFolS_1
 | true =>
 cases b3 with
 | true =>
  exact kHFolS_1
 | false =>
  exact kHFolS_1
theorem kHFolS_2 {Q : Prop} (f : Q := by
 go_wp2_with (first | (go_at_call 129; (with_reducible refine (contains_Sale 154 #[.pointer (some ⟨bh, 0, none⟩)] (fun y => y.f0 == X.f8 && y.f8 == 0) _ c l _ eg1.out ?hp (Kd.C_below HR.out HB.out)).mono ?_); (case hp => exact fun W2 y _ hb2 => (named_sale y bh X.f0 X.f1 X.f8 W2 (bB_ HH.out hb2)).mono fun e W3 ⟨he, hw⟩ => ⟨he, bS_ hb2 hw⟩); rintro e w7 ⟨he, hb⟩; rw [S2.out] at he; subst he; replace HB := Aq.mk (bS_ HB.out hb); replace HX := Aq.mk (bB_ HX.out hb); replace HH := Aq.mk (bB_ HH.out hb); clear hb hx0 hx1 hx2 hx3 hx4 hx5 hx6 hx7 hx8 hh0 hh1 hh2; obtain ⟨hx0, hx1, hx2, hx3, hx4, hx5, hx6, hx7, hx8⟩ := cz9 HX.out; obtain ⟨hh0, hh1, hh2⟩ := cz3 HH.out) | (go_at_call 129; (with_reducible refine (contains_Sale 155 #[.pointer (some ⟨bh, 0, none⟩)] (fun y => y.f8 == X.f8) _ c l _ eg2.out ?hp (Kd.C_below HR.out HB.out)).mono ?_); (case hp => exact fun W2 y _ hb2 => (twice_sale y bh X.f0 X.f1 X.f8 W2 (bB_ HH.out hb2)).mono fun e W3 ⟨he, hw⟩ => ⟨he, bS_ hb2 hw⟩); rintro e w8 ⟨he, hb⟩; rw [S3.out] at he; subst he; replace HB := Aq.mk (bS_ HB.out hb); replace HX := Aq.mk (bB_ HX.out hb); replace HH := Aq.mk (bB_ HH.out hb); clear hb hx0 hx1 hx2 hx3 hx4 hx5 hx6 hx7 hx8 hh0 hh1 hh2; obtain ⟨hx0, hx1, hx2, hx3, hx4, hx5, hx6, hx7, hx8⟩ := cz9 HX.out; obtain ⟨hh0, hh1, hh2⟩ := cz3 HH.out))
 go_ret
 exact ⟨rfl, HB.out⟩) : Q := f
set_option maxRecDepth 100000 in
set_option maxHeartbeats 4000000 in
theorem follows_sale_rest0 (A : Option Addr) (c : Nat) (l : List S39) (X : S39) (w : World) (hr0 : Kd.C k39 w A l.length l) (h1 : ¬ 200 ≤ l.length) (CK : Aq (ckS X = 0)) (S1 : Aq ((l.any fun y => y.f0 == X.f0) = false)) (z b2 b3 : Bool) (n0 : l.length = 0) (hof : (X.f8 == 0) = z) (S2 : Aq ((l.any fun y => y.f0 == X.f8 && y.f8 == 0) = b2)) (S3 : Aq ((l.any fun y => y.f8 == X.f8) = b3)) :
  Calls Tryz.prog 120 #[.slice A l.length c, .agg #[.int .i64 X.f0, .int .i64 X.f1, .int .i64 X.f2, .int .i64 X.f3, .int .i64 X.f4, .int .i64 X.f5, .int .i64 X.f6, .int .i64 X.f7, .int .i64 X.f8], .int .i64 200, .func (.func 63) #[] #[]] w fun e w' => e = .returned (.int .i64 (restV false z b2 b3)) ∧ Below w.heap.size w w' := by
 have hm : l.length ≤ 9223372036854775807 := hr0.2.1
 have HR := Aq.mk hr0
 clear hr0
 have hmf : ∀ (fn : Fn) (first cap : Array Value) (w : World), (Instr.makeFunc fn first cap).run Tryz.prog w = .ok (.func fn first cap) w := fun _ _ _ _ => rfl
 have hfd1 : ∀ (a b c : Int) (V : World), (Instr.field 143 (.agg #[.int .i64 a, .int .i64 b, .int .i64 c]) 1).run Tryz.prog V = .ok (.int .i64 b) V := fun _ _ _ _ => by rfl
 have HB := Aq.mk (Below.refl w.heap.size w)
 have eg0 : Aq (∀ args w, (callFunc 153 args).run Tryz.prog w = .ok (.enter 153 args) w) := ⟨enters_of Tryz.func153 (by kernel_rfl) rfl⟩
 have eg1 : Aq (∀ args w, (callFunc 154 args).run Tryz.prog w = .ok (.enter 154 args) w) := ⟨enters_of Tryz.func154 (by kernel_rfl) rfl⟩
 have eg2 : Aq (∀ args w, (callFunc 155 args).run Tryz.prog w = .ok (.enter 155 args) w) := ⟨enters_of Tryz.func155 (by kernel_rfl) rfl⟩
 have h1i : ¬ (200 : Int) ≤ (l.length : Int) := by omega
 have h1j : (l.length : Int) < 200 := by omega
 clear h1
 have n0c : decide (0 < l.length) = false := by simp [n0]
 have n0b : decide ((0 : Int) < (l.length : Int)) = false := by simp [n0]
 have n0i : ¬ (0 : Int) < (l.length : Int) := by omega
 clear n0
 go_enter Tryz.func120, Tryz.ntmps120
 go_wp2_with (first | ((with_reducible refine gD_ (N := 5) rfl ?_); refine bxE (N := 5) #[.int .i64 X.f0, .int .i64 X.f1, .int .i64 X.f2, .int .i64 X.f3, .int .i64 X.f4, .int .i64 X.f5, .int .i64 X.f6, .int .i64 X.f7, .int .i64 X.f8] 39 ?_; intro bx hg w1 hbox hb; have n0_ := Aq.mk (bS_ HB.out hb); have HX := Aq.mk hbox; clear HB hb hbox hg; have HB := n0_; clear n0_; obtain ⟨hx0, hx1, hx2, hx3, hx4, hx5, hx6, hx7, hx8⟩ := cz9 HX.out) | (go_at_call 128; go_must (refine (headB_sale X _).mono ?_; rintro e w2 ⟨rfl, hb⟩; replace HB := Aq.mk (bS_ HB.out hb); replace HX := Aq.mk (bB_ HX.out hb); clear hb hx0 hx1 hx2 hx3 hx4 hx5 hx6 hx7 hx8; obtain ⟨hx0, hx1, hx2, hx3, hx4, hx5, hx6, hx7, hx8⟩ := cz9 HX.out)) | ((with_reducible refine gD_ (N := 9) rfl ?_); refine bxE (N := 9) #[.int .i64 0, .int .i64 0, .int .i64 0] 143 ?_; intro bh hg w3 hbox hb; have n0_ := Aq.mk (bS_ HB.out hb); have n1_ := Aq.mk (bB_ HX.out hb); have HH := Aq.mk hbox; have NE := Aq.mk (by rw [hg]; exact Nat.ne_of_lt (blk_lt HX.out) : bx ≠ bh); have GH := Aq.mk (by rw [hg]; exact HB.out.size : w.heap.size ≤ bh); have hnb := NE.out; have hnc := NE.out.symm; clear HB HX hb hbox hg hx0 hx1 hx2 hx3 hx4 hx5 hx6 hx7 hx8; have HB := n0_; have HX := n1_; clear n0_ n1_; obtain ⟨hx0, hx1, hx2, hx3, hx4, hx5, hx6, hx7, hx8⟩ := cz9 HX.out; obtain ⟨hh0, hh1, hh2, hf0, hf1, hf2⟩ := cf3 HH.out) | (go_at_call 63; go_must (have m0_ : (((w3.setCell ⟨bh, 0, none⟩ (.int .i64 X.f0)).setCell ⟨bh, 1, none⟩ (.int .i64 X.f1)).setCell ⟨bh, 2, none⟩ (.int .i64 X.f8)).heap[bx]? = some (.cells #[.int .i64 X.f0, .int .i64 X.f1, .int .i64 X.f2, .int .i64 X.f3, .int .i64 X.f4, .int .i64 X.f5, .int .i64 X.f6, .int .i64 X.f7, .int .i64 X.f8] 39 (0, 0)) := bF_ (p := ⟨bh, 2, none⟩) (bF_ (p := ⟨bh, 1, none⟩) (bF_ (p := ⟨bh, 0, none⟩) HX.out NE.out _) NE.out _) NE.out _; have m1_ : (((w3.setCell ⟨bh, 0, none⟩ (.int .i64 X.f0)).setCell ⟨bh, 1, none⟩ (.int .i64 X.f1)).setCell ⟨bh, 2, none⟩ (.int .i64 X.f8)).heap[bh]? = some (.cells #[.int .i64 X.f0, .int .i64 X.f1, .int .i64 X.f8] 143 (0, 0)) := bP_ (bP_ (bP_ HH.out 0 _ rfl) 1 _ rfl) 2 _ rfl; have m2_ : Below w.heap.size w (((w3.setCell ⟨bh, 0, none⟩ (.int .i64 X.f0)).setCell ⟨bh, 1, none⟩ (.int .i64 X.f1)).setCell ⟨bh, 2, none⟩ (.int .i64 X.f8)) := bT_ (bT_ (bT_ HB.out GH.out) GH.out) GH.out; clear HB HX HH hf0 hf1 hf2 hx0 hx1 hx2 hx3 hx4 hx5 hx6 hx7 hx8 hh0 hh1 hh2; generalize (((w3.setCell ⟨bh, 0, none⟩ (.int .i64 X.f0)).setCell ⟨bh, 1, none⟩ (.int .i64 X.f1)).setCell ⟨bh, 2, none⟩ (.int .i64 X.f8)) = w4 at m0_ m1_ m2_ ⊢; have HB := Aq.mk m2_; have HX := Aq.mk m0_; have HH := Aq.mk m1_; clear m0_ m1_ m2_; refine (checkSale_any X _).mono ?_; rintro e w5 ⟨he, hb⟩; rw [CK.out] at he; subst he; replace HB := Aq.mk (bS_ HB.out hb); replace HX := Aq.mk (bB_ HX.out hb); replace HH := Aq.mk (bB_ HH.out hb); clear hb; obtain ⟨hx0, hx1, hx2, hx3, hx4, hx5, hx6, hx7, hx8⟩ := cz9 HX.out; obtain ⟨hh0, hh1, hh2⟩ := cz3 HH.out)) | (go_at_call 129; (with_reducible refine (contains_Sale 153 #[.pointer (some ⟨bh, 0, none⟩)] (fun y => y.f0 == X.f0) _ c l _ eg0.out ?hp (Kd.C_below HR.out HB.out)).mono ?_); (case hp => exact fun W2 y _ hb2 => (same_sale y bh X.f0 X.f1 X.f8 W2 (bB_ HH.out hb2)).mono fun e W3 ⟨he, hw⟩ => ⟨he, bS_ hb2 hw⟩); rintro e w5b ⟨he, hb⟩; rw [S1.out] at he; subst he; replace HB := Aq.mk (bS_ HB.out hb); replace HX := Aq.mk (bB_ HX.out hb); replace HH := Aq.mk (bB_ HH.out hb); clear hb hx0 hx1 hx2 hx3 hx4 hx5 hx6 hx7 hx8 hh0 hh1 hh2; obtain ⟨hx0, hx1, hx2, hx3, hx4, hx5, hx6, hx7, hx8⟩ := cz9 HX.out; obtain ⟨hh0, hh1, hh2⟩ := cz3 HH.out))
 refine stT 17 (fun w' => w'.cell? ⟨bh, 1, none⟩ = some (.int .i64 X.f1)) ((bC_ (bD_ HH.out) 1).trans rfl) (fun hHeld => ?_)
 replace HB := Aq.mk (bE_ HB.out)
 replace HX := Aq.mk (bD_ HX.out)
 replace HH := Aq.mk (bD_ HH.out)
 clear hx0 hx1 hx2 hx3 hx4 hx5 hx6 hx7 hx8
 clear hh0 hh1 hh2
 generalize w5b.drew = w6 at HB HX HH hHeld ⊢
 refine pI 0 27 ?_
 refine pI 1 28 ?_
 refine pI 2 29 ?_
 refine pI 3 30 ?_
 refine pO 4 31 ?_
 refine pO 5 32 ?_
 refine pO 6 33 ?_
 refine pO 7 34 ?_
 refine pO 8 35 ?_
 refine pO 9 36 ?_
 refine pO 10 37 ?_
 refine pO 11 38 ?_
 refine pO 12 39 ?_
 refine pO 13 40 ?_
 refine pO 14 41 ?_
 refine pI 15 42 ?_
 refine pI 16 26 ?_
 refine done_ (by kernel_rfl) ?_
 obtain ⟨hx0, hx1, hx2, hx3, hx4, hx5, hx6, hx7, hx8⟩ := cz9 HX.out
 obtain ⟨hh0, hh1, hh2⟩ := cz3 HH.out
 cases z with
 | true =>
  go_wp2
  go_ret
  exact ⟨rfl, HB.out⟩
 | false =>
 cases b2 with
 | false =>
  exact kHFolS_2
 | true =>
 cases b3 with
 | true =>
  exact kHFolS_2
 | false =>
  exact kHFolS_2
theorem follows_sale_any (A : Option Addr) (c : Nat) (l : List S39) (X : S39) (w : World) (hr0 : Kd.C k39 w A l.length l) :
  Calls Tryz.prog 120 #[.slice A l.length c, .agg #[.int .i64 X.f0, .int .i64 X.f1, .int .i64 X.f2, .int .i64 X.f3, .int .i64 X.f4, .int .i64 X.f5, .int .i64 X.f6, .int .i64 X.f7, .int .i64 X.f8], .int .i64 200, .func (.func 63) #[] #[]] w fun e w' => e = .returned (.int .i64 (followsS l X)) ∧ Below w.heap.size w w' := by
 by_cases h1 : 200 ≤ l.length
 ·rw [show followsS l X = 2 by unfold followsS; rw [if_pos h1]]
  exact follows_sale_full A c l X w hr0 h1
 by_cases hck : ckS X = 0
 ·cases s1 : (l.any fun y => y.f0 == X.f0) with
  | true =>
   rw [show followsS l X = 6 by unfold followsS; rw [if_neg h1, if_neg (by simp [hck]), if_pos s1]]
   exact follows_sale_same A c l X w hr0 h1 ⟨hck⟩ ⟨s1⟩
  | false =>
   have base : followsS l X = (if lateS l X then 7 else if X.f8 = 0 then 0 else if l.any (fun y => y.f0 == X.f8 && y.f8 == 0) then (if l.any (fun y => y.f8 == X.f8) then 6 else 0) else 5) := by
    unfold followsS
    rw [if_neg h1, if_neg (by simp [hck]), if_neg (by simp [s1])]
   rw [base]
   have hv : (if lateS l X then (7 : Int) else if X.f8 = 0 then 0 else if l.any (fun y => y.f0 == X.f8 && y.f8 == 0) then (if l.any (fun y => y.f8 == X.f8) then 6 else 0) else 5) = restV (lateS l X) (X.f8 == 0) (l.any fun y => y.f0 == X.f8 && y.f8 == 0) (l.any fun y => y.f8 == X.f8) := by
    unfold restV
    by_cases hof : X.f8 = 0 <;> simp [hof]
   rw [hv]
   by_cases h0 : 0 < l.length
   ·have hl : lateS l X = decide (X.f1 < (rd_T39 l ((l.length : Int) - 1)).f1) := by unfold lateS; simp [h0]
    rw [hl]
    exact follows_sale_rest A c l X w hr0 h1 ⟨hck⟩ ⟨s1⟩ _ _ _ _ h0 rfl rfl ⟨rfl⟩ ⟨rfl⟩
   ·have hl : lateS l X = false := by unfold lateS; simp [h0]
    rw [hl]
    exact follows_sale_rest0 A c l X w hr0 h1 ⟨hck⟩ ⟨s1⟩ _ _ _ (by omega) rfl ⟨rfl⟩ ⟨rfl⟩
 ·rw [show followsS l X = 1 by unfold followsS; rw [if_neg h1, if_pos hck]]
  exact follows_sale_form A c l X w hr0 h1 _ ⟨rfl⟩ (bne_iff_ne.mpr hck)
def award_followsSale.f (l0 : List S39) (a1_0 : Int) (a1_1 : Int) (a1_2 : Int) (a1_3 : Int) (a1_4 : Int) (a1_5 : Int) (a1_6 : Int) (a1_7 : Int) (a1_8 : Int) : Option Int := some (followsS l0 (⟨a1_0, a1_1, a1_2, a1_3, a1_4, a1_5, a1_6, a1_7, a1_8⟩ : S39))
theorem award_followsSale.calls (A0 : Option Addr) (c0 : Nat) (l0 : List S39) (a1_0 : Int) (a1_1 : Int) (a1_2 : Int) (a1_3 : Int) (a1_4 : Int) (a1_5 : Int) (a1_6 : Int) (a1_7 : Int) (a1_8 : Int) (r : Int) (w : World) (hr0 : Kd.C k39 w A0 l0.length l0) (hc0 : l0.length ≤ c0) (h : award_followsSale.f l0 a1_0 a1_1 a1_2 a1_3 a1_4 a1_5 a1_6 a1_7 a1_8 = some r) :
  Calls Tryz.prog 120 #[.slice A0 l0.length c0, .agg #[.int .i64 a1_0, .int .i64 a1_1, .int .i64 a1_2, .int .i64 a1_3, .int .i64 a1_4, .int .i64 a1_5, .int .i64 a1_6, .int .i64 a1_7, .int .i64 a1_8], .int .i64 200, .func (.func 63) #[] #[]] w fun e w' => e = .returned (.int .i64 r) ∧ Below w.heap.size w w' := by
 obtain rfl := Option.some.inj h
 exact follows_sale_any A0 c0 l0 (⟨a1_0, a1_1, a1_2, a1_3, a1_4, a1_5, a1_6, a1_7, a1_8⟩ : S39) w hr0
end
section
attribute [local go_sem] max2_int min2_int max_two min_two max_three min_three max_four min_four
def award_sells.f (l0 : List (S39)) (a1_0 : Int) (a1_1 : Int) (a1_2 : Int) (a1_3 : Int) (a1_4 : Int) (a1_5 : Int) (a1_6 : Int) (a1_7 : Int) (a1_8 : Int) : Option (Int) := (award_followsSale.f l0 a1_0 a1_1 a1_2 a1_3 a1_4 a1_5 a1_6 a1_7 a1_8).bind fun t1175 => (if t1175 = 0 then ((award_sold.f l0 a1_3 a1_1).bind fun bt1176 => (if bt1176.2.2.2.2.2.2.2.2.2 = true then (if a1_8 = 0 then (some 61) else (some 0)) else (some 0))) else (some t1175))
set_option maxHeartbeats 8000000 in
set_option maxRecDepth 100000 in
theorem award_sells.calls (A0 : Option Addr) (c0 : Nat) (l0 : List (S39)) (a1_0 : Int) (a1_1 : Int) (a1_2 : Int) (a1_3 : Int) (a1_4 : Int) (a1_5 : Int) (a1_6 : Int) (a1_7 : Int) (a1_8 : Int) (r : Int) (w : World) (hr0 : Kd.C k39 w A0 l0.length l0) (hc0 : l0.length ≤ c0) (h : award_sells.f l0 a1_0 a1_1 a1_2 a1_3 a1_4 a1_5 a1_6 a1_7 a1_8 = some r) :
  Calls Tryz.prog 74 #[.slice A0 l0.length c0, .agg #[.int .i64 a1_0, .int .i64 a1_1, .int .i64 a1_2, .int .i64 a1_3, .int .i64 a1_4, .int .i64 a1_5, .int .i64 a1_6, .int .i64 a1_7, .int .i64 a1_8]] w fun e w' => e = .returned (.int .i64 r) ∧ Below w.heap.size w w' := by
 have hu39 := Tryz.underlying39
 have HR0 := Aq.mk hr0
 have HC0 := Aq.mk hc0
 clear hr0 hc0
 have HB := Aq.mk (Below.refl w.heap.size w)
 have H : ((award_followsSale.f l0 a1_0 a1_1 a1_2 a1_3 a1_4 a1_5 a1_6 a1_7 a1_8).bind fun t1175 => (if t1175 = 0 then ((award_sold.f l0 a1_3 a1_1).bind fun bt1176 => (if bt1176.2.2.2.2.2.2.2.2.2 = true then (if a1_8 = 0 then (some 61) else (some 0)) else (some 0))) else (some t1175))) = some r := h
 clear h
 replace H := oB H; obtain ⟨t1175, A3, H⟩ := H
 replace H := oI H; rcases H with ⟨c4, H⟩ | ⟨c4, H⟩
 ·have c4b0 := bT c4
  have c4b1 := bN c4
  clear c4
  replace H := oB H; obtain ⟨⟨t1176, t1177, t1178, t1179, t1180, t1181, t1182, t1183, t1184, t1185⟩, A5, H⟩ := H
  dsimp only at H
  replace H := oT H; rcases H with ⟨rfl, H⟩ | ⟨rfl, H⟩
  ·replace H := oI H; rcases H with ⟨c7, H⟩ | ⟨c7, H⟩
   ·have c7b0 := bT c7
    have c7b1 := bN c7
    clear c7
    obtain rfl := Option.some.inj H
    go_enter Tryz.func74, Tryz.ntmps74
    go_wp2_with (first | ((with_reducible refine gD_ (N := 3) rfl ?_); refine bxE (N := 3) #[.int .i64 a1_0, .int .i64 a1_1, .int .i64 a1_2, .int .i64 a1_3, .int .i64 a1_4, .int .i64 a1_5, .int .i64 a1_6, .int .i64 a1_7, .int .i64 a1_8] 39 ?_; intro gb1174 hg w8 hbox hb; have BK1174 := Aq.mk hbox; have GW1174 := yS HB hg; have GE1174 := yS HB hg; replace HB := yB HB hb; clear hb hbox hg; obtain ⟨hcz9_0, hcz9_1, hcz9_2, hcz9_3, hcz9_4, hcz9_5, hcz9_6, hcz9_7, hcz9_8, hfz9_0, hfz9_1, hfz9_2, hfz9_3, hfz9_4, hfz9_5, hfz9_6, hfz9_7, hfz9_8⟩ := cf9 BK1174.out) | ((with_reducible refine gD_ (N := 10) rfl ?_); refine gX 10 rfl #[.slice A0 l0.length c0, .agg #[.int .i64 a1_0, .int .i64 a1_1, .int .i64 a1_2, .int .i64 a1_3, .int .i64 a1_4, .int .i64 a1_5, .int .i64 a1_6, .int .i64 a1_7, .int .i64 a1_8], .int .i64 200, .func (.func 63) #[] #[]] (award_followsSale.calls _ _ l0 a1_0 a1_1 a1_2 a1_3 a1_4 a1_5 a1_6 a1_7 a1_8 t1175 _ (yC HR0 HB) HC0.out A3.out) ?_; intro w10 hb; replace BK1174 := Aq.mk (bB_ (g := gb1174) (o := .cells #[.int .i64 a1_0, .int .i64 a1_1, .int .i64 a1_2, .int .i64 a1_3, .int .i64 a1_4, .int .i64 a1_5, .int .i64 a1_6, .int .i64 a1_7, .int .i64 a1_8] 39 (0, 0)) (sK BK1174.out) hb); replace HB := yB HB hb; try clear hb; obtain ⟨hcz11_0, hcz11_1, hcz11_2, hcz11_3, hcz11_4, hcz11_5, hcz11_6, hcz11_7, hcz11_8, hfz11_0, hfz11_1, hfz11_2, hfz11_3, hfz11_4, hfz11_5, hfz11_6, hfz11_7, hfz11_8⟩ := cf9 BK1174.out) | ((with_reducible refine gD_ (N := 20) rfl ?_); refine gX 20 rfl #[.slice A0 l0.length c0, .int .i64 a1_3, .int .i64 a1_1] (award_sold.calls _ _ l0 a1_3 a1_1 t1176 t1177 t1178 t1179 t1180 t1181 t1182 t1183 t1184 true _ (yC HR0 HB) HC0.out A5.out) ?_; intro w12 hb; replace BK1174 := Aq.mk (bB_ (g := gb1174) (o := .cells #[.int .i64 a1_0, .int .i64 a1_1, .int .i64 a1_2, .int .i64 a1_3, .int .i64 a1_4, .int .i64 a1_5, .int .i64 a1_6, .int .i64 a1_7, .int .i64 a1_8] 39 (0, 0)) (sK BK1174.out) hb); replace HB := yB HB hb; try clear hb) | ((with_reducible refine gD_ (N := 6) rfl ?_); refine bxE (N := 6) #[.int .i64 0, .int .i64 0, .int .i64 0, .int .i64 0, .int .i64 0, .int .i64 0, .int .i64 0, .int .i64 0, .int .i64 0] 39 ?_; intro gb1186 hg w13 hbox hb; have BK1186 := Aq.mk hbox; have GW1186 := yS HB hg; have GE1186 := yS HB hg; have NB1174_1186 := Aq.mk ((by rw [hg]; exact Nat.ne_of_lt (blk_lt (g := gb1174) (o := .cells #[.int .i64 a1_0, .int .i64 a1_1, .int .i64 a1_2, .int .i64 a1_3, .int .i64 a1_4, .int .i64 a1_5, .int .i64 a1_6, .int .i64 a1_7, .int .i64 a1_8] 39 (0, 0)) (sK BK1174.out)) : gb1174 ≠ gb1186)); have NB1186_1174 := Aq.mk ((by rw [hg]; exact Nat.ne_of_gt (blk_lt (g := gb1174) (o := .cells #[.int .i64 a1_0, .int .i64 a1_1, .int .i64 a1_2, .int .i64 a1_3, .int .i64 a1_4, .int .i64 a1_5, .int .i64 a1_6, .int .i64 a1_7, .int .i64 a1_8] 39 (0, 0)) (sK BK1174.out)) : gb1186 ≠ gb1174)); replace BK1174 := Aq.mk (bB_ (g := gb1174) (o := .cells #[.int .i64 a1_0, .int .i64 a1_1, .int .i64 a1_2, .int .i64 a1_3, .int .i64 a1_4, .int .i64 a1_5, .int .i64 a1_6, .int .i64 a1_7, .int .i64 a1_8] 39 (0, 0)) (sK BK1174.out) hb); replace HB := yB HB hb; clear hb hbox hg; have hnb14 := NB1186_1174.out; have hnc14 := NB1174_1186.out; obtain ⟨hcz15_0, hcz15_1, hcz15_2, hcz15_3, hcz15_4, hcz15_5, hcz15_6, hcz15_7, hcz15_8, hfz15_0, hfz15_1, hfz15_2, hfz15_3, hfz15_4, hfz15_5, hfz15_6, hfz15_7, hfz15_8⟩ := cf9 BK1186.out; obtain ⟨hcz16_0, hcz16_1, hcz16_2, hcz16_3, hcz16_4, hcz16_5, hcz16_6, hcz16_7, hcz16_8, hfz16_0, hfz16_1, hfz16_2, hfz16_3, hfz16_4, hfz16_5, hfz16_6, hfz16_7, hfz16_8⟩ := cf9 BK1174.out))
    go_ret
    exact ⟨sE, sB HB.out⟩
   ·have c7b0 := bF c7
    have c7b1 := bM c7
    obtain rfl := Option.some.inj H
    go_enter Tryz.func74, Tryz.ntmps74
    go_wp2_with (first | ((with_reducible refine gD_ (N := 3) rfl ?_); refine bxE (N := 3) #[.int .i64 a1_0, .int .i64 a1_1, .int .i64 a1_2, .int .i64 a1_3, .int .i64 a1_4, .int .i64 a1_5, .int .i64 a1_6, .int .i64 a1_7, .int .i64 a1_8] 39 ?_; intro gb1174 hg w17 hbox hb; have BK1174 := Aq.mk hbox; have GW1174 := yS HB hg; have GE1174 := yS HB hg; replace HB := yB HB hb; clear hb hbox hg; obtain ⟨hcz18_0, hcz18_1, hcz18_2, hcz18_3, hcz18_4, hcz18_5, hcz18_6, hcz18_7, hcz18_8, hfz18_0, hfz18_1, hfz18_2, hfz18_3, hfz18_4, hfz18_5, hfz18_6, hfz18_7, hfz18_8⟩ := cf9 BK1174.out) | ((with_reducible refine gD_ (N := 10) rfl ?_); refine gX 10 rfl #[.slice A0 l0.length c0, .agg #[.int .i64 a1_0, .int .i64 a1_1, .int .i64 a1_2, .int .i64 a1_3, .int .i64 a1_4, .int .i64 a1_5, .int .i64 a1_6, .int .i64 a1_7, .int .i64 a1_8], .int .i64 200, .func (.func 63) #[] #[]] (award_followsSale.calls _ _ l0 a1_0 a1_1 a1_2 a1_3 a1_4 a1_5 a1_6 a1_7 a1_8 t1175 _ (yC HR0 HB) HC0.out A3.out) ?_; intro w19 hb; replace BK1174 := Aq.mk (bB_ (g := gb1174) (o := .cells #[.int .i64 a1_0, .int .i64 a1_1, .int .i64 a1_2, .int .i64 a1_3, .int .i64 a1_4, .int .i64 a1_5, .int .i64 a1_6, .int .i64 a1_7, .int .i64 a1_8] 39 (0, 0)) (sK BK1174.out) hb); replace HB := yB HB hb; try clear hb; obtain ⟨hcz20_0, hcz20_1, hcz20_2, hcz20_3, hcz20_4, hcz20_5, hcz20_6, hcz20_7, hcz20_8, hfz20_0, hfz20_1, hfz20_2, hfz20_3, hfz20_4, hfz20_5, hfz20_6, hfz20_7, hfz20_8⟩ := cf9 BK1174.out) | ((with_reducible refine gD_ (N := 20) rfl ?_); refine gX 20 rfl #[.slice A0 l0.length c0, .int .i64 a1_3, .int .i64 a1_1] (award_sold.calls _ _ l0 a1_3 a1_1 t1176 t1177 t1178 t1179 t1180 t1181 t1182 t1183 t1184 true _ (yC HR0 HB) HC0.out A5.out) ?_; intro w21 hb; replace BK1174 := Aq.mk (bB_ (g := gb1174) (o := .cells #[.int .i64 a1_0, .int .i64 a1_1, .int .i64 a1_2, .int .i64 a1_3, .int .i64 a1_4, .int .i64 a1_5, .int .i64 a1_6, .int .i64 a1_7, .int .i64 a1_8] 39 (0, 0)) (sK BK1174.out) hb); replace HB := yB HB hb; try clear hb) | ((with_reducible refine gD_ (N := 6) rfl ?_); refine bxE (N := 6) #[.int .i64 0, .int .i64 0, .int .i64 0, .int .i64 0, .int .i64 0, .int .i64 0, .int .i64 0, .int .i64 0, .int .i64 0] 39 ?_; intro gb1186 hg w22 hbox hb; have BK1186 := Aq.mk hbox; have GW1186 := yS HB hg; have GE1186 := yS HB hg; have NB1174_1186 := Aq.mk ((by rw [hg]; exact Nat.ne_of_lt (blk_lt (g := gb1174) (o := .cells #[.int .i64 a1_0, .int .i64 a1_1, .int .i64 a1_2, .int .i64 a1_3, .int .i64 a1_4, .int .i64 a1_5, .int .i64 a1_6, .int .i64 a1_7, .int .i64 a1_8] 39 (0, 0)) (sK BK1174.out)) : gb1174 ≠ gb1186)); have NB1186_1174 := Aq.mk ((by rw [hg]; exact Nat.ne_of_gt (blk_lt (g := gb1174) (o := .cells #[.int .i64 a1_0, .int .i64 a1_1, .int .i64 a1_2, .int .i64 a1_3, .int .i64 a1_4, .int .i64 a1_5, .int .i64 a1_6, .int .i64 a1_7, .int .i64 a1_8] 39 (0, 0)) (sK BK1174.out)) : gb1186 ≠ gb1174)); replace BK1174 := Aq.mk (bB_ (g := gb1174) (o := .cells #[.int .i64 a1_0, .int .i64 a1_1, .int .i64 a1_2, .int .i64 a1_3, .int .i64 a1_4, .int .i64 a1_5, .int .i64 a1_6, .int .i64 a1_7, .int .i64 a1_8] 39 (0, 0)) (sK BK1174.out) hb); replace HB := yB HB hb; clear hb hbox hg; have hnb23 := NB1186_1174.out; have hnc23 := NB1174_1186.out; obtain ⟨hcz24_0, hcz24_1, hcz24_2, hcz24_3, hcz24_4, hcz24_5, hcz24_6, hcz24_7, hcz24_8, hfz24_0, hfz24_1, hfz24_2, hfz24_3, hfz24_4, hfz24_5, hfz24_6, hfz24_7, hfz24_8⟩ := cf9 BK1186.out; obtain ⟨hcz25_0, hcz25_1, hcz25_2, hcz25_3, hcz25_4, hcz25_5, hcz25_6, hcz25_7, hcz25_8, hfz25_0, hfz25_1, hfz25_2, hfz25_3, hfz25_4, hfz25_5, hfz25_6, hfz25_7, hfz25_8⟩ := cf9 BK1174.out))
    go_ret
    exact ⟨sE, sB HB.out⟩
  ·obtain rfl := Option.some.inj H
   go_enter Tryz.func74, Tryz.ntmps74
   go_wp2_with (first | ((with_reducible refine gD_ (N := 3) rfl ?_); refine bxE (N := 3) #[.int .i64 a1_0, .int .i64 a1_1, .int .i64 a1_2, .int .i64 a1_3, .int .i64 a1_4, .int .i64 a1_5, .int .i64 a1_6, .int .i64 a1_7, .int .i64 a1_8] 39 ?_; intro gb1174 hg w26 hbox hb; have BK1174 := Aq.mk hbox; have GW1174 := yS HB hg; have GE1174 := yS HB hg; replace HB := yB HB hb; clear hb hbox hg; obtain ⟨hcz27_0, hcz27_1, hcz27_2, hcz27_3, hcz27_4, hcz27_5, hcz27_6, hcz27_7, hcz27_8, hfz27_0, hfz27_1, hfz27_2, hfz27_3, hfz27_4, hfz27_5, hfz27_6, hfz27_7, hfz27_8⟩ := cf9 BK1174.out) | ((with_reducible refine gD_ (N := 10) rfl ?_); refine gX 10 rfl #[.slice A0 l0.length c0, .agg #[.int .i64 a1_0, .int .i64 a1_1, .int .i64 a1_2, .int .i64 a1_3, .int .i64 a1_4, .int .i64 a1_5, .int .i64 a1_6, .int .i64 a1_7, .int .i64 a1_8], .int .i64 200, .func (.func 63) #[] #[]] (award_followsSale.calls _ _ l0 a1_0 a1_1 a1_2 a1_3 a1_4 a1_5 a1_6 a1_7 a1_8 t1175 _ (yC HR0 HB) HC0.out A3.out) ?_; intro w28 hb; replace BK1174 := Aq.mk (bB_ (g := gb1174) (o := .cells #[.int .i64 a1_0, .int .i64 a1_1, .int .i64 a1_2, .int .i64 a1_3, .int .i64 a1_4, .int .i64 a1_5, .int .i64 a1_6, .int .i64 a1_7, .int .i64 a1_8] 39 (0, 0)) (sK BK1174.out) hb); replace HB := yB HB hb; try clear hb; obtain ⟨hcz29_0, hcz29_1, hcz29_2, hcz29_3, hcz29_4, hcz29_5, hcz29_6, hcz29_7, hcz29_8, hfz29_0, hfz29_1, hfz29_2, hfz29_3, hfz29_4, hfz29_5, hfz29_6, hfz29_7, hfz29_8⟩ := cf9 BK1174.out) | ((with_reducible refine gD_ (N := 20) rfl ?_); refine gX 20 rfl #[.slice A0 l0.length c0, .int .i64 a1_3, .int .i64 a1_1] (award_sold.calls _ _ l0 a1_3 a1_1 t1176 t1177 t1178 t1179 t1180 t1181 t1182 t1183 t1184 false _ (yC HR0 HB) HC0.out A5.out) ?_; intro w30 hb; replace BK1174 := Aq.mk (bB_ (g := gb1174) (o := .cells #[.int .i64 a1_0, .int .i64 a1_1, .int .i64 a1_2, .int .i64 a1_3, .int .i64 a1_4, .int .i64 a1_5, .int .i64 a1_6, .int .i64 a1_7, .int .i64 a1_8] 39 (0, 0)) (sK BK1174.out) hb); replace HB := yB HB hb; try clear hb) | ((with_reducible refine gD_ (N := 6) rfl ?_); refine bxE (N := 6) #[.int .i64 0, .int .i64 0, .int .i64 0, .int .i64 0, .int .i64 0, .int .i64 0, .int .i64 0, .int .i64 0, .int .i64 0] 39 ?_; intro gb1186 hg w31 hbox hb; have BK1186 := Aq.mk hbox; have GW1186 := yS HB hg; have GE1186 := yS HB hg; have NB1174_1186 := Aq.mk ((by rw [hg]; exact Nat.ne_of_lt (blk_lt (g := gb1174) (o := .cells #[.int .i64 a1_0, .int .i64 a1_1, .int .i64 a1_2, .int .i64 a1_3, .int .i64 a1_4, .int .i64 a1_5, .int .i64 a1_6, .int .i64 a1_7, .int .i64 a1_8] 39 (0, 0)) (sK BK1174.out)) : gb1174 ≠ gb1186)); have NB1186_1174 := Aq.mk ((by rw [hg]; exact Nat.ne_of_gt (blk_lt (g := gb1174) (o := .cells #[.int .i64 a1_0, .int .i64 a1_1, .int .i64 a1_2, .int .i64 a1_3, .int .i64 a1_4, .int .i64 a1_5, .int .i64 a1_6, .int .i64 a1_7, .int .i64 a1_8] 39 (0, 0)) (sK BK1174.out)) : gb1186 ≠ gb1174)); replace BK1174 := Aq.mk (bB_ (g := gb1174) (o := .cells #[.int .i64 a1_0, .int .i64 a1_1, .int .i64 a1_2, .int .i64 a1_3, .int .i64 a1_4, .int .i64 a1_5, .int .i64 a1_6, .int .i64 a1_7, .int .i64 a1_8] 39 (0, 0)) (sK BK1174.out) hb); replace HB := yB HB hb; clear hb hbox hg; have hnb32 := NB1186_1174.out; have hnc32 := NB1174_1186.out; obtain ⟨hcz33_0, hcz33_1, hcz33_2, hcz33_3, hcz33_4, hcz33_5, hcz33_6, hcz33_7, hcz33_8, hfz33_0, hfz33_1, hfz33_2, hfz33_3, hfz33_4, hfz33_5, hfz33_6, hfz33_7, hfz33_8⟩ := cf9 BK1186.out))
   go_ret
   exact ⟨sE, sB HB.out⟩
 ·have c4b0 := bF c4
  have c4b1 := bM c4
  obtain rfl := Option.some.inj H
  go_enter Tryz.func74, Tryz.ntmps74
  go_wp2_with (first | ((with_reducible refine gD_ (N := 3) rfl ?_); refine bxE (N := 3) #[.int .i64 a1_0, .int .i64 a1_1, .int .i64 a1_2, .int .i64 a1_3, .int .i64 a1_4, .int .i64 a1_5, .int .i64 a1_6, .int .i64 a1_7, .int .i64 a1_8] 39 ?_; intro gb1174 hg w34 hbox hb; have BK1174 := Aq.mk hbox; have GW1174 := yS HB hg; have GE1174 := yS HB hg; replace HB := yB HB hb; clear hb hbox hg; obtain ⟨hcz35_0, hcz35_1, hcz35_2, hcz35_3, hcz35_4, hcz35_5, hcz35_6, hcz35_7, hcz35_8, hfz35_0, hfz35_1, hfz35_2, hfz35_3, hfz35_4, hfz35_5, hfz35_6, hfz35_7, hfz35_8⟩ := cf9 BK1174.out) | ((with_reducible refine gD_ (N := 10) rfl ?_); refine gX 10 rfl #[.slice A0 l0.length c0, .agg #[.int .i64 a1_0, .int .i64 a1_1, .int .i64 a1_2, .int .i64 a1_3, .int .i64 a1_4, .int .i64 a1_5, .int .i64 a1_6, .int .i64 a1_7, .int .i64 a1_8], .int .i64 200, .func (.func 63) #[] #[]] (award_followsSale.calls _ _ l0 a1_0 a1_1 a1_2 a1_3 a1_4 a1_5 a1_6 a1_7 a1_8 t1175 _ (yC HR0 HB) HC0.out A3.out) ?_; intro w36 hb; replace BK1174 := Aq.mk (bB_ (g := gb1174) (o := .cells #[.int .i64 a1_0, .int .i64 a1_1, .int .i64 a1_2, .int .i64 a1_3, .int .i64 a1_4, .int .i64 a1_5, .int .i64 a1_6, .int .i64 a1_7, .int .i64 a1_8] 39 (0, 0)) (sK BK1174.out) hb); replace HB := yB HB hb; try clear hb))
  go_ret
  exact ⟨sE, sB HB.out⟩
end
section
open Go.Shelf
def sellsS (l : List S39) (x : S39) : Int := if followsS l x = 0 then (if (soldS l x.f3 x.f1).isSome && (x.f8 == 0) then 61 else 0) else followsS l x
theorem sells_f (l : List S39) (x : S39) : award_sells.f l x.f0 x.f1 x.f2 x.f3 x.f4 x.f5 x.f6 x.f7 x.f8 = some (sellsS l x) := by
 unfold award_sells.f sellsS award_followsSale.f award_sold.f
 simp only [Option.bind_some]
 by_cases h : followsS l x = 0
 ·rw [if_pos h, if_pos h]
  cases soldS l x.f3 x.f1 with
  | none => simp
  | some y => by_cases h8 : x.f8 = 0 <;> simp [h8]
 ·rw [if_neg h, if_neg h]
theorem sells_any (A : Option Addr) (c : Nat) (l : List S39) (X : S39) (w : World) (hr0 : Kd.C k39 w A l.length l) (hc : l.length ≤ c) :
  Calls Tryz.prog 74 #[.slice A l.length c, .agg #[.int .i64 X.f0, .int .i64 X.f1, .int .i64 X.f2, .int .i64 X.f3, .int .i64 X.f4, .int .i64 X.f5, .int .i64 X.f6, .int .i64 X.f7, .int .i64 X.f8]] w fun e w' => e = .returned (.int .i64 (sellsS l X)) ∧ Below w.heap.size w w' :=
 award_sells.calls A c l _ _ _ _ _ _ _ _ _ _ w hr0 hc (sells_f l X)
def award_CheckSales.f (l : List S39) : Option (Int × Int) := some (checks sellsS [] l 0)
set_option maxRecDepth 100000 in
set_option maxHeartbeats 4000000 in
theorem award_CheckSales.calls (A0 : Option Addr) (c0 : Nat) (l0 : List (S39)) (r1 : Int) (r2 : Int) (w : World) (hr0 : Kd.C k39 w A0 l0.length l0) (hc0 : l0.length ≤ c0) (h : award_CheckSales.f l0 = some (r1, r2)) :
  Calls Tryz.prog 33 #[.slice A0 l0.length c0] w fun e w' => e = .returned (.tuple #[.int .i64 r1, .int .i64 r2]) ∧ Below w.heap.size w w' := by
 have hm : l0.length ≤ 9223372036854775807 := hr0.2.1
 have hmx : c0 ≤ maxLen ∨ True := .inr trivial
 have HR := Aq.mk hr0
 have HA := Aq.mk (Option.some.inj h)
 clear hr0 h hmx
 have HB0 := Aq.mk (Below.refl w.heap.size w)
 go_enter Tryz.func33, Tryz.ntmps33
 go_wp2
 go_loopg [9] l0.length (fun gg s9 wr => ∃ kk : Nat, kk ≤ l0.length ∧ l0.length - kk ≤ gg ∧ s9 = .int .i64 kk ∧ Aq (Below w.heap.size w wr) ∧ Aq (checks sellsS (l0.take kk) (l0.drop kk) kk = (r1, r2)))
 case atStart => exact ⟨0, Nat.zero_le _, by omega, rfl, HB0, ⟨by simpa using HA.out⟩⟩
 case round =>
  clear HB0 HA
  obtain ⟨kk, hkk, hg, rfl, HB, HA⟩ := hrel
  by_cases hlt : kk < l0.length
  ·have hltz : (kk : Int) < (l0.length : Int) := by omega
   have h0 : (0 : Int) ≤ (kk : Int) := by omega
   have h0c : kk ≤ c0 := by omega
   have h0d : (kk : Int) ≤ (c0 : Int) := by omega
   obtain ⟨ad, e_, hx0, hx1, hx2, hx3, hx4, hx5, hx6, hx7, hx8⟩ := at_T39 HR.out (kk : Int) h0 hltz
   cases e_
   obtain ⟨_, HD⟩ := rdT39_drop l0 kk hlt
   generalize rd_T39 l0 (kk : Int) = X at hx0 hx1 hx2 hx3 hx4 hx5 hx6 hx7 hx8 HD
   replace hx0 := mv HB hx0
   replace hx1 := mv HB hx1
   replace hx2 := mv HB hx2
   replace hx3 := mv HB hx3
   replace hx4 := mv HB hx4
   replace hx5 := mv HB hx5
   replace hx6 := mv HB hx6
   replace hx7 := mv HB hx7
   replace hx8 := mv HB hx8
   simp only [Int.toNat_natCast] at hx0 hx1 hx2 hx3 hx4 hx5 hx6 hx7 hx8
   have HC : Aq (∀ W : World, Below w.heap.size w W → Calls Tryz.prog 74 #[.slice (some ad) kk kk, .agg #[.int .i64 X.f0, .int .i64 X.f1, .int .i64 X.f2, .int .i64 X.f3, .int .i64 X.f4, .int .i64 X.f5, .int .i64 X.f6, .int .i64 X.f7, .int .i64 X.f8]] W fun e w' => e = .returned (.int .i64 (sellsS (l0.take kk) X)) ∧ Below W.heap.size W w') := ⟨fun W hW => by
    have hl : (l0.take kk).length = kk := by rw [List.length_take]; omega
    have z := sells_any (some ad) kk (l0.take kk) X W (Kd.C_below (Kd.C_take HR.out (by omega)) hW) (Nat.le_of_eq hl)
    rw [hl] at z
    exact z⟩
   have HT : Aq (l0.take (kk + 1) = l0.take kk ++ [X]) := ⟨take_snoc_drop HD⟩
   have HA2 : Aq ((if sellsS (l0.take kk) X ≠ 0 then ((kk : Int), sellsS (l0.take kk) X) else checks sellsS (l0.take (kk + 1)) (l0.drop (kk + 1)) ((kk : Int) + 1)) = (r1, r2)) := ⟨by
    have z := HA.out
    rw [HD] at z
    rw [HT.out]
    exact z⟩
   clear HA HT HD
   generalize sellsS (l0.take kk) X = fv at HC HA2
   go_wp2_with (first | ((with_reducible refine gD_ (N := 5) rfl ?_); refine bxE (N := 5) #[.int .i64 0, .int .i64 0, .int .i64 0, .int .i64 0, .int .i64 0, .int .i64 0, .int .i64 0, .int .i64 0, .int .i64 0] 39 ?_; intro bx hg wb hbox hb; have n0_ := Aq.mk (bS_ HB.out hb); have HX := Aq.mk hbox; have GX := Aq.mk (by rw [hg]; exact HB.out.size : w.heap.size ≤ bx); clear HB hb hbox hg hx0 hx1 hx2 hx3 hx4 hx5 hx6 hx7 hx8; have HB := n0_; clear n0_; have hz0 : wb.cell? ⟨bx, 0, none⟩ = some (.int .i64 0) := (bC_ HX.out 0).trans rfl; have hf0 := bR_ HX.out 0; have hz1 : wb.cell? ⟨bx, 1, none⟩ = some (.int .i64 0) := (bC_ HX.out 1).trans rfl; have hf1 := bR_ HX.out 1; have hz2 : wb.cell? ⟨bx, 2, none⟩ = some (.int .i64 0) := (bC_ HX.out 2).trans rfl; have hf2 := bR_ HX.out 2; have hz3 : wb.cell? ⟨bx, 3, none⟩ = some (.int .i64 0) := (bC_ HX.out 3).trans rfl; have hf3 := bR_ HX.out 3; have hz4 : wb.cell? ⟨bx, 4, none⟩ = some (.int .i64 0) := (bC_ HX.out 4).trans rfl; have hf4 := bR_ HX.out 4; have hz5 : wb.cell? ⟨bx, 5, none⟩ = some (.int .i64 0) := (bC_ HX.out 5).trans rfl; have hf5 := bR_ HX.out 5; have hz6 : wb.cell? ⟨bx, 6, none⟩ = some (.int .i64 0) := (bC_ HX.out 6).trans rfl; have hf6 := bR_ HX.out 6; have hz7 : wb.cell? ⟨bx, 7, none⟩ = some (.int .i64 0) := (bC_ HX.out 7).trans rfl; have hf7 := bR_ HX.out 7; have hz8 : wb.cell? ⟨bx, 8, none⟩ = some (.int .i64 0) := (bC_ HX.out 8).trans rfl; have hf8 := bR_ HX.out 8))
   have m0_ : (((((((((wb.setCell ⟨bx, 0, none⟩ (.int .i64 X.f0)).setCell ⟨bx, 1, none⟩ (.int .i64 X.f1)).setCell ⟨bx, 2, none⟩ (.int .i64 X.f2)).setCell ⟨bx, 3, none⟩ (.int .i64 X.f3)).setCell ⟨bx, 4, none⟩ (.int .i64 X.f4)).setCell ⟨bx, 5, none⟩ (.int .i64 X.f5)).setCell ⟨bx, 6, none⟩ (.int .i64 X.f6)).setCell ⟨bx, 7, none⟩ (.int .i64 X.f7)).setCell ⟨bx, 8, none⟩ (.int .i64 X.f8)).heap[bx]? = some (.cells #[.int .i64 X.f0, .int .i64 X.f1, .int .i64 X.f2, .int .i64 X.f3, .int .i64 X.f4, .int .i64 X.f5, .int .i64 X.f6, .int .i64 X.f7, .int .i64 X.f8] 39 (0, 0)) := bP_ (bP_ (bP_ (bP_ (bP_ (bP_ (bP_ (bP_ (bP_ (HX.out) 0 _ rfl) 1 _ rfl) 2 _ rfl) 3 _ rfl) 4 _ rfl) 5 _ rfl) 6 _ rfl) 7 _ rfl) 8 _ rfl
   have m1_ : Below w.heap.size w (((((((((wb.setCell ⟨bx, 0, none⟩ (.int .i64 X.f0)).setCell ⟨bx, 1, none⟩ (.int .i64 X.f1)).setCell ⟨bx, 2, none⟩ (.int .i64 X.f2)).setCell ⟨bx, 3, none⟩ (.int .i64 X.f3)).setCell ⟨bx, 4, none⟩ (.int .i64 X.f4)).setCell ⟨bx, 5, none⟩ (.int .i64 X.f5)).setCell ⟨bx, 6, none⟩ (.int .i64 X.f6)).setCell ⟨bx, 7, none⟩ (.int .i64 X.f7)).setCell ⟨bx, 8, none⟩ (.int .i64 X.f8)) := bT_ (bT_ (bT_ (bT_ (bT_ (bT_ (bT_ (bT_ (bT_ (HB.out) GX.out) GX.out) GX.out) GX.out) GX.out) GX.out) GX.out) GX.out) GX.out
   clear HB HX hz0 hf0 hz1 hf1 hz2 hf2 hz3 hf3 hz4 hf4 hz5 hf5 hz6 hf6 hz7 hf7 hz8 hf8
   generalize (((((((((wb.setCell ⟨bx, 0, none⟩ (.int .i64 X.f0)).setCell ⟨bx, 1, none⟩ (.int .i64 X.f1)).setCell ⟨bx, 2, none⟩ (.int .i64 X.f2)).setCell ⟨bx, 3, none⟩ (.int .i64 X.f3)).setCell ⟨bx, 4, none⟩ (.int .i64 X.f4)).setCell ⟨bx, 5, none⟩ (.int .i64 X.f5)).setCell ⟨bx, 6, none⟩ (.int .i64 X.f6)).setCell ⟨bx, 7, none⟩ (.int .i64 X.f7)).setCell ⟨bx, 8, none⟩ (.int .i64 X.f8)) = wb2 at m0_ m1_ ⊢
   have HB := Aq.mk m1_
   have HX := Aq.mk m0_
   clear m0_ m1_
   refine stT 7 (fun w' => w'.cell? ⟨bx, 0, none⟩ = some (.int .i64 X.f0) ∧ w'.cell? ⟨bx, 1, none⟩ = some (.int .i64 X.f1) ∧ w'.cell? ⟨bx, 2, none⟩ = some (.int .i64 X.f2) ∧ w'.cell? ⟨bx, 3, none⟩ = some (.int .i64 X.f3) ∧ w'.cell? ⟨bx, 4, none⟩ = some (.int .i64 X.f4) ∧ w'.cell? ⟨bx, 5, none⟩ = some (.int .i64 X.f5) ∧ w'.cell? ⟨bx, 6, none⟩ = some (.int .i64 X.f6) ∧ w'.cell? ⟨bx, 7, none⟩ = some (.int .i64 X.f7) ∧ w'.cell? ⟨bx, 8, none⟩ = some (.int .i64 X.f8)) ⟨(bC_ (bD_ HX.out) 0).trans rfl, (bC_ (bD_ HX.out) 1).trans rfl, (bC_ (bD_ HX.out) 2).trans rfl, (bC_ (bD_ HX.out) 3).trans rfl, (bC_ (bD_ HX.out) 4).trans rfl, (bC_ (bD_ HX.out) 5).trans rfl, (bC_ (bD_ HX.out) 6).trans rfl, (bC_ (bD_ HX.out) 7).trans rfl, (bC_ (bD_ HX.out) 8).trans rfl⟩ (fun hHeld => ?_)
   replace HB := Aq.mk (bE_ HB.out)
   replace HX := Aq.mk (bD_ HX.out)
   generalize wb2.drew = wd at HB HX hHeld ⊢
   refine pI 0 14 ?_
   refine pI 1 15 ?_
   refine pI 2 16 ?_
   refine pI 3 17 ?_
   refine tI 4 18 hHeld ?_
   refine one_ (i := 5) (N := some 19) #[true, true, true, true, true, true, false] rfl rfl (by kernel_rfl) (by decide) (fun K hK => ?_)
   refine goes_ Tryz.func74 (by kernel_rfl) rfl #[.slice (some ad) kk kk, .agg #[.int .i64 X.f0, .int .i64 X.f1, .int .i64 X.f2, .int .i64 X.f3, .int .i64 X.f4, .int .i64 X.f5, .int .i64 X.f6, .int .i64 X.f7, .int .i64 X.f8]] (by rfl) rfl rfl (by simp only [List.map_toArray, List.map_cons, List.map_nil]; rfl) ?_
   with_reducible refine (HC.out _ HB.out).mono ?_
   rintro e wr2 ⟨rfl, hb⟩
   refine ⟨_, rfl, ?_⟩
   replace HB := Aq.mk (bS_ HB.out hb)
   refine hK.out _ _ (hh hb hHeld) (fun hHeld => ?_)
   clear hK K
   refine nM 19 ?_
   refine pI 6 6 ?_
   refine done_ (by kernel_rfl) ?_
   by_cases hfv : fv = 0
   ·have hb1 : (fv != 0) = false := bne_eq_false_iff_eq.mpr hfv
    have HA3 : Aq (checks sellsS (l0.take (kk + 1)) (l0.drop (kk + 1)) ((kk : Int) + 1) = (r1, r2)) := ⟨by have z := HA2.out; rw [if_neg (by simpa using hfv)] at z; exact z⟩
    clear hfv HA2 HC
    go_wp2
    go_roundg (l0.length - (kk + 1))
    case measure => omega
    case rel => exact ⟨kk + 1, by omega, by omega, by go_num, HB, ⟨by have z := HA3.out; simpa using z⟩⟩
   ·have hb1 : (fv != 0) = true := bne_iff_ne.mpr hfv
    have HA3 : Aq (((kk : Int), fv) = (r1, r2)) := ⟨by have z := HA2.out; rw [if_pos hfv] at z; exact z⟩
    clear hfv HA2 HC
    go_wp2
    go_ret2
    exact ⟨by injection HA3.out with e1 e2; rw [← e1, ← e2]; rfl, HB.out⟩
  ·have hltz : ¬ (kk : Int) < (l0.length : Int) := by omega
   have HA3 : Aq (((0 : Int), (0 : Int)) = (r1, r2)) := ⟨by have z := HA.out; rw [List.drop_eq_nil_of_le (by omega)] at z; exact z⟩
   clear HA
   go_wp2
   go_ret2
   exact ⟨by injection HA3.out with e1 e2; rw [← e1, ← e2]; rfl, HB.out⟩
end
end Go.Proofs.YtbicfbnempiocaaGreat.G
